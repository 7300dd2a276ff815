/-
  SubsMay: what is asked behind a move that was made.
-/
import Derived.Test.YtjelnndiahkoeaaMayD
import Derived.Deep.CutRange
import Derived.Deep.Light
namespace Go.Proofs.Ytjelnndiahkoeaa
open Go.RowKit

def starts40 : Code → Bool
  | .region m _ _ => m == 40
  | .seq a _ => starts40 a
  | _ => false

def findTail : Code → Option Code
  | .seq a b => if starts40 a then some (.seq a b) else match findTail a with
    | some c => some c
    | none => findTail b
  | .block _ c => findTail c
  | .loop c => findTail c
  | .scope c => findTail c
  | .cond _ a b => match findTail a with
    | some c => some c
    | none => findTail b
  | _ => none

noncomputable def tail40 : Code := (Try.f5.body.bind findTail).getD .skip

theorem cut_plain {P : Program} {s : Code} {R J K' : Act → World → Prop} {Q' : Exit → Act → World → Prop} {a : Act} {w : World} (hR : ∀ a w, R a w → J a w) (hK : ∀ a w, Met J a w → K' a w)
    (h : ∀ (K2 : Act → World → Prop), (∀ a w, R a w → K2 a w) → s.wp P (Exit.then K2 (fun _ _ _ => False)) a w) : s.wp P (Exit.then K' Q') a w :=
  Code.wp_mono (fun e a w hq => by cases e <;> first | exact hq | exact (show False from hq).elim) (h K' fun a w r => hK a w (Met.intro (hR a w r)))


set_option maxRecDepth 100000 in
set_option maxHeartbeats 8000000 in
theorem tail_walk {t f o i b b' : Bool} {w wr : World} {c0 c1 c2 c7 c8 c9 c10 c11 c12 c13 c14 c15 c16 c17 c18 c19 c20 c21 c22 c23 c24 c25 c26 c27 c28 c29 c30 c31 c32 c33 c34 c35 c36 c37 c38 c39 c40 c41 c42 c43 c44 c45 c46 c47 c48 c49 c50 c51 c52 c53 c54 c55 c56 c57 c58 c59 c60 c61 c62 c63 c64 c65 c66 c67 c68 c69 c70 c71 c72 c73 c74 c75 c76 c77 c78 c79 c80 c81 c82 c83 c84 c85 c86 c87 c88 c89 c90 c91 c92 c93 c94 c95 c96 c97 c98 c99 c100 c101 c102 c103 c104 c105 c106 c107 c108 c109 c110 c111 c112 c113 c114 c115 c116 c117 c118 c119 c120 c121 c122 c123 c124 c125 c126 c127 c128 c129 c130 c131 c132 c133 c134 c135 c136 c137 c138 c139 c140 c141 c142 c143 c144 c145 c146 c147 c148 c149 c150 c151 c152 c153 c154 c155 c156 c157 c158 c159 c160 c161 c162 c163 c164 c165 c166 c167 c168 c169 c170 c171 c172 c173 c174 c175 c176 c177 c178 c179 c180 c181 c182 c183 c184 c185 c186 c187 c188 : Value} {Q : Exit → Act → World → Prop} (hM : MM ⟨t, f, o, i, b⟩ ⟨f, t, i, o, b'⟩ o i t f b b' w wr) (hfit : fitsB t f o i b f t i o b' = true)
    (hQ : ∀ (u2 u13 u128 u129 u130 u131 u132 u133 u134 u135 u136 u137 u138 u139 u140 u141 u142 u143 u144 u145 u146 u147 u148 u149 u150 u151 u152 u153 u154 u155 u156 u157 u158 u159 u160 u161 u162 u163 u164 u165 u166 u167 u168 u169 u170 u171 u172 u173 u174 u175 u176 u177 u178 u179 u180 u181 u182 u183 u184 u185 u186 u187 : Value) (w9 : World), MM ⟨t, f, o, i, b⟩ ⟨f, t, i, o, b'⟩ o i t f b b' w w9 → Q .normal ⟨#[c0, c1, u2, .pointer (some ⟨w.heap.size, 0, none⟩), .pointer (some ⟨w.heap.size + 1, 0, none⟩), .pointer (some ⟨w.heap.size + 1 + 1, 0, none⟩), .pointer (some ⟨w.heap.size + 1 + 1 + 1, 0, none⟩), c7, c8, c9, c10, c11, c12, u13, c14, c15, c16, c17, c18, c19, c20, c21, c22, c23, c24, c25, c26, c27, c28, c29, c30, c31, c32, c33, c34, c35, c36, c37, c38, c39, c40, c41, c42, c43, c44, c45, c46, c47, c48, c49, c50, c51, c52, c53, c54, c55, c56, c57, c58, c59, c60, c61, c62, c63, c64, c65, c66, c67, c68, c69, c70, c71, c72, c73, c74, c75, c76, c77, c78, c79, c80, c81, c82, c83, c84, c85, c86, c87, c88, c89, c90, c91, c92, c93, c94, c95, c96, c97, c98, c99, c100, c101, c102, c103, c104, c105, c106, c107, c108, c109, c110, c111, c112, c113, c114, c115, c116, c117, c118, c119, c120, c121, c122, c123, c124, c125, c126, c127, u128, u129, u130, u131, u132, u133, u134, u135, u136, u137, u138, u139, u140, u141, u142, u143, u144, u145, u146, u147, u148, u149, u150, u151, u152, u153, u154, u155, u156, u157, u158, u159, u160, u161, u162, u163, u164, u165, u166, u167, u168, u169, u170, u171, u172, u173, u174, u175, u176, u177, u178, u179, u180, u181, u182, u183, u184, u185, u186, u187, c188], []⟩ w9) :
    Code.wp Try.prog tail40 Q ⟨#[c0, c1, c2, .pointer (some ⟨w.heap.size, 0, none⟩), .pointer (some ⟨w.heap.size + 1, 0, none⟩), .pointer (some ⟨w.heap.size + 1 + 1, 0, none⟩), .pointer (some ⟨w.heap.size + 1 + 1 + 1, 0, none⟩), c7, c8, c9, c10, c11, c12, c13, c14, c15, c16, c17, c18, c19, c20, c21, c22, c23, c24, c25, c26, c27, c28, c29, c30, c31, c32, c33, c34, c35, c36, c37, c38, c39, c40, c41, c42, c43, c44, c45, c46, c47, c48, c49, c50, c51, c52, c53, c54, c55, c56, c57, c58, c59, c60, c61, c62, c63, c64, c65, c66, c67, c68, c69, c70, c71, c72, c73, c74, c75, c76, c77, c78, c79, c80, c81, c82, c83, c84, c85, c86, c87, c88, c89, c90, c91, c92, c93, c94, c95, c96, c97, c98, c99, c100, c101, c102, c103, c104, c105, c106, c107, c108, c109, c110, c111, c112, c113, c114, c115, c116, c117, c118, c119, c120, c121, c122, c123, c124, c125, c126, c127, c128, c129, c130, c131, c132, c133, c134, c135, c136, c137, c138, c139, c140, c141, c142, c143, c144, c145, c146, c147, c148, c149, c150, c151, c152, c153, c154, c155, c156, c157, c158, c159, c160, c161, c162, c163, c164, c165, c166, c167, c168, c169, c170, c171, c172, c173, c174, c175, c176, c177, c178, c179, c180, c181, c182, c183, c184, c185, c186, c187, c188], []⟩ wr := by
  have HM := Lib.hid hM
  have HF := Lib.hid hfit
  have HF2 := Lib.hid ((fits_swap _ _ _ _ _ _ _ _ _ _).symm.trans hfit)
  have HQ := Lib.hid hQ
  clear hM hfit hQ
  conv => arg 2; whnf
  obtain ⟨⟨d0, d1, d2, d3, d4, d5, d6, d7, d8, d9, df, dl⟩, ⟨a0, a1, af, al⟩, ⟨s0, s1, sf, sl⟩, ⟨k0, k1, kf, kl⟩, -⟩ := HM.out
  go_wp2_with fail
  refine (may_any _ _ _ _ _ _ _ _ _ _ _).mono ?_
  rintro e w5 ⟨rfl, hb⟩
  replace HM := Lib.hid (HM.out.kept hb)
  clear hb
  clear d0 d1 d2 d3 d4 d5 d6 d7 d8 d9 df dl a0 a1 af al s0 s1 sf sl k0 k1 kf kl
  obtain ⟨⟨d0, d1, d2, d3, d4, d5, d6, d7, d8, d9, df, dl⟩, ⟨a0, a1, af, al⟩, ⟨s0, s1, sf, sl⟩, ⟨k0, k1, kf, kl⟩, -⟩ := HM.out
  rw [HF.out]
  go_wp2_with fail
  refine (may_any _ _ _ _ _ _ _ _ _ _ _).mono ?_
  rintro e w5 ⟨rfl, hb⟩
  replace HM := Lib.hid (HM.out.kept hb)
  clear hb
  clear d0 d1 d2 d3 d4 d5 d6 d7 d8 d9 df dl a0 a1 af al s0 s1 sf sl k0 k1 kf kl
  obtain ⟨⟨d0, d1, d2, d3, d4, d5, d6, d7, d8, d9, df, dl⟩, ⟨a0, a1, af, al⟩, ⟨s0, s1, sf, sl⟩, ⟨k0, k1, kf, kl⟩, -⟩ := HM.out
  rw [HF2.out]
  go_wp2_with fail
  go_loopw [13] (fun s13 wx => ∃ j : Int, (j = 0 ∨ j = 1 ∨ j = 2) ∧ s13 = .int .i64 j ∧ MM ⟨t, f, o, i, b⟩ ⟨f, t, i, o, b'⟩ o i t f b b' w wx) (fun s13 _ => 2 - (intOf s13).toNat)
  case atStart => exact ⟨0, .inl rfl, rfl, HM.out⟩
  case round =>
    clear d0 d1 d2 d3 d4 d5 d6 d7 d8 d9 df dl a0 a1 af al s0 s1 sf sl k0 k1 kf kl
    clear HM
    obtain ⟨j, hj, rfl, hmm⟩ := hrel
    have HM := Lib.hid hmm
    clear hmm
    rcases hj with rfl | rfl | rfl
    · go_upto_region 45 with fail
      go_cut [187] from 146 to 187 (fun v wx => v = .bool false ∧ MM ⟨t, f, o, i, b⟩ ⟨f, t, i, o, b'⟩ o i t f b b' w wx)
      case first =>
        rename_i J K1 hJ hK
        refine cut_plain hJ hK ?_
        intro K2 hK2
        go_light
        have HX0 := HM.out
        clear HM HF HF2
        have hcs : t = false ∨ (t = true ∧ b = true) ∨ (t = true ∧ b = false) := by cases t <;> cases b <;> simp
        rcases hcs with rfl | ⟨rfl, rfl⟩ | ⟨rfl, rfl⟩
        · refine cmp0_0 HX0 ?_
          intros
          refine hK2 _ _ ⟨_, _, _, _, _, _, _, _, _, _, _, _, _, _, _, _, _, _, _, _, _, _, _, _, _, _, _, _, _, _, _, _, _, _, _, _, _, _, _, _, _, _, ⟨rfl, by assumption⟩, rfl⟩
        · refine cmp0_1 HX0 ?_
          intros
          refine hK2 _ _ ⟨_, _, _, _, _, _, _, _, _, _, _, _, _, _, _, _, _, _, _, _, _, _, _, _, _, _, _, _, _, _, _, _, _, _, _, _, _, _, _, _, _, _, ⟨rfl, by assumption⟩, rfl⟩
        · refine cmp0_2 HX0 ?_
          intros
          refine hK2 _ _ ⟨_, _, _, _, _, _, _, _, _, _, _, _, _, _, _, _, _, _, _, _, _, _, _, _, _, _, _, _, _, _, _, _, _, _, _, _, _, _, _, _, _, _, ⟨rfl, by assumption⟩, rfl⟩
      case rest =>
        obtain ⟨rfl, hmm⟩ := hcut
        have HX := Lib.hid hmm
        clear hmm
        go_wp2_with fail
        go_roundw
        case rel => exact ⟨1, .inr (.inl rfl), rfl, HX.out⟩
        case measure => simp [intOf]
    · go_upto_region 45 with fail
      go_cut [187] from 146 to 187 (fun v wx => v = .bool false ∧ MM ⟨t, f, o, i, b⟩ ⟨f, t, i, o, b'⟩ o i t f b b' w wx)
      case first =>
        rename_i J K1 hJ hK
        refine cut_plain hJ hK ?_
        intro K2 hK2
        go_light
        have HX0 := HM.out
        clear HM HF HF2
        have hcs : f = false ∨ (f = true ∧ b = true) ∨ (f = true ∧ b = false) := by cases f <;> cases b <;> simp
        rcases hcs with rfl | ⟨rfl, rfl⟩ | ⟨rfl, rfl⟩
        · refine cmp1_0 HX0 ?_
          intros
          refine hK2 _ _ ⟨_, _, _, _, _, _, _, _, _, _, _, _, _, _, _, _, _, _, _, _, _, _, _, _, _, _, _, _, _, _, _, _, _, _, _, _, _, _, _, _, _, _, ⟨rfl, by assumption⟩, rfl⟩
        · refine cmp1_1 HX0 ?_
          intros
          refine hK2 _ _ ⟨_, _, _, _, _, _, _, _, _, _, _, _, _, _, _, _, _, _, _, _, _, _, _, _, _, _, _, _, _, _, _, _, _, _, _, _, _, _, _, _, _, _, ⟨rfl, by assumption⟩, rfl⟩
        · refine cmp1_2 HX0 ?_
          intros
          refine hK2 _ _ ⟨_, _, _, _, _, _, _, _, _, _, _, _, _, _, _, _, _, _, _, _, _, _, _, _, _, _, _, _, _, _, _, _, _, _, _, _, _, _, _, _, _, _, ⟨rfl, by assumption⟩, rfl⟩
      case rest =>
        obtain ⟨rfl, hmm⟩ := hcut
        have HX := Lib.hid hmm
        clear hmm
        go_wp2_with fail
        go_roundw
        case rel => exact ⟨2, .inr (.inr rfl), rfl, HX.out⟩
        case measure => simp [intOf]
    · go_wp2_with fail
      exact HQ.out _ _ _ _ _ _ _ _ _ _ _ _ _ _ _ _ _ _ _ _ _ _ _ _ _ _ _ _ _ _ _ _ _ _ _ _ _ _ _ _ _ _ _ _ _ _ _ _ _ _ _ _ _ _ _ _ _ _ _ _ _ _ _ HM.out
end Go.Proofs.Ytjelnndiahkoeaa
