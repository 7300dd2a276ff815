/-
  SubsMay: what the law keeps of a move that was made, kind by kind.
-/
import Derived.Test.YtjelnndiahkoeaaMayE
namespace Go.Proofs.Ytjelnndiahkoeaa
open Go.RowKit

def findBlock (n : Nat) : Code → Option Code
  | .block m c => if m == n then some (.block m c) else findBlock n c
  | .seq a b => match findBlock n a with
    | some c => some c
    | none => findBlock n b
  | .loop c => findBlock n c
  | .scope c => findBlock n c
  | .cond _ a b => match findBlock n a with
    | some c => some c
    | none => findBlock n b
  | _ => none

noncomputable def blk2 : Code := (Try.f5.body.bind (findBlock 2)).getD .skip

/-- What a kind does that is done, of two items that fit. -/
theorem ok1 : ∀ t f o i b b' : Bool, fitsB t f o i b f t i o b' = true → (act ⟨t, f, o, i, b⟩ ⟨f, t, i, o, b'⟩ 1).2.2 = 0 → t = false ∧ o = false ∧ b = false ∧ b' = false ∧ act ⟨t, f, o, i, b⟩ ⟨f, t, i, o, b'⟩ 1 = (⟨false, f, true, i, false⟩, ⟨f, false, i, true, false⟩, 0) ∧ fitsB false f true i false f false i true false = true := by decide +kernel
theorem ok2 : ∀ t f o i b b' : Bool, fitsB t f o i b f t i o b' = true → (act ⟨t, f, o, i, b⟩ ⟨f, t, i, o, b'⟩ 2).2.2 = 0 → f = false ∧ i = true ∧ b = false ∧ b' = false ∧ act ⟨t, f, o, i, b⟩ ⟨f, t, i, o, b'⟩ 2 = (⟨t, true, o, false, false⟩, ⟨true, t, false, o, false⟩, 0) ∧ fitsB t true o false false true t false o false = true := by decide +kernel
theorem ok3 : ∀ t f o i b b' : Bool, fitsB t f o i b f t i o b' = true → (act ⟨t, f, o, i, b⟩ ⟨f, t, i, o, b'⟩ 3).2.2 = 0 → act ⟨t, f, o, i, b⟩ ⟨f, t, i, o, b'⟩ 3 = (⟨false, f, false, i, b⟩, ⟨f, false, i, false, b'⟩, 0) ∧ fitsB false f false i b f false i false b' = true := by decide +kernel
theorem ok4 : ∀ t f o i b b' : Bool, fitsB t f o i b f t i o b' = true → (act ⟨t, f, o, i, b⟩ ⟨f, t, i, o, b'⟩ 4).2.2 = 0 → act ⟨t, f, o, i, b⟩ ⟨f, t, i, o, b'⟩ 4 = (⟨t, false, o, false, b⟩, ⟨false, t, false, o, b'⟩, 0) ∧ fitsB t false o false b false t false o b' = true := by decide +kernel
theorem ok5 : ∀ t f o i b b' : Bool, fitsB t f o i b f t i o b' = true → (act ⟨t, f, o, i, b⟩ ⟨f, t, i, o, b'⟩ 5).2.2 = 0 → act ⟨t, f, o, i, b⟩ ⟨f, t, i, o, b'⟩ 5 = (⟨t, f, o, i, true⟩, ⟨f, t, i, o, b'⟩, 0) ∧ fitsB t f o i true f t i o b' = true := by decide +kernel
theorem ok6 : ∀ t f o i b b' : Bool, fitsB t f o i b f t i o b' = true → (act ⟨t, f, o, i, b⟩ ⟨f, t, i, o, b'⟩ 6).2.2 = 0 → act ⟨t, f, o, i, b⟩ ⟨f, t, i, o, b'⟩ 6 = (⟨t, f, o, i, false⟩, ⟨f, t, i, o, b'⟩, 0) ∧ fitsB t f o i false f t i o b' = true := by decide +kernel

theorem ok_kind {x y : It} {k : Int} (h : (act x y k).2.2 = 0) : k = 1 ∨ k = 2 ∨ k = 3 ∨ k = 4 ∨ k = 5 ∨ k = 6 := by
  by_cases hm : k < 1 ∨ 6 < k
  · exfalso; revert h; unfold act; rw [if_pos (.inl hm)]; simp
  · omega

theorem fits_turn {t f o i b b' : Bool} (h : fitsB t f o i b f t i o b' = true) : fitsB f t i o b' t f o i b = true := by
  rw [fits_swap]; exact h

theorem act_bad {x y : It} {k : Int} {x' y' : It} {c : Int} (h : act x y k = (x', y', c)) (hc : c ≠ 0) : x' = x ∧ y' = y := by
  unfold act at h
  split at h
  · simp only [Prod.mk.injEq] at h; exact ⟨h.1.symm, h.2.1.symm⟩
  · split at h
    · rename_i h0; rw [h] at h0; exact absurd h0 hc
    · simp only [Prod.mk.injEq] at h; exact ⟨h.1.symm, h.2.1.symm⟩


set_option maxRecDepth 100000 in
set_option maxHeartbeats 8000000 in
theorem switch0 {t f o i b b' : Bool} {x y : It} {kd : Int} {bk off len cap k : Nat} {w wr : World} {c1 c2 c10 c11 c12 c13 c14 c15 c16 c17 c18 c19 c20 c21 c22 c23 c24 c25 c26 c27 c28 c29 c30 c31 c32 c33 c34 c35 c36 c37 c38 c39 c40 c41 c42 c43 c44 c45 c46 c47 c48 c49 c50 c51 c52 c53 c54 c55 c56 c57 c58 c59 c60 c61 c62 c63 c64 c65 c66 c67 c68 c69 c70 c72 c73 c74 c75 c76 c77 c78 c79 c80 c81 c82 c83 c84 c85 c86 c87 c88 c89 c90 c91 c92 c93 c94 c95 c96 c97 c98 c99 c100 c101 c102 c103 c104 c105 c106 c107 c108 c109 c110 c111 c112 c113 c114 c115 c116 c117 c118 c119 c120 c121 c122 c123 c124 c125 c126 c127 c128 c129 c130 c131 c132 c133 c134 c135 c136 c137 c138 c139 c140 c141 c142 c143 c144 c145 c146 c147 c148 c149 c150 c151 c152 c153 c154 c155 c156 c157 c158 c159 c160 c161 c162 c163 c164 c165 c166 c167 c168 c169 c170 c171 c172 c173 c174 c175 c176 c177 c178 c179 c180 c181 c182 c183 c184 c185 c186 c187 c188 : Value} {K2 : Act → World → Prop} (hW : MM x y o i t f b b' w wr)
    (ha : act ⟨t, f, o, i, b⟩ ⟨f, t, i, o, b'⟩ kd = (x, y, 0)) (hfit : fitsB t f o i b f t i o b' = true) (e1 : wr.cell? ⟨bk, off + k * 2 + 1, none⟩ = some (.int .i64 kd)) (hlt : k < len)
    (hK2 : ∀ (u72 u73 u74 u75 u76 u77 u78 u79 u80 u81 u82 u83 u84 u85 u86 u87 u88 u89 u90 u91 u92 u93 u94 u95 u96 u97 u98 u99 u100 u101 u102 u103 u104 u105 u106 u107 u108 u109 u110 u111 u112 u113 u114 u115 u116 u117 u118 u119 u120 u121 u122 u123 u124 u125 u126 u127 : Value) (t f o i b b' : Bool) (w9 : World), fitsB t f o i b f t i o b' = true → MM ⟨t, f, o, i, b⟩ ⟨f, t, i, o, b'⟩ o i t f b b' w w9 → K2 ⟨#[.slice (some ⟨bk, off, none⟩) len cap, c1, c2, .pointer (some ⟨w.heap.size, 0, none⟩), .pointer (some ⟨w.heap.size + 1, 0, none⟩), .pointer (some ⟨w.heap.size + 1 + 1, 0, none⟩), .pointer (some ⟨w.heap.size + 1 + 1 + 1, 0, none⟩), .int .i64 (k : Int), .int .i64 0, .int .i64 1, c10, c11, c12, c13, c14, c15, c16, c17, c18, c19, c20, c21, c22, c23, c24, c25, c26, c27, c28, c29, c30, c31, c32, c33, c34, c35, c36, c37, c38, c39, c40, c41, c42, c43, c44, c45, c46, c47, c48, c49, c50, c51, c52, c53, c54, c55, c56, c57, c58, c59, c60, c61, c62, c63, c64, c65, c66, c67, c68, c69, c70, .int .i64 kd, u72, u73, u74, u75, u76, u77, u78, u79, u80, u81, u82, u83, u84, u85, u86, u87, u88, u89, u90, u91, u92, u93, u94, u95, u96, u97, u98, u99, u100, u101, u102, u103, u104, u105, u106, u107, u108, u109, u110, u111, u112, u113, u114, u115, u116, u117, u118, u119, u120, u121, u122, u123, u124, u125, u126, u127, c128, c129, c130, c131, c132, c133, c134, c135, c136, c137, c138, c139, c140, c141, c142, c143, c144, c145, c146, c147, c148, c149, c150, c151, c152, c153, c154, c155, c156, c157, c158, c159, c160, c161, c162, c163, c164, c165, c166, c167, c168, c169, c170, c171, c172, c173, c174, c175, c176, c177, c178, c179, c180, c181, c182, c183, c184, c185, c186, c187, c188], []⟩ w9) :
    Code.wp Try.prog blk2 (Exit.then K2 (fun _ _ _ => False)) ⟨#[.slice (some ⟨bk, off, none⟩) len cap, c1, c2, .pointer (some ⟨w.heap.size, 0, none⟩), .pointer (some ⟨w.heap.size + 1, 0, none⟩), .pointer (some ⟨w.heap.size + 1 + 1, 0, none⟩), .pointer (some ⟨w.heap.size + 1 + 1 + 1, 0, none⟩), .int .i64 (k : Int), .int .i64 0, .int .i64 1, c10, c11, c12, c13, c14, c15, c16, c17, c18, c19, c20, c21, c22, c23, c24, c25, c26, c27, c28, c29, c30, c31, c32, c33, c34, c35, c36, c37, c38, c39, c40, c41, c42, c43, c44, c45, c46, c47, c48, c49, c50, c51, c52, c53, c54, c55, c56, c57, c58, c59, c60, c61, c62, c63, c64, c65, c66, c67, c68, c69, c70, .int .i64 kd, c72, c73, c74, c75, c76, c77, c78, c79, c80, c81, c82, c83, c84, c85, c86, c87, c88, c89, c90, c91, c92, c93, c94, c95, c96, c97, c98, c99, c100, c101, c102, c103, c104, c105, c106, c107, c108, c109, c110, c111, c112, c113, c114, c115, c116, c117, c118, c119, c120, c121, c122, c123, c124, c125, c126, c127, c128, c129, c130, c131, c132, c133, c134, c135, c136, c137, c138, c139, c140, c141, c142, c143, c144, c145, c146, c147, c148, c149, c150, c151, c152, c153, c154, c155, c156, c157, c158, c159, c160, c161, c162, c163, c164, c165, c166, c167, c168, c169, c170, c171, c172, c173, c174, c175, c176, c177, c178, c179, c180, c181, c182, c183, c184, c185, c186, c187, c188], []⟩ wr := by
  have dk : decide ((k : Int) < (len : Int)) = true := by simp; omega
  have HF := Lib.hid hfit
  have HW := Lib.hid hW
  have HK := Lib.hid hK2
  have hk6 := ok_kind (x := ⟨t, f, o, i, b⟩) (y := ⟨f, t, i, o, b'⟩) (k := kd) (by rw [ha])
  have HA := Lib.hid ha
  clear hfit hW hK2 ha
  rcases hk6 with rfl | rfl | rfl | rfl | rfl | rfl
  · obtain ⟨rfl, rfl, rfl, rfl, hact, hfit⟩ := ok1 t f o i b b' HF.out (by rw [HA.out])
    obtain ⟨rfl, rfl, -⟩ := act_lit HA.out hact
    clear hact HA
    obtain ⟨⟨d0, d1, d2, d3, d4, d5, d6, d7, d8, d9, df, dl⟩, ⟨a0, a1, af, al⟩, ⟨s0, s1, sf, sl⟩, ⟨k0, k1, kf, kl⟩, -⟩ := HW.out
    conv => arg 2; whnf
    go_wp2_with fail
    exact HK.out _ _ _ _ _ _ _ _ _ _ _ _ _ _ _ _ _ _ _ _ _ _ _ _ _ _ _ _ _ _ _ _ _ _ _ _ _ _ _ _ _ _ _ _ _ _ _ _ _ _ _ _ _ _ _ _ false f true i false false _ hfit (HW.out.a0 true)
  · obtain ⟨rfl, rfl, rfl, rfl, hact, hfit⟩ := ok2 t f o i b b' HF.out (by rw [HA.out])
    obtain ⟨rfl, rfl, -⟩ := act_lit HA.out hact
    clear hact HA
    obtain ⟨⟨d0, d1, d2, d3, d4, d5, d6, d7, d8, d9, df, dl⟩, ⟨a0, a1, af, al⟩, ⟨s0, s1, sf, sl⟩, ⟨k0, k1, kf, kl⟩, -⟩ := HW.out
    conv => arg 2; whnf
    go_wp2_with fail
    exact HK.out _ _ _ _ _ _ _ _ _ _ _ _ _ _ _ _ _ _ _ _ _ _ _ _ _ _ _ _ _ _ _ _ _ _ _ _ _ _ _ _ _ _ _ _ _ _ _ _ _ _ _ _ _ _ _ _ t true o false false false _ hfit ((HW.out.a1 false).s1 true)
  · obtain ⟨hact, hfit⟩ := ok3 t f o i b b' HF.out (by rw [HA.out])
    obtain ⟨rfl, rfl, -⟩ := act_lit HA.out hact
    clear hact HA
    obtain ⟨⟨d0, d1, d2, d3, d4, d5, d6, d7, d8, d9, df, dl⟩, ⟨a0, a1, af, al⟩, ⟨s0, s1, sf, sl⟩, ⟨k0, k1, kf, kl⟩, -⟩ := HW.out
    conv => arg 2; whnf
    go_wp2_with fail
    exact HK.out _ _ _ _ _ _ _ _ _ _ _ _ _ _ _ _ _ _ _ _ _ _ _ _ _ _ _ _ _ _ _ _ _ _ _ _ _ _ _ _ _ _ _ _ _ _ _ _ _ _ _ _ _ _ _ _ false f false i b b' _ hfit ((HW.out.a0 false).s0 false)
  · obtain ⟨hact, hfit⟩ := ok4 t f o i b b' HF.out (by rw [HA.out])
    obtain ⟨rfl, rfl, -⟩ := act_lit HA.out hact
    clear hact HA
    obtain ⟨⟨d0, d1, d2, d3, d4, d5, d6, d7, d8, d9, df, dl⟩, ⟨a0, a1, af, al⟩, ⟨s0, s1, sf, sl⟩, ⟨k0, k1, kf, kl⟩, -⟩ := HW.out
    conv => arg 2; whnf
    go_wp2_with fail
    exact HK.out _ _ _ _ _ _ _ _ _ _ _ _ _ _ _ _ _ _ _ _ _ _ _ _ _ _ _ _ _ _ _ _ _ _ _ _ _ _ _ _ _ _ _ _ _ _ _ _ _ _ _ _ _ _ _ _ t false o false b b' _ hfit ((HW.out.a1 false).s1 false)
  · obtain ⟨hact, hfit⟩ := ok5 t f o i b b' HF.out (by rw [HA.out])
    obtain ⟨rfl, rfl, -⟩ := act_lit HA.out hact
    clear hact HA
    obtain ⟨⟨d0, d1, d2, d3, d4, d5, d6, d7, d8, d9, df, dl⟩, ⟨a0, a1, af, al⟩, ⟨s0, s1, sf, sl⟩, ⟨k0, k1, kf, kl⟩, -⟩ := HW.out
    conv => arg 2; whnf
    go_wp2_with fail
    exact HK.out _ _ _ _ _ _ _ _ _ _ _ _ _ _ _ _ _ _ _ _ _ _ _ _ _ _ _ _ _ _ _ _ _ _ _ _ _ _ _ _ _ _ _ _ _ _ _ _ _ _ _ _ _ _ _ _ t f o i true b' _ hfit (HW.out.k0 true)
  · obtain ⟨hact, hfit⟩ := ok6 t f o i b b' HF.out (by rw [HA.out])
    obtain ⟨rfl, rfl, -⟩ := act_lit HA.out hact
    clear hact HA
    obtain ⟨⟨d0, d1, d2, d3, d4, d5, d6, d7, d8, d9, df, dl⟩, ⟨a0, a1, af, al⟩, ⟨s0, s1, sf, sl⟩, ⟨k0, k1, kf, kl⟩, -⟩ := HW.out
    conv => arg 2; whnf
    go_wp2_with fail
    exact HK.out _ _ _ _ _ _ _ _ _ _ _ _ _ _ _ _ _ _ _ _ _ _ _ _ _ _ _ _ _ _ _ _ _ _ _ _ _ _ _ _ _ _ _ _ _ _ _ _ _ _ _ _ _ _ _ _ t f o i false b' _ hfit (HW.out.k0 false)

set_option maxRecDepth 100000 in
set_option maxHeartbeats 8000000 in
theorem switch1 {t f o i b b' : Bool} {x y : It} {kd : Int} {bk off len cap k : Nat} {w wr : World} {c1 c2 c10 c11 c12 c13 c14 c15 c16 c17 c18 c19 c20 c21 c22 c23 c24 c25 c26 c27 c28 c29 c30 c31 c32 c33 c34 c35 c36 c37 c38 c39 c40 c41 c42 c43 c44 c45 c46 c47 c48 c49 c50 c51 c52 c53 c54 c55 c56 c57 c58 c59 c60 c61 c62 c63 c64 c65 c66 c67 c68 c69 c70 c72 c73 c74 c75 c76 c77 c78 c79 c80 c81 c82 c83 c84 c85 c86 c87 c88 c89 c90 c91 c92 c93 c94 c95 c96 c97 c98 c99 c100 c101 c102 c103 c104 c105 c106 c107 c108 c109 c110 c111 c112 c113 c114 c115 c116 c117 c118 c119 c120 c121 c122 c123 c124 c125 c126 c127 c128 c129 c130 c131 c132 c133 c134 c135 c136 c137 c138 c139 c140 c141 c142 c143 c144 c145 c146 c147 c148 c149 c150 c151 c152 c153 c154 c155 c156 c157 c158 c159 c160 c161 c162 c163 c164 c165 c166 c167 c168 c169 c170 c171 c172 c173 c174 c175 c176 c177 c178 c179 c180 c181 c182 c183 c184 c185 c186 c187 c188 : Value} {K2 : Act → World → Prop} (hW : MM y x o i t f b b' w wr)
    (ha : act ⟨f, t, i, o, b'⟩ ⟨t, f, o, i, b⟩ kd = (x, y, 0)) (hfit : fitsB t f o i b f t i o b' = true) (e1 : wr.cell? ⟨bk, off + k * 2 + 1, none⟩ = some (.int .i64 kd)) (hlt : k < len)
    (hK2 : ∀ (u72 u73 u74 u75 u76 u77 u78 u79 u80 u81 u82 u83 u84 u85 u86 u87 u88 u89 u90 u91 u92 u93 u94 u95 u96 u97 u98 u99 u100 u101 u102 u103 u104 u105 u106 u107 u108 u109 u110 u111 u112 u113 u114 u115 u116 u117 u118 u119 u120 u121 u122 u123 u124 u125 u126 u127 : Value) (t f o i b b' : Bool) (w9 : World), fitsB t f o i b f t i o b' = true → MM ⟨t, f, o, i, b⟩ ⟨f, t, i, o, b'⟩ o i t f b b' w w9 → K2 ⟨#[.slice (some ⟨bk, off, none⟩) len cap, c1, c2, .pointer (some ⟨w.heap.size, 0, none⟩), .pointer (some ⟨w.heap.size + 1, 0, none⟩), .pointer (some ⟨w.heap.size + 1 + 1, 0, none⟩), .pointer (some ⟨w.heap.size + 1 + 1 + 1, 0, none⟩), .int .i64 (k : Int), .int .i64 1, .int .i64 0, c10, c11, c12, c13, c14, c15, c16, c17, c18, c19, c20, c21, c22, c23, c24, c25, c26, c27, c28, c29, c30, c31, c32, c33, c34, c35, c36, c37, c38, c39, c40, c41, c42, c43, c44, c45, c46, c47, c48, c49, c50, c51, c52, c53, c54, c55, c56, c57, c58, c59, c60, c61, c62, c63, c64, c65, c66, c67, c68, c69, c70, .int .i64 kd, u72, u73, u74, u75, u76, u77, u78, u79, u80, u81, u82, u83, u84, u85, u86, u87, u88, u89, u90, u91, u92, u93, u94, u95, u96, u97, u98, u99, u100, u101, u102, u103, u104, u105, u106, u107, u108, u109, u110, u111, u112, u113, u114, u115, u116, u117, u118, u119, u120, u121, u122, u123, u124, u125, u126, u127, c128, c129, c130, c131, c132, c133, c134, c135, c136, c137, c138, c139, c140, c141, c142, c143, c144, c145, c146, c147, c148, c149, c150, c151, c152, c153, c154, c155, c156, c157, c158, c159, c160, c161, c162, c163, c164, c165, c166, c167, c168, c169, c170, c171, c172, c173, c174, c175, c176, c177, c178, c179, c180, c181, c182, c183, c184, c185, c186, c187, c188], []⟩ w9) :
    Code.wp Try.prog blk2 (Exit.then K2 (fun _ _ _ => False)) ⟨#[.slice (some ⟨bk, off, none⟩) len cap, c1, c2, .pointer (some ⟨w.heap.size, 0, none⟩), .pointer (some ⟨w.heap.size + 1, 0, none⟩), .pointer (some ⟨w.heap.size + 1 + 1, 0, none⟩), .pointer (some ⟨w.heap.size + 1 + 1 + 1, 0, none⟩), .int .i64 (k : Int), .int .i64 1, .int .i64 0, c10, c11, c12, c13, c14, c15, c16, c17, c18, c19, c20, c21, c22, c23, c24, c25, c26, c27, c28, c29, c30, c31, c32, c33, c34, c35, c36, c37, c38, c39, c40, c41, c42, c43, c44, c45, c46, c47, c48, c49, c50, c51, c52, c53, c54, c55, c56, c57, c58, c59, c60, c61, c62, c63, c64, c65, c66, c67, c68, c69, c70, .int .i64 kd, c72, c73, c74, c75, c76, c77, c78, c79, c80, c81, c82, c83, c84, c85, c86, c87, c88, c89, c90, c91, c92, c93, c94, c95, c96, c97, c98, c99, c100, c101, c102, c103, c104, c105, c106, c107, c108, c109, c110, c111, c112, c113, c114, c115, c116, c117, c118, c119, c120, c121, c122, c123, c124, c125, c126, c127, c128, c129, c130, c131, c132, c133, c134, c135, c136, c137, c138, c139, c140, c141, c142, c143, c144, c145, c146, c147, c148, c149, c150, c151, c152, c153, c154, c155, c156, c157, c158, c159, c160, c161, c162, c163, c164, c165, c166, c167, c168, c169, c170, c171, c172, c173, c174, c175, c176, c177, c178, c179, c180, c181, c182, c183, c184, c185, c186, c187, c188], []⟩ wr := by
  have dk : decide ((k : Int) < (len : Int)) = true := by simp; omega
  have HF := Lib.hid hfit
  have HW := Lib.hid hW
  have HK := Lib.hid hK2
  have hk6 := ok_kind (x := ⟨f, t, i, o, b'⟩) (y := ⟨t, f, o, i, b⟩) (k := kd) (by rw [ha])
  have HA := Lib.hid ha
  clear hfit hW hK2 ha
  rcases hk6 with rfl | rfl | rfl | rfl | rfl | rfl
  · obtain ⟨rfl, rfl, rfl, rfl, hact, hfit⟩ := ok1 f t i o b' b (fits_turn HF.out) (by rw [HA.out])
    obtain ⟨rfl, rfl, -⟩ := act_lit HA.out hact
    clear hact HA
    obtain ⟨⟨d0, d1, d2, d3, d4, d5, d6, d7, d8, d9, df, dl⟩, ⟨a0, a1, af, al⟩, ⟨s0, s1, sf, sl⟩, ⟨k0, k1, kf, kl⟩, -⟩ := HW.out
    conv => arg 2; whnf
    go_wp2_with fail
    exact HK.out _ _ _ _ _ _ _ _ _ _ _ _ _ _ _ _ _ _ _ _ _ _ _ _ _ _ _ _ _ _ _ _ _ _ _ _ _ _ _ _ _ _ _ _ _ _ _ _ _ _ _ _ _ _ _ _ t false o true false false _ (fits_turn hfit) (HW.out.a1 true)
  · obtain ⟨rfl, rfl, rfl, rfl, hact, hfit⟩ := ok2 f t i o b' b (fits_turn HF.out) (by rw [HA.out])
    obtain ⟨rfl, rfl, -⟩ := act_lit HA.out hact
    clear hact HA
    obtain ⟨⟨d0, d1, d2, d3, d4, d5, d6, d7, d8, d9, df, dl⟩, ⟨a0, a1, af, al⟩, ⟨s0, s1, sf, sl⟩, ⟨k0, k1, kf, kl⟩, -⟩ := HW.out
    conv => arg 2; whnf
    go_wp2_with fail
    exact HK.out _ _ _ _ _ _ _ _ _ _ _ _ _ _ _ _ _ _ _ _ _ _ _ _ _ _ _ _ _ _ _ _ _ _ _ _ _ _ _ _ _ _ _ _ _ _ _ _ _ _ _ _ _ _ _ _ true f false i false false _ (fits_turn hfit) ((HW.out.a0 false).s0 true)
  · obtain ⟨hact, hfit⟩ := ok3 f t i o b' b (fits_turn HF.out) (by rw [HA.out])
    obtain ⟨rfl, rfl, -⟩ := act_lit HA.out hact
    clear hact HA
    obtain ⟨⟨d0, d1, d2, d3, d4, d5, d6, d7, d8, d9, df, dl⟩, ⟨a0, a1, af, al⟩, ⟨s0, s1, sf, sl⟩, ⟨k0, k1, kf, kl⟩, -⟩ := HW.out
    conv => arg 2; whnf
    go_wp2_with fail
    exact HK.out _ _ _ _ _ _ _ _ _ _ _ _ _ _ _ _ _ _ _ _ _ _ _ _ _ _ _ _ _ _ _ _ _ _ _ _ _ _ _ _ _ _ _ _ _ _ _ _ _ _ _ _ _ _ _ _ t false o false b b' _ (fits_turn hfit) ((HW.out.a1 false).s1 false)
  · obtain ⟨hact, hfit⟩ := ok4 f t i o b' b (fits_turn HF.out) (by rw [HA.out])
    obtain ⟨rfl, rfl, -⟩ := act_lit HA.out hact
    clear hact HA
    obtain ⟨⟨d0, d1, d2, d3, d4, d5, d6, d7, d8, d9, df, dl⟩, ⟨a0, a1, af, al⟩, ⟨s0, s1, sf, sl⟩, ⟨k0, k1, kf, kl⟩, -⟩ := HW.out
    conv => arg 2; whnf
    go_wp2_with fail
    exact HK.out _ _ _ _ _ _ _ _ _ _ _ _ _ _ _ _ _ _ _ _ _ _ _ _ _ _ _ _ _ _ _ _ _ _ _ _ _ _ _ _ _ _ _ _ _ _ _ _ _ _ _ _ _ _ _ _ false f false i b b' _ (fits_turn hfit) ((HW.out.a0 false).s0 false)
  · obtain ⟨hact, hfit⟩ := ok5 f t i o b' b (fits_turn HF.out) (by rw [HA.out])
    obtain ⟨rfl, rfl, -⟩ := act_lit HA.out hact
    clear hact HA
    obtain ⟨⟨d0, d1, d2, d3, d4, d5, d6, d7, d8, d9, df, dl⟩, ⟨a0, a1, af, al⟩, ⟨s0, s1, sf, sl⟩, ⟨k0, k1, kf, kl⟩, -⟩ := HW.out
    conv => arg 2; whnf
    go_wp2_with fail
    exact HK.out _ _ _ _ _ _ _ _ _ _ _ _ _ _ _ _ _ _ _ _ _ _ _ _ _ _ _ _ _ _ _ _ _ _ _ _ _ _ _ _ _ _ _ _ _ _ _ _ _ _ _ _ _ _ _ _ t f o i b true _ (fits_turn hfit) (HW.out.k1 true)
  · obtain ⟨hact, hfit⟩ := ok6 f t i o b' b (fits_turn HF.out) (by rw [HA.out])
    obtain ⟨rfl, rfl, -⟩ := act_lit HA.out hact
    clear hact HA
    obtain ⟨⟨d0, d1, d2, d3, d4, d5, d6, d7, d8, d9, df, dl⟩, ⟨a0, a1, af, al⟩, ⟨s0, s1, sf, sl⟩, ⟨k0, k1, kf, kl⟩, -⟩ := HW.out
    conv => arg 2; whnf
    go_wp2_with fail
    exact HK.out _ _ _ _ _ _ _ _ _ _ _ _ _ _ _ _ _ _ _ _ _ _ _ _ _ _ _ _ _ _ _ _ _ _ _ _ _ _ _ _ _ _ _ _ _ _ _ _ _ _ _ _ _ _ _ _ t f o i b false _ (fits_turn hfit) (HW.out.k1 false)

end Go.Proofs.Ytjelnndiahkoeaa
