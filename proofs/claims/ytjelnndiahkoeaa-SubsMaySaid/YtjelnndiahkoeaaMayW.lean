/-
  The walk of SubsMay.
-/
import Derived.Test.YtjelnndiahkoeaaMoves
import Derived.Deep.RegionHeld3
import Derived.Deep.DeepCutAuto
import Derived.Deep.CutBlock
import Derived.Deep.Light
import Derived.Test.YtjelnndiahkoeaaMayF
namespace Go.Proofs.Ytjelnndiahkoeaa
open Go.RowKit

set_option maxRecDepth 100000 in
set_option maxHeartbeats 8000000 in
theorem moves_long (ad : Option Addr) (len cap : Nat) (w : World) (hlen : 60 < len) :
    Calls Try.prog 5 #[.slice ad len cap] w fun e w' => e = .returned (.bool true) ∧ Below w.heap.size w w' := by
  have d1 : decide (60 < (len : Int)) = true := by simp; omega
  go_enter Try.func5, Try.ntmps5
  go_wp2_with fail
  refine (live_any _).mono ?_
  rintro e w1 ⟨rfl, hb⟩
  go_wp2_with fail
  go_ret
  exact ⟨rfl, hb⟩


set_option maxRecDepth 100000 in
set_option maxHeartbeats 8000000 in
theorem moves_any (ad : Option Addr) (len cap : Nat) (O : Nat → Bool) (K : Nat → Int) (w : World) (hlen : len ≤ 60) (hrow : Hid (IsMoves w ad len O K)) :
    Calls Try.prog 5 #[.slice ad len cap] w fun e w' => e = .returned (.bool true) ∧ Below w.heap.size w w' := by
  have d1 : decide (60 < (len : Int)) = false := by simp; omega
  go_enter Try.func5, Try.ntmps5
  go_wp2_with fail
  go_loopw [7] (fun i wr => ∃ (k : Nat) (t f o i' b b' : Bool), k ≤ len ∧ i = .int .i64 k ∧ fitsB t f o i' b f t i' o b' = true ∧ MM ⟨t, f, o, i', b⟩ ⟨f, t, i', o, b'⟩ o i' t f b b' w wr) (fun i _ => len - (intOf i).toNat)
  case atStart => exact ⟨0, false, false, false, false, false, false, by omega, rfl, rfl, MM.start w⟩
  case round =>
    obtain ⟨k, t, f, o, i, b, b', hk, rfl, hfit, hmm⟩ := hrel
    have HM := Lib.hid hmm
    have HF := Lib.hid hfit
    clear hmm hfit d1
    by_cases hlt : k < len
    · obtain ⟨bk, off, rfl, hcell⟩ := moves_some hrow.out (by omega)
      obtain ⟨m0, m1', hK0, hK1⟩ := hcell k hlt
      have hbk : bk < w.heap.size := World.block_lt_of_cell? _ _ m0
      have e0 := HM.out.bel.cell (p := ⟨bk, off + k * 2, none⟩) hbk
      have e1 := HM.out.bel.cell (p := ⟨bk, off + k * 2 + 1, none⟩) hbk
      rw [m0] at e0
      rw [m1'] at e1
      clear m0 hcell
      generalize hKK : K k = kd at e1 hK0 hK1 m1'
      clear hKK
      have m1 := Lib.hid m1'
      clear m1'
      have dk : decide ((k : Int) < (len : Int)) = true := by simp; omega
      have cl := HM.out.it.lt
      cases hO : O k with
      | false =>
        rw [hO] at e0
        clear hO
        go_upto_region 14 with fail
        go_cut [10, 11, 12] (fun s10 s11 s12 wx => ∃ (P Q : Nat) (x y : It) (c : Int), s10 = .pointer (some ⟨P, 0, none⟩) ∧ s11 = .pointer (some ⟨Q, 0, none⟩) ∧ s12 = .int .i64 c ∧ act ⟨t, f, o, i, b⟩ ⟨f, t, i, o, b'⟩ kd = (x, y, c) ∧ MM ⟨t, f, o, i, b⟩ ⟨f, t, i, o, b'⟩ o i t f b b' w wx ∧ wr.heap.size ≤ P ∧ wr.heap.size ≤ Q ∧ C5 x.t x.f x.o x.i x.b P wx ∧ C5 y.t y.f y.o y.i y.b Q wx)
        case first =>
          rename_i J K1 hJ hK
          refine cut_plain hJ hK ?_
          intro K2 hK2
          go_light
          have hMd := HM.out
          refine drawn0 hMd e1 hbk hlt hK0 hK1 ?_
          intro _ _ _ _ _ _ _ _ _ _ _ _ _ _ _ _ P Q x y c w9 h1 h2 h3 h4 h5 h6
          refine hK2 _ _ ?_
          repeat apply Exists.intro
          exact ⟨⟨P, Q, x, y, c, rfl, rfl, rfl, h1, h2, h3, h4, h5, h6⟩, rfl⟩
        case rest =>
          obtain ⟨P, Q, x, y, c, rfl, rfl, rfl, ha, hmm, hP, hQ, hcx, hcy⟩ := hcut
          have HX := Lib.hid hcx
          have HY := Lib.hid hcy
          have hP3 : w.heap.size < P := by omega
          have hQ3 : w.heap.size < Q := by omega
          clear e0 e1 hcx hcy hP hQ HM cl
          have HM := Lib.hid hmm
          clear hmm
          by_cases hc : c = 0
          · subst hc
            obtain ⟨⟨c0, c1, c2, c3, c4, c5, c6, c7, c8, c9, cf, cl⟩, ⟨a0, a1, af, al⟩, ⟨s0, s1, sf, sl⟩, ⟨k0, k1, kf, kl⟩, -⟩ := HM.out
            obtain ⟨x0, x1, x2, x3, x4, xl⟩ := HX.out
            obtain ⟨y0, y1, y2, y3, y4, yl⟩ := HY.out
            have q1 : P ≠ w.heap.size := by omega
            have q2 : Q ≠ w.heap.size := by omega
            go_upto_region 20 with fail
            have HW : Hid (MM x y o i t f b b' w ((((((((((wc.setCell ⟨w.heap.size, 0, none⟩ (.bool x.t)).setCell ⟨w.heap.size, 1, none⟩ (.bool x.f)).setCell ⟨w.heap.size, 2, none⟩ (.bool x.o)).setCell ⟨w.heap.size, 3, none⟩ (.bool x.i)).setCell ⟨w.heap.size, 4, none⟩ (.bool x.b)).setCell ⟨w.heap.size, 5, none⟩ (.bool y.t)).setCell ⟨w.heap.size, 6, none⟩ (.bool y.f)).setCell ⟨w.heap.size, 7, none⟩ (.bool y.o)).setCell ⟨w.heap.size, 8, none⟩ (.bool y.i)).setCell ⟨w.heap.size, 9, none⟩ (.bool y.b))) := Lib.hid ((HM.out.fillA x).fillB y)
            clear c0 c1 c2 c3 c4 c5 c6 c7 c8 c9 cf cl a0 a1 af al s0 s1 sf sl k0 k1 kf kl
            clear x0 x1 x2 x3 x4 xl y0 y1 y2 y3 y4 yl HX HY HM q1 q2 hP3 hQ3
            generalize ((((((((((wc.setCell ⟨w.heap.size, 0, none⟩ (.bool x.t)).setCell ⟨w.heap.size, 1, none⟩ (.bool x.f)).setCell ⟨w.heap.size, 2, none⟩ (.bool x.o)).setCell ⟨w.heap.size, 3, none⟩ (.bool x.i)).setCell ⟨w.heap.size, 4, none⟩ (.bool x.b)).setCell ⟨w.heap.size, 5, none⟩ (.bool y.t)).setCell ⟨w.heap.size, 6, none⟩ (.bool y.f)).setCell ⟨w.heap.size, 7, none⟩ (.bool y.o)).setCell ⟨w.heap.size, 8, none⟩ (.bool y.i)).setCell ⟨w.heap.size, 9, none⟩ (.bool y.b)) = W2 at HW ⊢
            have e1 := (HW.out.bel.cell (p := ⟨bk, off + k * 2 + 1, none⟩) hbk).trans m1.out
            go_upto_block 2 with fail
            go_cut [] (fun wx => ∃ t f o i b b' : Bool, fitsB t f o i b f t i o b' = true ∧ MM ⟨t, f, o, i, b⟩ ⟨f, t, i, o, b'⟩ o i t f b b' w wx)
            case first =>
              rename_i J K1 hJ hK
              refine cut_plain hJ hK ?_
              intro K2 hK2
              go_light
              have hWW := HW.out
              have hFF := HF.out
              refine switch0 hWW ha hFF e1 hlt ?_
              intro _ _ _ _ _ _ _ _ _ _ _ _ _ _ _ _ _ _ _ _ _ _ _ _ _ _ _ _ _ _ _ _ _ _ _ _ _ _ _ _ _ _ _ _ _ _ _ _ _ _ _ _ _ _ _ _ t f o i b b' w9 h1 h2
              refine hK2 _ _ ?_
              repeat apply Exists.intro
              exact ⟨⟨t, f, o, i, b, b', h1, h2⟩, rfl⟩
            case rest =>
              clear HW e1 ha HF
              obtain ⟨t, f, o, i, b, b', hfit, hmm⟩ := hcut
              have HF := Lib.hid hfit
              go_step
              refine tail_walk hmm hfit ?_
              clear hmm hfit
              intro _ _ _ _ _ _ _ _ _ _ _ _ _ _ _ _ _ _ _ _ _ _ _ _ _ _ _ _ _ _ _ _ _ _ _ _ _ _ _ _ _ _ _ _ _ _ _ _ _ _ _ _ _ _ _ _ _ _ _ _ _ _ w9 hm9
              have HM9 := Lib.hid hm9
              clear hm9
              go_wp2_with fail
              go_roundw
              case rel => exact ⟨k + 1, t, f, o, i, b, b', by omega, by go_num, HF.out, HM9.out⟩
              case measure => simp [intOf]; omega
          · obtain ⟨rfl, rfl⟩ := act_bad ha hc
            have hcb : (c != 0) = true := by simpa using hc
            clear ha hc
            obtain ⟨⟨c0, c1, c2, c3, c4, c5, c6, c7, c8, c9, cf, cl⟩, ⟨a0, a1, af, al⟩, ⟨s0, s1, sf, sl⟩, ⟨k0, k1, kf, kl⟩, -⟩ := HM.out
            obtain ⟨x0, x1, x2, x3, x4, xl⟩ := HX.out
            obtain ⟨y0, y1, y2, y3, y4, yl⟩ := HY.out
            simp only at x0 x1 x2 x3 x4 y0 y1 y2 y3 y4
            go_wp2_with fail
            go_region
            go_wp2_with fail
            go_roundw
            case rel => exact ⟨k + 1, t, f, o, i, b, b', by omega, by go_num, HF.out, HM.out.kept (Below.drew (Below.refl _ _))⟩
            case measure => simp [intOf]; omega
      | true =>
        rw [hO] at e0
        clear hO
        go_upto_region 14 with fail
        go_cut [10, 11, 12] (fun s10 s11 s12 wx => ∃ (P Q : Nat) (x y : It) (c : Int), s10 = .pointer (some ⟨P, 0, none⟩) ∧ s11 = .pointer (some ⟨Q, 0, none⟩) ∧ s12 = .int .i64 c ∧ act ⟨f, t, i, o, b'⟩ ⟨t, f, o, i, b⟩ kd = (x, y, c) ∧ MM ⟨t, f, o, i, b⟩ ⟨f, t, i, o, b'⟩ o i t f b b' w wx ∧ wr.heap.size ≤ P ∧ wr.heap.size ≤ Q ∧ C5 x.t x.f x.o x.i x.b P wx ∧ C5 y.t y.f y.o y.i y.b Q wx)
        case first =>
          rename_i J K1 hJ hK
          refine cut_plain hJ hK ?_
          intro K2 hK2
          go_light
          have hMd := HM.out
          refine drawn1 hMd e1 hbk hlt hK0 hK1 ?_
          intro _ _ _ _ _ _ _ _ _ _ _ _ _ _ _ _ P Q x y c w9 h1 h2 h3 h4 h5 h6
          refine hK2 _ _ ?_
          repeat apply Exists.intro
          exact ⟨⟨P, Q, x, y, c, rfl, rfl, rfl, h1, h2, h3, h4, h5, h6⟩, rfl⟩
        case rest =>
          obtain ⟨P, Q, x, y, c, rfl, rfl, rfl, ha, hmm, hP, hQ, hcx, hcy⟩ := hcut
          have HX := Lib.hid hcx
          have HY := Lib.hid hcy
          have hP3 : w.heap.size < P := by omega
          have hQ3 : w.heap.size < Q := by omega
          clear e0 e1 hcx hcy hP hQ HM cl
          have HM := Lib.hid hmm
          clear hmm
          by_cases hc : c = 0
          · subst hc
            obtain ⟨⟨c0, c1, c2, c3, c4, c5, c6, c7, c8, c9, cf, cl⟩, ⟨a0, a1, af, al⟩, ⟨s0, s1, sf, sl⟩, ⟨k0, k1, kf, kl⟩, -⟩ := HM.out
            obtain ⟨x0, x1, x2, x3, x4, xl⟩ := HX.out
            obtain ⟨y0, y1, y2, y3, y4, yl⟩ := HY.out
            have q1 : P ≠ w.heap.size := by omega
            have q2 : Q ≠ w.heap.size := by omega
            go_upto_region 20 with fail
            have HW : Hid (MM y x o i t f b b' w ((((((((((wc.setCell ⟨w.heap.size, 5, none⟩ (.bool x.t)).setCell ⟨w.heap.size, 6, none⟩ (.bool x.f)).setCell ⟨w.heap.size, 7, none⟩ (.bool x.o)).setCell ⟨w.heap.size, 8, none⟩ (.bool x.i)).setCell ⟨w.heap.size, 9, none⟩ (.bool x.b)).setCell ⟨w.heap.size, 0, none⟩ (.bool y.t)).setCell ⟨w.heap.size, 1, none⟩ (.bool y.f)).setCell ⟨w.heap.size, 2, none⟩ (.bool y.o)).setCell ⟨w.heap.size, 3, none⟩ (.bool y.i)).setCell ⟨w.heap.size, 4, none⟩ (.bool y.b))) := Lib.hid ((HM.out.fillB x).fillA y)
            clear c0 c1 c2 c3 c4 c5 c6 c7 c8 c9 cf cl a0 a1 af al s0 s1 sf sl k0 k1 kf kl
            clear x0 x1 x2 x3 x4 xl y0 y1 y2 y3 y4 yl HX HY HM q1 q2 hP3 hQ3
            generalize ((((((((((wc.setCell ⟨w.heap.size, 5, none⟩ (.bool x.t)).setCell ⟨w.heap.size, 6, none⟩ (.bool x.f)).setCell ⟨w.heap.size, 7, none⟩ (.bool x.o)).setCell ⟨w.heap.size, 8, none⟩ (.bool x.i)).setCell ⟨w.heap.size, 9, none⟩ (.bool x.b)).setCell ⟨w.heap.size, 0, none⟩ (.bool y.t)).setCell ⟨w.heap.size, 1, none⟩ (.bool y.f)).setCell ⟨w.heap.size, 2, none⟩ (.bool y.o)).setCell ⟨w.heap.size, 3, none⟩ (.bool y.i)).setCell ⟨w.heap.size, 4, none⟩ (.bool y.b)) = W2 at HW ⊢
            have e1 := (HW.out.bel.cell (p := ⟨bk, off + k * 2 + 1, none⟩) hbk).trans m1.out
            go_upto_block 2 with fail
            go_cut [] (fun wx => ∃ t f o i b b' : Bool, fitsB t f o i b f t i o b' = true ∧ MM ⟨t, f, o, i, b⟩ ⟨f, t, i, o, b'⟩ o i t f b b' w wx)
            case first =>
              rename_i J K1 hJ hK
              refine cut_plain hJ hK ?_
              intro K2 hK2
              go_light
              have hWW := HW.out
              have hFF := HF.out
              refine switch1 hWW ha hFF e1 hlt ?_
              intro _ _ _ _ _ _ _ _ _ _ _ _ _ _ _ _ _ _ _ _ _ _ _ _ _ _ _ _ _ _ _ _ _ _ _ _ _ _ _ _ _ _ _ _ _ _ _ _ _ _ _ _ _ _ _ _ t f o i b b' w9 h1 h2
              refine hK2 _ _ ?_
              repeat apply Exists.intro
              exact ⟨⟨t, f, o, i, b, b', h1, h2⟩, rfl⟩
            case rest =>
              clear HW e1 ha HF
              obtain ⟨t, f, o, i, b, b', hfit, hmm⟩ := hcut
              have HF := Lib.hid hfit
              go_step
              refine tail_walk hmm hfit ?_
              clear hmm hfit
              intro _ _ _ _ _ _ _ _ _ _ _ _ _ _ _ _ _ _ _ _ _ _ _ _ _ _ _ _ _ _ _ _ _ _ _ _ _ _ _ _ _ _ _ _ _ _ _ _ _ _ _ _ _ _ _ _ _ _ _ _ _ _ w9 hm9
              have HM9 := Lib.hid hm9
              clear hm9
              go_wp2_with fail
              go_roundw
              case rel => exact ⟨k + 1, t, f, o, i, b, b', by omega, by go_num, HF.out, HM9.out⟩
              case measure => simp [intOf]; omega
          · obtain ⟨rfl, rfl⟩ := act_bad ha hc
            have hcb : (c != 0) = true := by simpa using hc
            clear ha hc
            obtain ⟨⟨c0, c1, c2, c3, c4, c5, c6, c7, c8, c9, cf, cl⟩, ⟨a0, a1, af, al⟩, ⟨s0, s1, sf, sl⟩, ⟨k0, k1, kf, kl⟩, -⟩ := HM.out
            obtain ⟨x0, x1, x2, x3, x4, xl⟩ := HX.out
            obtain ⟨y0, y1, y2, y3, y4, yl⟩ := HY.out
            simp only at x0 x1 x2 x3 x4 y0 y1 y2 y3 y4
            go_wp2_with fail
            go_region
            go_wp2_with fail
            go_roundw
            case rel => exact ⟨k + 1, t, f, o, i, b, b', by omega, by go_num, HF.out, HM.out.kept (Below.drew (Below.refl _ _))⟩
            case measure => simp [intOf]; omega
    · have dk : decide ((k : Int) < (len : Int)) = false := by simp; omega
      go_wp2_with fail
      refine (live_any _).mono ?_
      rintro e w1 ⟨rfl, hb⟩
      go_wp2_with fail
      go_ret
      exact ⟨rfl, HM.out.bel.trans (hb.mono HM.out.bel.size)⟩

theorem may_row {w : World} (ad : Option Addr) (len cap : Nat) (O : Nat → Bool) (K : Nat → Int) (_ : len ≤ 9223372036854775807) (hrow : Hid (IsMoves w ad len O K)) (_ : World) :
    Calls Try.prog 5 #[.slice ad len cap] w fun e w' => e = .returned (.bool true) ∧ Below w.heap.size w w' := by
  by_cases h : len ≤ 60
  · exact moves_any ad len cap O K w h hrow
  · exact moves_long ad len cap w (by omega)
end Go.Proofs.Ytjelnndiahkoeaa
