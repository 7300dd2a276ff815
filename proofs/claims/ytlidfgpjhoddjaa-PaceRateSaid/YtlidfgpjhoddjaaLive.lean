/-
  The pace statements' own 'live' answers true: under no condition.
-/
import Derived.Test.YtlidfgpjhoddjaaTake

namespace Go.Proofs.Ytlidfgpjhoddjaa
open Go.RowKit

/-- What is known behind a call that turns nothing older than a box just laid. -/
theorem laid_keep {w w1 : World} {C : Array Value} {T : TypeId} (hb : Below (w.alloc (.cells C T)).heap.size (w.alloc (.cells C T)) w1) :
    (∀ a v, w.cell? a = some v → w1.cell? a = some v) ∧ (∀ j v, C[j]? = some v → w1.cell? ⟨w.heap.size, j, none⟩ = some v) ∧ Below w.heap.size w w1 ∧ w.heap.size < w1.heap.size := by
  have hs := hb.size
  simp at hs
  refine ⟨fun a v h => ?_, fun j v h => ?_, (Below.alloc (Below.refl _ _) (Nat.le_refl _) _).trans (hb.mono (by simp)), by omega⟩
  · have hl := World.block_lt_of_cell? w a h
    rw [hb.cell (by simp; omega), World.cell?_of_block (w := w) (Below.heap_alloc _ _ _ hl)]; exact h
  · rw [hb.cell (by simp), World.cell?_alloc_mark]; exact h

/-- Behind a call alone. -/
theorem call_keep {w w1 : World} (hb : Below w.heap.size w w1) : (∀ a v, w.cell? a = some v → w1.cell? a = some v) := fun a v h => by
  have hl := World.block_lt_of_cell? w a h
  rw [hb.cell hl]; exact h

theorem lit_new1 : newV 1 2 1 1 5 = .tuple #[.agg #[.int .i64 2, .int .i64 5], .int .i64 0] := by kernel_rfl
theorem lit_new2 : newV 0 0 0 0 5 = .tuple #[.agg #[.int .i64 0, .int .i64 0], .int .i64 1] := by kernel_rfl
theorem lit_take1 : takeV 1 2 1 1 2 5 5 = .tuple #[.agg #[.int .i64 1, .int .i64 5], .bool true] := by kernel_rfl
theorem lit_take2 : takeV 1 2 1 1 1 5 5 = .tuple #[.agg #[.int .i64 0, .int .i64 5], .bool true] := by kernel_rfl
theorem lit_take3 : takeV 1 2 1 1 0 5 5 = .tuple #[.agg #[.int .i64 0, .int .i64 5], .bool false] := by kernel_rfl
theorem lit_take4 : takeV 1 2 1 1 0 5 6 = .tuple #[.agg #[.int .i64 0, .int .i64 6], .bool true] := by kernel_rfl
theorem lit_lev1 : levelI 1 2 1 1 0 5 9 = 2 := by kernel_rfl
theorem lit_lev2 : levelI 1 2 1 1 0 5 4 = 0 := by kernel_rfl
theorem lit_wait1 : waitI 1 2 1 1 0 5 5 = 1 := by kernel_rfl
theorem lit_wait2 : waitI 1 2 1 1 0 5 6 = 0 := by kernel_rfl
theorem lit_may1 : mayB 1 2 1 1 = true := by kernel_rfl
theorem lit_may2 : mayB 0 0 0 0 = false := by kernel_rfl

set_option maxRecDepth 100000 in
set_option maxHeartbeats 4000000 in
theorem live_any (w : World) : Calls Try.prog 18 #[] w fun e w' => e = .returned (.bool true) ∧ Below w.heap.size w w' := by
  go_enter Try.func18, Try.ntmps18
  go_wp2_with fail
  refine (new_any _ _ _ _ _ _).mono ?_
  rintro e w1 ⟨rfl, hb⟩
  rw [lit_new1]
  obtain ⟨kp, nw, HB, sz1⟩ := laid_keep hb
  have c0 := nw 0 _ rfl
  have c1 := nw 1 _ rfl
  have c2 := nw 2 _ rfl
  have c3 := nw 3 _ rfl
  clear kp nw hb
  go_wp2_with fail
  refine (new_any _ _ _ _ _ _).mono ?_
  rintro e w2 ⟨rfl, hb⟩
  rw [lit_new2]
  obtain ⟨kp, nw, hbn, sz2⟩ := laid_keep hb
  replace c0 := kp _ _ c0
  replace c1 := kp _ _ c1
  replace c2 := kp _ _ c2
  replace c3 := kp _ _ c3
  have b0 := nw 0 _ rfl
  have b1 := nw 1 _ rfl
  replace sz1 := Nat.lt_of_lt_of_le sz1 hbn.size
  replace HB := HB.trans (hbn.mono HB.size)
  clear kp nw hb hbn
  go_wp2_with fail
  refine (take_any _ _ _ _ _ _ _ _).mono ?_
  rintro e w3 ⟨rfl, hb⟩
  rw [lit_take1]
  obtain ⟨kp, nw, hbn, sz3⟩ := laid_keep hb
  replace c0 := kp _ _ c0
  replace c1 := kp _ _ c1
  replace c2 := kp _ _ c2
  replace c3 := kp _ _ c3
  replace b0 := kp _ _ b0
  replace b1 := kp _ _ b1
  have d0 := nw 0 _ rfl
  have d1 := nw 1 _ rfl
  replace sz1 := Nat.lt_of_lt_of_le sz1 hbn.size
  replace sz2 := Nat.lt_of_lt_of_le sz2 hbn.size
  replace HB := HB.trans (hbn.mono HB.size)
  clear kp nw hb hbn
  go_wp2_with fail
  refine (take_any _ _ _ _ _ _ _ _).mono ?_
  rintro e w4 ⟨rfl, hb⟩
  rw [lit_take2]
  obtain ⟨kp, nw, hbn, sz4⟩ := laid_keep hb
  replace c0 := kp _ _ c0
  replace c1 := kp _ _ c1
  replace c2 := kp _ _ c2
  replace c3 := kp _ _ c3
  replace b0 := kp _ _ b0
  replace b1 := kp _ _ b1
  replace d0 := kp _ _ d0
  replace d1 := kp _ _ d1
  have e0 := nw 0 _ rfl
  have e1 := nw 1 _ rfl
  replace sz1 := Nat.lt_of_lt_of_le sz1 hbn.size
  replace sz2 := Nat.lt_of_lt_of_le sz2 hbn.size
  replace sz3 := Nat.lt_of_lt_of_le sz3 hbn.size
  replace HB := HB.trans (hbn.mono HB.size)
  clear kp nw hb hbn
  go_wp2_with fail
  refine (take_any _ _ _ _ _ _ _ _).mono ?_
  rintro e w5 ⟨rfl, hb⟩
  rw [lit_take3]
  obtain ⟨kp, nw, hbn, sz5⟩ := laid_keep hb
  replace c0 := kp _ _ c0
  replace c1 := kp _ _ c1
  replace c2 := kp _ _ c2
  replace c3 := kp _ _ c3
  replace b0 := kp _ _ b0
  replace b1 := kp _ _ b1
  replace d0 := kp _ _ d0
  replace d1 := kp _ _ d1
  replace e0 := kp _ _ e0
  replace e1 := kp _ _ e1
  have g0 := nw 0 _ rfl
  have g1 := nw 1 _ rfl
  replace sz1 := Nat.lt_of_lt_of_le sz1 hbn.size
  replace sz2 := Nat.lt_of_lt_of_le sz2 hbn.size
  replace sz3 := Nat.lt_of_lt_of_le sz3 hbn.size
  replace sz4 := Nat.lt_of_lt_of_le sz4 hbn.size
  replace HB := HB.trans (hbn.mono HB.size)
  clear kp nw hb hbn
  go_wp2_with fail
  refine (take_any _ _ _ _ _ _ _ _).mono ?_
  rintro e w6 ⟨rfl, hb⟩
  rw [lit_take4]
  obtain ⟨kp, nw, hbn, sz6⟩ := laid_keep hb
  replace c0 := kp _ _ c0
  replace c1 := kp _ _ c1
  replace c2 := kp _ _ c2
  replace c3 := kp _ _ c3
  replace b0 := kp _ _ b0
  replace b1 := kp _ _ b1
  replace d0 := kp _ _ d0
  replace d1 := kp _ _ d1
  replace e0 := kp _ _ e0
  replace e1 := kp _ _ e1
  replace g0 := kp _ _ g0
  replace g1 := kp _ _ g1
  have i0 := nw 0 _ rfl
  have i1 := nw 1 _ rfl
  replace sz1 := Nat.lt_of_lt_of_le sz1 hbn.size
  replace sz2 := Nat.lt_of_lt_of_le sz2 hbn.size
  replace sz3 := Nat.lt_of_lt_of_le sz3 hbn.size
  replace sz4 := Nat.lt_of_lt_of_le sz4 hbn.size
  replace sz5 := Nat.lt_of_lt_of_le sz5 hbn.size
  replace HB := HB.trans (hbn.mono HB.size)
  clear kp nw hb hbn
  go_wp2_with fail
  refine (level_any _ _ _ _ _ _ _ _).mono ?_
  rintro e w7 ⟨rfl, hb⟩
  rw [lit_lev1]
  obtain ⟨kp, nw, hbn, sz7⟩ := laid_keep hb
  replace c0 := kp _ _ c0
  replace c1 := kp _ _ c1
  replace c2 := kp _ _ c2
  replace c3 := kp _ _ c3
  replace b0 := kp _ _ b0
  replace b1 := kp _ _ b1
  replace d0 := kp _ _ d0
  replace d1 := kp _ _ d1
  replace e0 := kp _ _ e0
  replace e1 := kp _ _ e1
  replace g0 := kp _ _ g0
  replace g1 := kp _ _ g1
  replace i0 := kp _ _ i0
  replace i1 := kp _ _ i1
  replace sz1 := Nat.lt_of_lt_of_le sz1 hbn.size
  replace sz2 := Nat.lt_of_lt_of_le sz2 hbn.size
  replace sz3 := Nat.lt_of_lt_of_le sz3 hbn.size
  replace sz4 := Nat.lt_of_lt_of_le sz4 hbn.size
  replace sz5 := Nat.lt_of_lt_of_le sz5 hbn.size
  replace sz6 := Nat.lt_of_lt_of_le sz6 hbn.size
  replace HB := HB.trans (hbn.mono HB.size)
  clear kp nw hb hbn
  go_wp2_with fail
  refine (level_any _ _ _ _ _ _ _ _).mono ?_
  rintro e w8 ⟨rfl, hb⟩
  rw [lit_lev2]
  have kp := call_keep hb
  replace c0 := kp _ _ c0
  replace c1 := kp _ _ c1
  replace c2 := kp _ _ c2
  replace c3 := kp _ _ c3
  replace b0 := kp _ _ b0
  replace b1 := kp _ _ b1
  replace d0 := kp _ _ d0
  replace d1 := kp _ _ d1
  replace e0 := kp _ _ e0
  replace e1 := kp _ _ e1
  replace g0 := kp _ _ g0
  replace g1 := kp _ _ g1
  replace i0 := kp _ _ i0
  replace i1 := kp _ _ i1
  replace sz1 := Nat.lt_of_lt_of_le sz1 hb.size
  replace sz2 := Nat.lt_of_lt_of_le sz2 hb.size
  replace sz3 := Nat.lt_of_lt_of_le sz3 hb.size
  replace sz4 := Nat.lt_of_lt_of_le sz4 hb.size
  replace sz5 := Nat.lt_of_lt_of_le sz5 hb.size
  replace sz6 := Nat.lt_of_lt_of_le sz6 hb.size
  replace HB := HB.trans (hb.mono HB.size)
  clear kp hb
  go_wp2_with fail
  refine (wait_any _ _ _ _ _ _ _ _).mono ?_
  rintro e w9 ⟨rfl, hb⟩
  rw [lit_wait1]
  have kp := call_keep hb
  replace c0 := kp _ _ c0
  replace c1 := kp _ _ c1
  replace c2 := kp _ _ c2
  replace c3 := kp _ _ c3
  replace b0 := kp _ _ b0
  replace b1 := kp _ _ b1
  replace d0 := kp _ _ d0
  replace d1 := kp _ _ d1
  replace e0 := kp _ _ e0
  replace e1 := kp _ _ e1
  replace g0 := kp _ _ g0
  replace g1 := kp _ _ g1
  replace i0 := kp _ _ i0
  replace i1 := kp _ _ i1
  replace sz1 := Nat.lt_of_lt_of_le sz1 hb.size
  replace sz2 := Nat.lt_of_lt_of_le sz2 hb.size
  replace sz3 := Nat.lt_of_lt_of_le sz3 hb.size
  replace sz4 := Nat.lt_of_lt_of_le sz4 hb.size
  replace sz5 := Nat.lt_of_lt_of_le sz5 hb.size
  replace sz6 := Nat.lt_of_lt_of_le sz6 hb.size
  replace HB := HB.trans (hb.mono HB.size)
  clear kp hb
  go_wp2_with fail
  refine (wait_any _ _ _ _ _ _ _ _).mono ?_
  rintro e w10 ⟨rfl, hb⟩
  rw [lit_wait2]
  have kp := call_keep hb
  replace c0 := kp _ _ c0
  replace c1 := kp _ _ c1
  replace c2 := kp _ _ c2
  replace c3 := kp _ _ c3
  replace b0 := kp _ _ b0
  replace b1 := kp _ _ b1
  replace d0 := kp _ _ d0
  replace d1 := kp _ _ d1
  replace e0 := kp _ _ e0
  replace e1 := kp _ _ e1
  replace g0 := kp _ _ g0
  replace g1 := kp _ _ g1
  replace i0 := kp _ _ i0
  replace i1 := kp _ _ i1
  replace sz1 := Nat.lt_of_lt_of_le sz1 hb.size
  replace sz2 := Nat.lt_of_lt_of_le sz2 hb.size
  replace sz3 := Nat.lt_of_lt_of_le sz3 hb.size
  replace sz4 := Nat.lt_of_lt_of_le sz4 hb.size
  replace sz5 := Nat.lt_of_lt_of_le sz5 hb.size
  replace sz6 := Nat.lt_of_lt_of_le sz6 hb.size
  replace HB := HB.trans (hb.mono HB.size)
  clear kp hb
  go_wp2_with fail
  refine (may_any _ _ _ _ _).mono ?_
  rintro e w11 ⟨rfl, hb⟩
  rw [lit_may1]
  have kp := call_keep hb
  replace c0 := kp _ _ c0
  replace c1 := kp _ _ c1
  replace c2 := kp _ _ c2
  replace c3 := kp _ _ c3
  replace b0 := kp _ _ b0
  replace b1 := kp _ _ b1
  replace d0 := kp _ _ d0
  replace d1 := kp _ _ d1
  replace e0 := kp _ _ e0
  replace e1 := kp _ _ e1
  replace g0 := kp _ _ g0
  replace g1 := kp _ _ g1
  replace i0 := kp _ _ i0
  replace i1 := kp _ _ i1
  replace sz1 := Nat.lt_of_lt_of_le sz1 hb.size
  replace sz2 := Nat.lt_of_lt_of_le sz2 hb.size
  replace sz3 := Nat.lt_of_lt_of_le sz3 hb.size
  replace sz4 := Nat.lt_of_lt_of_le sz4 hb.size
  replace sz5 := Nat.lt_of_lt_of_le sz5 hb.size
  replace sz6 := Nat.lt_of_lt_of_le sz6 hb.size
  replace HB := HB.trans (hb.mono HB.size)
  clear kp hb
  go_wp2_with fail
  refine (may_any _ _ _ _ _).mono ?_
  rintro e w12 ⟨rfl, hb⟩
  rw [lit_may2]
  have kp := call_keep hb
  replace c0 := kp _ _ c0
  replace c1 := kp _ _ c1
  replace c2 := kp _ _ c2
  replace c3 := kp _ _ c3
  replace b0 := kp _ _ b0
  replace b1 := kp _ _ b1
  replace d0 := kp _ _ d0
  replace d1 := kp _ _ d1
  replace e0 := kp _ _ e0
  replace e1 := kp _ _ e1
  replace g0 := kp _ _ g0
  replace g1 := kp _ _ g1
  replace i0 := kp _ _ i0
  replace i1 := kp _ _ i1
  replace sz1 := Nat.lt_of_lt_of_le sz1 hb.size
  replace sz2 := Nat.lt_of_lt_of_le sz2 hb.size
  replace sz3 := Nat.lt_of_lt_of_le sz3 hb.size
  replace sz4 := Nat.lt_of_lt_of_le sz4 hb.size
  replace sz5 := Nat.lt_of_lt_of_le sz5 hb.size
  replace sz6 := Nat.lt_of_lt_of_le sz6 hb.size
  replace HB := HB.trans (hb.mono HB.size)
  clear kp hb
  go_wp2_with fail
  go_ret
  exact ⟨rfl, HB⟩

end Go.Proofs.Ytlidfgpjhoddjaa
