/-
  The walk of PaceTells: it answers true at every config, bucket and tick; nothing that was there is changed.
-/
import Derived.Test.YtlidfgpjhoddjaaLive
import Derived.Deep.RegionHeld3

namespace Go.Proofs.Ytlidfgpjhoddjaa
open Go.RowKit

theorem newV_form (r u a p n : Int) : ∃ x y d, newV r u a p n = .tuple #[.agg #[.int .i64 x, .int .i64 y], .int .i64 d] := by
  unfold newV
  split <;> exact ⟨_, _, _, rfl⟩

/-- What the law's six boxes hold, where nothing older is turned. -/
structure TS (r u a p k t x y tk tt : Int) (w : World) (b1 b2 b3 b4 : Nat) (wr : World) : Prop where
  all : wr.cell? ⟨w.heap.size, 0, none⟩ = some (.int .i64 r) ∧ wr.cell? ⟨w.heap.size, 1, none⟩ = some (.int .i64 u) ∧ wr.cell? ⟨w.heap.size, 2, none⟩ = some (.int .i64 a) ∧ wr.cell? ⟨w.heap.size, 3, none⟩ = some (.int .i64 p) ∧
      wr.cell? ⟨w.heap.size + 1, 0, none⟩ = some (.int .i64 k) ∧ wr.cell? ⟨w.heap.size + 1, 1, none⟩ = some (.int .i64 t) ∧ wr.cell? ⟨b1, 0, none⟩ = some (.int .i64 x) ∧ wr.cell? ⟨b1, 1, none⟩ = some (.int .i64 y) ∧
      wr.cell? ⟨b2, 0, none⟩ = some (.int .i64 x) ∧ wr.cell? ⟨b2, 1, none⟩ = some (.int .i64 y) ∧ wr.cell? ⟨b3, 0, none⟩ = some (.int .i64 tk) ∧ wr.cell? ⟨b3, 1, none⟩ = some (.int .i64 tt) ∧
      wr.cell? ⟨b4, 0, none⟩ = some (.int .i64 tk) ∧ wr.cell? ⟨b4, 1, none⟩ = some (.int .i64 tt)
  bel : Below w.heap.size w wr

theorem TS.kept {r u a p k t x y tk tt : Int} {w wr w1 : World} {b1 b2 b3 b4 : Nat} (h : TS r u a p k t x y tk tt w b1 b2 b3 b4 wr) (hb : Below wr.heap.size wr w1) : TS r u a p k t x y tk tt w b1 b2 b3 b4 w1 := by
  have kp := call_keep hb
  obtain ⟨⟨h1, h2, h3, h4, h5, h6, h7, h8, h9, h10, h11, h12, h13, h14⟩, hbel⟩ := h
  exact ⟨⟨kp _ _ h1, kp _ _ h2, kp _ _ h3, kp _ _ h4, kp _ _ h5, kp _ _ h6, kp _ _ h7, kp _ _ h8, kp _ _ h9, kp _ _ h10, kp _ _ h11, kp _ _ h12, kp _ _ h13, kp _ _ h14⟩, hbel.trans (hb.mono hbel.size)⟩

theorem TS.drew {r u a p k t x y tk tt : Int} {w wr : World} {b1 b2 b3 b4 : Nat} (h : TS r u a p k t x y tk tt w b1 b2 b3 b4 wr) : TS r u a p k t x y tk tt w b1 b2 b3 b4 wr.drew :=
  h.kept (Below.drew (Below.refl _ _))

theorem TS.mk' {r u a p k t x y tk tt : Int} {w w4 : World} {b1 b2 b3 : Nat}
    (c0 : w4.cell? ⟨w.heap.size, 0, none⟩ = some (.int .i64 r)) (c1 : w4.cell? ⟨w.heap.size, 1, none⟩ = some (.int .i64 u)) (c2 : w4.cell? ⟨w.heap.size, 2, none⟩ = some (.int .i64 a)) (c3 : w4.cell? ⟨w.heap.size, 3, none⟩ = some (.int .i64 p))
    (d0 : w4.cell? ⟨w.heap.size + 1, 0, none⟩ = some (.int .i64 k)) (d1 : w4.cell? ⟨w.heap.size + 1, 1, none⟩ = some (.int .i64 t)) (e0 : w4.cell? ⟨b1, 0, none⟩ = some (.int .i64 x)) (e1 : w4.cell? ⟨b1, 1, none⟩ = some (.int .i64 y))
    (f0 : w4.cell? ⟨b2, 0, none⟩ = some (.int .i64 x)) (f1 : w4.cell? ⟨b2, 1, none⟩ = some (.int .i64 y)) (g0 : w4.cell? ⟨b3, 0, none⟩ = some (.int .i64 tk)) (g1 : w4.cell? ⟨b3, 1, none⟩ = some (.int .i64 tt)) (hB : Below w.heap.size w w4) :
    TS r u a p k t x y tk tt w b1 b2 b3 w4.heap.size (w4.alloc (.cells #[.int .i64 tk, .int .i64 tt] 25)) := by
  obtain ⟨kp, nw, -, -⟩ := laid_keep (w := w4) (C := #[.int .i64 tk, .int .i64 tt]) (T := 25) (Below.refl _ _)
  exact ⟨⟨kp _ _ c0, kp _ _ c1, kp _ _ c2, kp _ _ c3, kp _ _ d0, kp _ _ d1, kp _ _ e0, kp _ _ e1, kp _ _ f0, kp _ _ f1, kp _ _ g0, kp _ _ g1, nw 0 _ rfl, nw 1 _ rfl⟩, hB.alloc hB.size _⟩

set_option maxRecDepth 100000 in
set_option maxHeartbeats 8000000 in
theorem tells_any (r u a p k t n : Int) (w : World) :
    Calls Try.prog 3 #[.agg #[.int .i64 r, .int .i64 u, .int .i64 a, .int .i64 p], .agg #[.int .i64 k, .int .i64 t], .int .i64 n] w fun e w' => e = .returned (.bool true) ∧ Below w.heap.size w w' := by
  obtain ⟨x, y, d, hnew⟩ := newV_form r u a p n
  have HN := Lib.hid hnew
  obtain ⟨tk, tt, tb, htake⟩ : ∃ tk tt tb, takeV r u a p k t n = .tuple #[.agg #[.int .i64 tk, .int .i64 tt], .bool tb] := ⟨_, _, _, rfl⟩
  have HT := Lib.hid htake
  clear hnew htake
  go_enter Try.func3, Try.ntmps3
  go_wp2_with fail
  refine (new_any _ _ _ _ _ _).mono ?_
  rintro e w1 ⟨rfl, hb⟩
  rw [HN.out]
  obtain ⟨c0, c1, c2, c3, b0, b1, HB, sz0⟩ := boxes_of (by simpa using hb)
  have szz : w.heap.size < w1.heap.size := by omega
  clear hb
  go_wp2_with fail
  refine (refNew_any _ _ _ _ _ _).mono ?_
  rintro e w2 ⟨rfl, hb⟩
  rw [HN.out]
  obtain ⟨kp, nw, hbn, sz2⟩ := laid_keep hb
  replace c0 := kp _ _ c0
  replace c1 := kp _ _ c1
  replace c2 := kp _ _ c2
  replace c3 := kp _ _ c3
  replace b0 := kp _ _ b0
  replace b1 := kp _ _ b1
  have d0 := nw 0 (.int .i64 x) rfl
  have d1 := nw 1 (.int .i64 y) rfl
  replace sz0 := Nat.lt_of_lt_of_le sz0 hbn.size
  replace szz := Nat.lt_of_lt_of_le szz hbn.size
  replace HB := HB.trans (hbn.mono HB.size)
  clear kp nw hb hbn
  go_wp2_with fail
  refine (take_any _ _ _ _ _ _ _ _).mono ?_
  rintro e w3 ⟨rfl, hb⟩
  rw [HT.out]
  obtain ⟨kp, nw, hbn, sz3⟩ := laid_keep hb
  replace c0 := kp _ _ c0
  replace c1 := kp _ _ c1
  replace c2 := kp _ _ c2
  replace c3 := kp _ _ c3
  replace b0 := kp _ _ b0
  replace b1 := kp _ _ b1
  replace d0 := kp _ _ d0
  replace d1 := kp _ _ d1
  have e0 := nw 0 (.int .i64 x) rfl
  have e1 := nw 1 (.int .i64 y) rfl
  replace sz0 := Nat.lt_of_lt_of_le sz0 hbn.size
  replace szz := Nat.lt_of_lt_of_le szz hbn.size
  replace sz2 := Nat.lt_of_lt_of_le sz2 hbn.size
  replace HB := HB.trans (hbn.mono HB.size)
  clear kp nw hb hbn
  go_wp2_with fail
  refine (refTake_any _ _ _ _ _ _ _ _).mono ?_
  rintro e w4 ⟨rfl, hb⟩
  rw [HT.out]
  obtain ⟨kp, nw, hbn, sz4⟩ := laid_keep hb
  replace c0 := kp _ _ c0
  replace c1 := kp _ _ c1
  replace c2 := kp _ _ c2
  replace c3 := kp _ _ c3
  replace b0 := kp _ _ b0
  replace b1 := kp _ _ b1
  replace d0 := kp _ _ d0
  replace d1 := kp _ _ d1
  replace e0 := kp _ _ e0
  replace e1 := kp _ _ e1
  have g0 := nw 0 (.int .i64 tk) rfl
  have g1 := nw 1 (.int .i64 tt) rfl
  replace sz0 := Nat.lt_of_lt_of_le sz0 hbn.size
  replace szz := Nat.lt_of_lt_of_le szz hbn.size
  replace sz2 := Nat.lt_of_lt_of_le sz2 hbn.size
  replace sz3 := Nat.lt_of_lt_of_le sz3 hbn.size
  replace HB := HB.trans (hbn.mono HB.size)
  clear kp nw hb hbn
  go_wp2_with fail
  have HS := (TS.mk' c0 c1 c2 c3 b0 b1 d0 d1 e0 e1 g0 g1 HB (k := k) (tk := tk) (tt := tt)).drew
  clear c0 c1 c2 c3 b0 b1 d0 d1 e0 e1 g0 g1 HB
  have hmm : (mayB r u a p == mayB r u a p) = true := by simp
  have hll : (levelI r u a p k t n == levelI r u a p k t n) = true := by simp
  have hww : (waitI r u a p k t n == waitI r u a p k t n) = true := by simp
  have hbb : (tb == tb) = true := by simp
  go_region_held3 (fun w' => w'.cell? ⟨w.heap.size, 0, none⟩ = some (.int .i64 r) ∧ w'.cell? ⟨w.heap.size, 1, none⟩ = some (.int .i64 u) ∧ w'.cell? ⟨w.heap.size, 2, none⟩ = some (.int .i64 a) ∧ w'.cell? ⟨w.heap.size, 3, none⟩ = some (.int .i64 p) ∧
      w'.cell? ⟨w.heap.size + 1, 0, none⟩ = some (.int .i64 k) ∧ w'.cell? ⟨w.heap.size + 1, 1, none⟩ = some (.int .i64 t) ∧ w'.cell? ⟨w1.heap.size, 0, none⟩ = some (.int .i64 x) ∧ w'.cell? ⟨w1.heap.size, 1, none⟩ = some (.int .i64 y) ∧
      w'.cell? ⟨w2.heap.size, 0, none⟩ = some (.int .i64 x) ∧ w'.cell? ⟨w2.heap.size, 1, none⟩ = some (.int .i64 y) ∧ w'.cell? ⟨w3.heap.size, 0, none⟩ = some (.int .i64 tk) ∧ w'.cell? ⟨w3.heap.size, 1, none⟩ = some (.int .i64 tt) ∧
      w'.cell? ⟨w4.heap.size, 0, none⟩ = some (.int .i64 tk) ∧ w'.cell? ⟨w4.heap.size, 1, none⟩ = some (.int .i64 tt)) (first | exact HS.all)
    (first | (go_at_call 12; refine (may_any _ _ _ _ _).mono ?_; rintro e w9 ⟨rfl, hb9⟩; replace HS := HS.kept hb9; clear hb9) | (go_at_call 13; refine (refMay_any _ _ _ _ _).mono ?_; rintro e w9 ⟨rfl, hb9⟩; replace HS := HS.kept hb9; clear hb9) | (go_at_call 14; refine (level_any _ _ _ _ _ _ _ _).mono ?_; rintro e w9 ⟨rfl, hb9⟩; replace HS := HS.kept hb9; clear hb9) | (go_at_call 15; refine (refLevel_any _ _ _ _ _ _ _ _).mono ?_; rintro e w9 ⟨rfl, hb9⟩; replace HS := HS.kept hb9; clear hb9) | (go_at_call 16; refine (wait_any _ _ _ _ _ _ _ _).mono ?_; rintro e w9 ⟨rfl, hb9⟩; replace HS := HS.kept hb9; clear hb9) | (go_at_call 17; refine (refWait_any _ _ _ _ _ _ _ _).mono ?_; rintro e w9 ⟨rfl, hb9⟩; replace HS := HS.kept hb9; clear hb9) | (go_at_call 18; refine (live_any _).mono ?_; rintro e w9 ⟨rfl, hb9⟩; replace HS := HS.kept hb9; clear hb9))
  go_wp2_with fail
  go_ret
  exact ⟨rfl, HS.bel⟩

end Go.Proofs.Ytlidfgpjhoddjaa
