/-
  The walk of PaceFull: it answers true at every config and bucket; nothing that was there is changed.
-/
import Derived.Test.YtlidfgpjhoddjaaTellsW
import Derived.Deep.RegionHeld3

namespace Go.Proofs.Ytlidfgpjhoddjaa
open Go.RowKit

theorem one_parts {r u a p k t : Int} (h : oneB r u a p k t = true) : 1 ≤ u ∧ u ≤ 64 ∧ 1 ≤ a ∧ a ≤ 16 ∧ 0 ≤ k ∧ k ≤ u ∧ 0 ≤ t ∧ t ≤ 1099511627776 := by
  simp only [oneB, mayB, inB, Bool.and_eq_true, decide_eq_true_eq] at h
  omega

theorem fits_of {r u a p k t n : Int} (h : oneB r u a p k t = true) (h0 : 0 ≤ n) (h1 : n ≤ 1099511627776) : fitsB r u a p k t n = true := by
  simp [fitsB, inB, h, h0, h1]

theorem may_of {r u a p k t : Int} (h : oneB r u a p k t = true) : mayB r u a p = true := by
  simp only [oneB, Bool.and_eq_true] at h; exact h.1.1

theorem full_lev {u a k t : Int} (hu : 1 ≤ u) (ha : 1 ≤ a) (hk : 0 ≤ k) : levI u a k t (t + u) = u := by
  unfold levI
  rw [if_neg (by omega)]
  have e : t + u - t = u := by omega
  rw [e]
  have : u * 1 ≤ u * a := Int.mul_le_mul_of_nonneg_left ha (by omega)
  omega

theorem full_at {u t : Int} (hu : 1 ≤ u) : atI t (t + u) = t + u := by unfold atI; rw [if_pos (by omega)]
theorem at_self (t : Int) : atI t t = t := by unfold atI; rw [if_neg (by omega)]
theorem lev_self (u a k t : Int) : levI u a k t t = k := by unfold levI; rw [if_pos (by omega)]

theorem full_facts {r u a p k t : Int} (h : oneB r u a p k t = true) (ht : t ≤ 1099511627712) :
    takeV r u a p k t (t + u) = .tuple #[.agg #[.int .i64 (u - 1), .int .i64 (t + u)], .bool true] ∧ newV r u a p (t + u) = .tuple #[.agg #[.int .i64 u, .int .i64 (t + u)], .int .i64 0] ∧
    takeV r u a p u (t + u) (t + u) = .tuple #[.agg #[.int .i64 (u - 1), .int .i64 (t + u)], .bool true] ∧ levelI r u a p k t (t + u) = u ∧ waitI r u a p k t (t + u) = 0 := by
  obtain ⟨h1, h2, h3, h4, h5, h6, h7, h8⟩ := one_parts h
  have hf := fits_of (n := t + u) h (by omega) (by omega)
  have hm := may_of h
  have hl := full_lev (t := t) h1 h3 h5
  have ho : oneB r u a p u (t + u) = true := by simp [oneB, hm, inB]; omega
  have hf2 := fits_of (n := t + u) ho (by omega) (by omega)
  refine ⟨?_, ?_, ?_, ?_, ?_⟩
  · rw [← takeV_some hf (by omega), hl, full_at h1]
  · unfold newV; rw [hm]; simp [inB]; omega
  · rw [← takeV_some hf2 (by rw [lev_self]; omega), lev_self, at_self]
  · unfold levelI; rw [if_pos hf, hl]
  · unfold waitI; rw [if_pos hf, hl, if_pos (by omega)]

/-- What the law's five boxes hold, where nothing older is turned. -/
structure FS (r u a p k t x1 y1 x2 y2 x3 y3 : Int) (w : World) (b2 b3 b4 : Nat) (wr : World) : Prop where
  all : wr.cell? ⟨w.heap.size, 0, none⟩ = some (.int .i64 r) ∧ wr.cell? ⟨w.heap.size, 1, none⟩ = some (.int .i64 u) ∧ wr.cell? ⟨w.heap.size, 2, none⟩ = some (.int .i64 a) ∧ wr.cell? ⟨w.heap.size, 3, none⟩ = some (.int .i64 p) ∧
      wr.cell? ⟨w.heap.size + 1, 0, none⟩ = some (.int .i64 k) ∧ wr.cell? ⟨w.heap.size + 1, 1, none⟩ = some (.int .i64 t) ∧ wr.cell? ⟨b2, 0, none⟩ = some (.int .i64 x1) ∧ wr.cell? ⟨b2, 1, none⟩ = some (.int .i64 y1) ∧
      wr.cell? ⟨b3, 0, none⟩ = some (.int .i64 x2) ∧ wr.cell? ⟨b3, 1, none⟩ = some (.int .i64 y2) ∧ wr.cell? ⟨b4, 0, none⟩ = some (.int .i64 x3) ∧ wr.cell? ⟨b4, 1, none⟩ = some (.int .i64 y3)
  bel : Below w.heap.size w wr

theorem FS.kept {r u a p k t x1 y1 x2 y2 x3 y3 : Int} {w wr w1 : World} {b2 b3 b4 : Nat} (h : FS r u a p k t x1 y1 x2 y2 x3 y3 w b2 b3 b4 wr) (hb : Below wr.heap.size wr w1) : FS r u a p k t x1 y1 x2 y2 x3 y3 w b2 b3 b4 w1 := by
  have kp := call_keep hb
  obtain ⟨⟨h1, h2, h3, h4, h5, h6, h7, h8, h9, h10, h11, h12⟩, hbel⟩ := h
  exact ⟨⟨kp _ _ h1, kp _ _ h2, kp _ _ h3, kp _ _ h4, kp _ _ h5, kp _ _ h6, kp _ _ h7, kp _ _ h8, kp _ _ h9, kp _ _ h10, kp _ _ h11, kp _ _ h12⟩, hbel.trans (hb.mono hbel.size)⟩

theorem FS.drew {r u a p k t x1 y1 x2 y2 x3 y3 : Int} {w wr : World} {b2 b3 b4 : Nat} (h : FS r u a p k t x1 y1 x2 y2 x3 y3 w b2 b3 b4 wr) : FS r u a p k t x1 y1 x2 y2 x3 y3 w b2 b3 b4 wr.drew :=
  h.kept (Below.drew (Below.refl _ _))

theorem FS.mk' {r u a p k t x1 y1 x2 y2 x3 y3 : Int} {w w4 : World} {b2 b3 : Nat}
    (c0 : w4.cell? ⟨w.heap.size, 0, none⟩ = some (.int .i64 r)) (c1 : w4.cell? ⟨w.heap.size, 1, none⟩ = some (.int .i64 u)) (c2 : w4.cell? ⟨w.heap.size, 2, none⟩ = some (.int .i64 a)) (c3 : w4.cell? ⟨w.heap.size, 3, none⟩ = some (.int .i64 p))
    (d0 : w4.cell? ⟨w.heap.size + 1, 0, none⟩ = some (.int .i64 k)) (d1 : w4.cell? ⟨w.heap.size + 1, 1, none⟩ = some (.int .i64 t)) (e0 : w4.cell? ⟨b2, 0, none⟩ = some (.int .i64 x1)) (e1 : w4.cell? ⟨b2, 1, none⟩ = some (.int .i64 y1))
    (f0 : w4.cell? ⟨b3, 0, none⟩ = some (.int .i64 x2)) (f1 : w4.cell? ⟨b3, 1, none⟩ = some (.int .i64 y2)) (hB : Below w.heap.size w w4) :
    FS r u a p k t x1 y1 x2 y2 x3 y3 w b2 b3 w4.heap.size (w4.alloc (.cells #[.int .i64 x3, .int .i64 y3] 25)) := by
  obtain ⟨kp, nw, -, -⟩ := laid_keep (w := w4) (C := #[.int .i64 x3, .int .i64 y3]) (T := 25) (Below.refl _ _)
  exact ⟨⟨kp _ _ c0, kp _ _ c1, kp _ _ c2, kp _ _ c3, kp _ _ d0, kp _ _ d1, kp _ _ e0, kp _ _ e1, kp _ _ f0, kp _ _ f1, nw 0 _ rfl, nw 1 _ rfl⟩, hB.alloc hB.size _⟩

set_option maxRecDepth 100000 in
set_option maxHeartbeats 8000000 in
theorem full_any (r u a p k t : Int) (w : World) (htl : -9223372036854775808 ≤ t) (htu : t ≤ 9223372036854775807) :
    Calls Try.prog 6 #[.agg #[.int .i64 r, .int .i64 u, .int .i64 a, .int .i64 p], .agg #[.int .i64 k, .int .i64 t]] w fun e w' => e = .returned (.bool true) ∧ Below w.heap.size w w' := by
  by_cases h1 : oneB r u a p k t = true
  · by_cases h2 : t ≤ 1099511627712
    · obtain ⟨q1, q2, q3, q4, q5, q6, q7, q8⟩ := one_parts h1
      obtain ⟨f1, f2, f3, f4, f5⟩ := full_facts h1 h2
      have F1 := Lib.hid f1
      have F2 := Lib.hid f2
      have F3 := Lib.hid f3
      have F4 := Lib.hid f4
      have F5 := Lib.hid f5
      clear f1 f2 f3 f4 f5 q3 q4
      go_enter Try.func6, Try.ntmps6
      go_wp2_with fail
      refine (one_any _ _ _ _ _ _ _).mono ?_
      rintro e w1 ⟨rfl, hb⟩
      obtain ⟨c0, c1, c2, c3, b0, b1, HB, sz0⟩ := boxes_of (by simpa using hb)
      have szz : w.heap.size < w1.heap.size := by omega
      clear hb
      go_wp2_with fail
      refine (take_any _ _ _ _ _ _ _ _).mono ?_
      rintro e w2 ⟨rfl, hb⟩
      rw [F1.out]
      have kp := call_keep hb
      replace c0 := kp _ _ c0
      replace c1 := kp _ _ c1
      replace c2 := kp _ _ c2
      replace c3 := kp _ _ c3
      replace b0 := kp _ _ b0
      replace b1 := kp _ _ b1
      replace sz0 := Nat.lt_of_lt_of_le sz0 hb.size
      replace szz := Nat.lt_of_lt_of_le szz hb.size
      replace HB := HB.trans (hb.mono HB.size)
      clear kp hb
      go_wp2_with fail
      refine (new_any _ _ _ _ _ _).mono ?_
      rintro e w3 ⟨rfl, hb⟩
      rw [F2.out]
      obtain ⟨kp, nw, hbn, sz3⟩ := laid_keep hb
      replace c0 := kp _ _ c0
      replace c1 := kp _ _ c1
      replace c2 := kp _ _ c2
      replace c3 := kp _ _ c3
      replace b0 := kp _ _ b0
      replace b1 := kp _ _ b1
      have d0 := nw 0 (.int .i64 (u - 1)) rfl
      have d1 := nw 1 (.int .i64 (t + u)) rfl
      replace sz0 := Nat.lt_of_lt_of_le sz0 hbn.size
      replace szz := Nat.lt_of_lt_of_le szz hbn.size
      replace HB := HB.trans (hbn.mono HB.size)
      clear kp nw hb hbn
      go_wp2_with fail
      refine (take_any _ _ _ _ _ _ _ _).mono ?_
      rintro e w4 ⟨rfl, hb⟩
      rw [F3.out]
      obtain ⟨kp, nw, hbn, sz4⟩ := laid_keep hb
      replace c0 := kp _ _ c0
      replace c1 := kp _ _ c1
      replace c2 := kp _ _ c2
      replace c3 := kp _ _ c3
      replace b0 := kp _ _ b0
      replace b1 := kp _ _ b1
      replace d0 := kp _ _ d0
      replace d1 := kp _ _ d1
      have e0 := nw 0 (.int .i64 (u)) rfl
      have e1 := nw 1 (.int .i64 (t + u)) rfl
      replace sz0 := Nat.lt_of_lt_of_le sz0 hbn.size
      replace szz := Nat.lt_of_lt_of_le szz hbn.size
      replace sz3 := Nat.lt_of_lt_of_le sz3 hbn.size
      replace HB := HB.trans (hbn.mono HB.size)
      clear kp nw hb hbn
      go_wp2_with fail
      have HS := (FS.mk' (x3 := u - 1) (y3 := t + u) c0 c1 c2 c3 b0 b1 d0 d1 e0 e1 HB).drew
      clear c0 c1 c2 c3 b0 b1 d0 d1 e0 e1 HB
      go_region_held3 (fun w' => w'.cell? ⟨w.heap.size, 0, none⟩ = some (.int .i64 r) ∧ w'.cell? ⟨w.heap.size, 1, none⟩ = some (.int .i64 u) ∧ w'.cell? ⟨w.heap.size, 2, none⟩ = some (.int .i64 a) ∧ w'.cell? ⟨w.heap.size, 3, none⟩ = some (.int .i64 p) ∧
      w'.cell? ⟨w.heap.size + 1, 0, none⟩ = some (.int .i64 k) ∧ w'.cell? ⟨w.heap.size + 1, 1, none⟩ = some (.int .i64 t) ∧ w'.cell? ⟨w2.heap.size, 0, none⟩ = some (.int .i64 (u - 1)) ∧ w'.cell? ⟨w2.heap.size, 1, none⟩ = some (.int .i64 (t + u)) ∧
      w'.cell? ⟨w3.heap.size, 0, none⟩ = some (.int .i64 u) ∧ w'.cell? ⟨w3.heap.size, 1, none⟩ = some (.int .i64 (t + u)) ∧ w'.cell? ⟨w4.heap.size, 0, none⟩ = some (.int .i64 (u - 1)) ∧ w'.cell? ⟨w4.heap.size, 1, none⟩ = some (.int .i64 (t + u))) (first | exact HS.all)
    (first | (go_at_call 14; refine (level_any _ _ _ _ _ _ _ _).mono ?_; rintro e w9 ⟨rfl, hb9⟩; rw [F4.out]; replace HS := HS.kept hb9; clear hb9) | (go_at_call 16; refine (wait_any _ _ _ _ _ _ _ _).mono ?_; rintro e w9 ⟨rfl, hb9⟩; rw [F5.out]; replace HS := HS.kept hb9; clear hb9) | (go_at_call 18; refine (live_any _).mono ?_; rintro e w9 ⟨rfl, hb9⟩; replace HS := HS.kept hb9; clear hb9))
      go_wp2_with fail
      go_ret
      exact ⟨rfl, HS.bel⟩
    · have hgt : (1099511627712 : Int) < t := by omega
      clear h2
      go_enter Try.func6, Try.ntmps6
      go_wp2_with fail
      refine (one_any _ _ _ _ _ _ _).mono ?_
      rintro e w1 ⟨rfl, hb⟩
      obtain ⟨c0, c1, c2, c3, b0, b1, HB, sz0⟩ := boxes_of (by simpa using hb)
      clear hb
      go_wp2_with fail
      refine (live_any _).mono ?_
      rintro e w2 ⟨rfl, hb2⟩
      go_wp2_with fail
      go_ret
      exact ⟨rfl, HB.trans (hb2.mono HB.size)⟩
  · have h1' : oneB r u a p k t = false := by simpa using h1
    clear h1
    go_enter Try.func6, Try.ntmps6
    go_wp2_with fail
    refine (one_any _ _ _ _ _ _ _).mono ?_
    rintro e w1 ⟨rfl, hb⟩
    obtain ⟨c0, c1, c2, c3, b0, b1, HB, sz0⟩ := boxes_of (by simpa using hb)
    clear hb
    go_wp2_with fail
    refine (live_any _).mono ?_
    rintro e w2 ⟨rfl, hb2⟩
    go_wp2_with fail
    go_ret
    exact ⟨rfl, HB.trans (hb2.mono HB.size)⟩

theorem full_row (r u a p k t : Int) (_ : IntKind.i64.min ≤ r) (_ : r ≤ IntKind.i64.max) (_ : IntKind.i64.min ≤ u) (_ : u ≤ IntKind.i64.max) (_ : IntKind.i64.min ≤ a) (_ : a ≤ IntKind.i64.max) (_ : IntKind.i64.min ≤ p) (_ : p ≤ IntKind.i64.max)
    (_ : IntKind.i64.min ≤ k) (_ : k ≤ IntKind.i64.max) (htl : IntKind.i64.min ≤ t) (htu : t ≤ IntKind.i64.max) (w : World) :
    Calls Try.prog 6 #[.agg #[.int .i64 r, .int .i64 u, .int .i64 a, .int .i64 p], .agg #[.int .i64 k, .int .i64 t]] w fun e w' => e = .returned (.bool true) ∧ Below w.heap.size w w' := by
  have e : IntKind.i64.min = -9223372036854775808 := by decide
  have e' : IntKind.i64.max = 9223372036854775807 := by decide
  exact full_any r u a p k t w (by omega) (by omega)

end Go.Proofs.Ytlidfgpjhoddjaa
