/-
  What Level, Take and Wait of pace and of its reference compute, for all numbers.
-/
import Derived.Test.YtlidfgpjhoddjaaLater

namespace Go.Proofs.Ytlidfgpjhoddjaa
open Go.RowKit

/-- A bucket's level at a tick. -/
def levI (u a k t n : Int) : Int := if n ≤ t then k else min u (k + (n - t) * a)
/-- The later one of two ticks. -/
def atI (t n : Int) : Int := if t < n then n else t

theorem fits_parts {r u a p k t n : Int} (h : fitsB r u a p k t n = true) : 1 ≤ u ∧ u ≤ 64 ∧ 1 ≤ a ∧ a ≤ 16 ∧ 0 ≤ k ∧ k ≤ u ∧ 0 ≤ t ∧ t ≤ 1099511627776 ∧ 0 ≤ n ∧ n ≤ 1099511627776 := by
  simp only [fitsB, oneB, mayB, inB, Bool.and_eq_true, decide_eq_true_eq] at h
  omega

theorem lev_nat (u a k t n : Nat) (hk : k ≤ u) : ((min (k + (n - t) * a) u : Nat) : Int) = levI u a k t n := by
  unfold levI
  by_cases h : n ≤ t
  · rw [if_pos (by omega)]
    have : n - t = 0 := by omega
    rw [this, Nat.zero_mul, Nat.add_zero, Nat.min_eq_left hk]
  · rw [if_neg (by omega), Nat.min_comm]
    have e : ((n - t : Nat) : Int) = (n : Int) - (t : Int) := by omega
    have e2 : ((k + (n - t) * a : Nat) : Int) = (k : Int) + ((n : Int) - (t : Int)) * (a : Int) := by rw [← e]; simp
    rw [← e2]; omega

theorem at_nat (t n : Nat) : ((t + (n - t) : Nat) : Int) = atI t n := by
  unfold atI
  by_cases h : t < n
  · rw [if_pos (by omega)]; omega
  · rw [if_neg (by omega)]; omega

theorem lev_bd {r u a p k t n : Int} (h : fitsB r u a p k t n = true) : 0 ≤ levI u a k t n ∧ levI u a k t n ≤ u := by
  have b := fits_parts h
  unfold levI
  split
  · omega
  · have : 0 ≤ (n - t) * a := Int.mul_nonneg (by omega) (by omega)
    omega

theorem at_bd {r u a p k t n : Int} (h : fitsB r u a p k t n = true) : 0 ≤ atI t n ∧ atI t n ≤ 1099511627776 := by
  have b := fits_parts h
  unfold atI
  split <;> omega

set_option maxHeartbeats 400000 in
theorem later_fits {r u a p k t n : Int} (h : fitsB r u a p k t n = true) (w : World) :
    Calls Try.prog 23 #[.agg #[.int .i64 r, .int .i64 u, .int .i64 a, .int .i64 p], .agg #[.int .i64 k, .int .i64 t], .int .i64 n] w fun e w' =>
      e = .returned (.agg #[.int .i64 (levI u a k t n), .int .i64 (atI t n)]) ∧ Below w.heap.size w w' := by
  have b := fits_parts h
  obtain ⟨u', rfl⟩ := Int.eq_ofNat_of_zero_le (show 0 ≤ u by omega)
  obtain ⟨a', rfl⟩ := Int.eq_ofNat_of_zero_le (show 0 ≤ a by omega)
  obtain ⟨k', rfl⟩ := Int.eq_ofNat_of_zero_le (show 0 ≤ k by omega)
  obtain ⟨t', rfl⟩ := Int.eq_ofNat_of_zero_le (show 0 ≤ t by omega)
  obtain ⟨n', rfl⟩ := Int.eq_ofNat_of_zero_le (show 0 ≤ n by omega)
  have := later_any r p u' a' k' t' n' (by omega) (by omega) (by omega) (by omega) (by omega) w
  rw [lev_nat _ _ _ _ _ (by omega), at_nat] at this
  exact this

theorem field0 (x y : Int) (W : World) : (Instr.field 25 (.agg #[.int .i64 x, .int .i64 y]) 0).run Try.prog W = .ok (.int .i64 x) W := by kernel_rfl

/-- What Level tells. -/
def levelI (r u a p k t n : Int) : Int := if fitsB r u a p k t n = true then levI u a k t n else 0

set_option maxHeartbeats 400000 in
theorem level_any (r u a p k t n : Int) (w : World) :
    Calls Try.prog 14 #[.agg #[.int .i64 r, .int .i64 u, .int .i64 a, .int .i64 p], .agg #[.int .i64 k, .int .i64 t], .int .i64 n] w fun e w' => e = .returned (.int .i64 (levelI r u a p k t n)) ∧ Below w.heap.size w w' := by
  by_cases hf : fitsB r u a p k t n = true
  · have HL : Hid (levelI r u a p k t n = levI u a k t n) := by show _ = _; unfold levelI; rw [if_pos hf]
    have HF := Lib.hid hf
    have hfld := field0 (levI u a k t n) (atI t n)
    go_enter Try.func14, Try.ntmps14
    go_wp2_with fail
    refine (fits_any _ _ _ _ _ _ _ _).mono ?_
    rintro e w1 ⟨rfl, hb⟩
    have hbx := boxes_of (by simpa using hb)
    obtain ⟨c0, c1, c2, c3, b0, b1, bel, hsz⟩ := hbx
    have HB := Lib.hid bel
    clear bel hb
    go_wp2_with fail
    refine (later_fits HF.out _).mono ?_
    rintro e w2 ⟨rfl, hb2⟩
    go_wp2_with fail
    go_ret
    exact ⟨ret_int (by rw [HL.out]), HB.out.trans (hb2.mono HB.out.size)⟩
  · have HL : Hid (levelI r u a p k t n = 0) := by show _ = _; unfold levelI; rw [if_neg hf]
    have hf' : fitsB r u a p k t n = false := by simpa using hf
    clear hf
    go_enter Try.func14, Try.ntmps14
    go_wp2_with fail
    refine (fits_any _ _ _ _ _ _ _ _).mono ?_
    rintro e w1 ⟨rfl, hb⟩
    have hbx := boxes_of (by simpa using hb)
    obtain ⟨c0, c1, c2, c3, b0, b1, bel, hsz⟩ := hbx
    have HB := Lib.hid bel
    clear bel hb
    go_wp2_with fail
    go_ret
    exact ⟨ret_int (by rw [HL.out]), HB.out⟩

set_option maxHeartbeats 400000 in
theorem refLevel_any (r u a p k t n : Int) (w : World) :
    Calls Try.prog 15 #[.agg #[.int .i64 r, .int .i64 u, .int .i64 a, .int .i64 p], .agg #[.int .i64 k, .int .i64 t], .int .i64 n] w fun e w' => e = .returned (.int .i64 (levelI r u a p k t n)) ∧ Below w.heap.size w w' := by
  by_cases h1 : oneB r u a p k t = true
  · by_cases h2 : inB n 0 1099511627776 = true
    · have hf : fitsB r u a p k t n = true := by simp [fitsB, h1, h2]
      have hb := fits_parts hf
      have HL : Hid (levelI r u a p k t n = levI u a k t n) := by show _ = _; unfold levelI; rw [if_pos hf]
      obtain ⟨q1, q2, q3, q4, q5, q6, q7, q8, q9, q10⟩ := hb
      have q11 : (n - t) * a ≤ 1099511627776 * 16 := by
        rcases Int.le_total 0 (n - t) with hh | hh
        · exact Int.mul_le_mul (by omega) q4 (by omega) (by omega)
        · have : (n - t) * a ≤ 0 := Int.mul_nonpos_of_nonpos_of_nonneg hh (by omega)
          omega
      have q12 : -(1099511627776 * 16) ≤ (n - t) * a := by
        rcases Int.le_total 0 (n - t) with hh | hh
        · have : 0 ≤ (n - t) * a := Int.mul_nonneg hh (by omega)
          omega
        · have : (t - n) * a ≤ 1099511627776 * 16 := Int.mul_le_mul (by omega) q4 (by omega) (by omega)
          have e : (t - n) * a = -((n - t) * a) := by rw [← Int.neg_mul]; congr 1; omega
          omega
      clear hf
      go_enter Try.func15, Try.ntmps15
      go_wp2_with fail
      refine (one_any _ _ _ _ _ _ _).mono ?_
      rintro e w1 ⟨rfl, hb⟩
      have hbx := boxes_of (by simpa using hb)
      obtain ⟨c0, c1, c2, c3, b0, b1, bel, hsz⟩ := hbx
      have HB := Lib.hid bel
      clear bel hb
      go_wp2_with (go_at_call 20; refine (refTime_any _ _).mono ?_; rintro e w' ⟨rfl, rfl⟩)
      all_goals
        go_ret
        exact ⟨ret_int (by rw [HL.out]; unfold levI; first | rw [if_pos (by assumption)] | (rw [if_neg (by omega)]; omega)), HB.out⟩
    · have hf : ¬ fitsB r u a p k t n = true := by simp [fitsB, h2]
      have HL : Hid (levelI r u a p k t n = 0) := by show _ = _; unfold levelI; rw [if_neg hf]
      have h2' : inB n 0 1099511627776 = false := by simpa using h2
      clear hf h2
      go_enter Try.func15, Try.ntmps15
      go_wp2_with fail
      refine (one_any _ _ _ _ _ _ _).mono ?_
      rintro e w1 ⟨rfl, hb⟩
      have hbx := boxes_of (by simpa using hb)
      obtain ⟨c0, c1, c2, c3, b0, b1, bel, hsz⟩ := hbx
      have HB := Lib.hid bel
      clear bel hb
      go_wp2_with (go_at_call 20; refine (refTime_any _ _).mono ?_; rintro e w' ⟨rfl, rfl⟩)
      go_ret
      exact ⟨ret_int (by rw [HL.out]), HB.out⟩
  · have hf : ¬ fitsB r u a p k t n = true := by simp [fitsB, h1]
    have HL : Hid (levelI r u a p k t n = 0) := by show _ = _; unfold levelI; rw [if_neg hf]
    have h1' : oneB r u a p k t = false := by simpa using h1
    clear hf h1
    go_enter Try.func15, Try.ntmps15
    go_wp2_with fail
    refine (one_any _ _ _ _ _ _ _).mono ?_
    rintro e w1 ⟨rfl, hb⟩
    have hbx := boxes_of (by simpa using hb)
    obtain ⟨c0, c1, c2, c3, b0, b1, bel, hsz⟩ := hbx
    have HB := Lib.hid bel
    clear bel hb
    go_wp2_with fail
    go_ret
    exact ⟨ret_int (by rw [HL.out]), HB.out⟩

/-- What Wait tells. -/
def waitI (r u a p k t n : Int) : Int := if fitsB r u a p k t n = true then (if 0 < levI u a k t n then 0 else 1) else 0

set_option maxHeartbeats 400000 in
theorem wait_any (r u a p k t n : Int) (w : World) :
    Calls Try.prog 16 #[.agg #[.int .i64 r, .int .i64 u, .int .i64 a, .int .i64 p], .agg #[.int .i64 k, .int .i64 t], .int .i64 n] w fun e w' => e = .returned (.int .i64 (waitI r u a p k t n)) ∧ Below w.heap.size w w' := by
  by_cases hf : fitsB r u a p k t n = true
  · have HL : Hid (levelI r u a p k t n = levI u a k t n) := by show _ = _; unfold levelI; rw [if_pos hf]
    have HW : Hid (waitI r u a p k t n = if 0 < levI u a k t n then 0 else 1) := by show _ = _; unfold waitI; rw [if_pos hf]
    go_enter Try.func16, Try.ntmps16
    go_wp2_with fail
    refine (fits_any _ _ _ _ _ _ _ _).mono ?_
    rintro e w1 ⟨rfl, hb⟩
    have hbx := boxes_of (by simpa using hb)
    obtain ⟨c0, c1, c2, c3, b0, b1, bel, hsz⟩ := hbx
    have HB := Lib.hid bel
    clear bel hb
    go_wp2_with fail
    refine (level_any _ _ _ _ _ _ _ _).mono ?_
    rintro e w2 ⟨rfl, hb2⟩
    rw [HL.out]
    go_wp2_with fail
    all_goals
      go_ret
      exact ⟨ret_int (by rw [HW.out]; first | rw [if_pos (by assumption)] | rw [if_neg (by omega)]), HB.out.trans (hb2.mono HB.out.size)⟩
  · have HW : Hid (waitI r u a p k t n = 0) := by show _ = _; unfold waitI; rw [if_neg hf]
    have hf' : fitsB r u a p k t n = false := by simpa using hf
    clear hf
    go_enter Try.func16, Try.ntmps16
    go_wp2_with fail
    refine (fits_any _ _ _ _ _ _ _ _).mono ?_
    rintro e w1 ⟨rfl, hb⟩
    have hbx := boxes_of (by simpa using hb)
    obtain ⟨c0, c1, c2, c3, b0, b1, bel, hsz⟩ := hbx
    have HB := Lib.hid bel
    clear bel hb
    go_wp2_with fail
    go_ret
    exact ⟨ret_int (by rw [HW.out]), HB.out⟩

set_option maxHeartbeats 400000 in
theorem refWait_any (r u a p k t n : Int) (w : World) :
    Calls Try.prog 17 #[.agg #[.int .i64 r, .int .i64 u, .int .i64 a, .int .i64 p], .agg #[.int .i64 k, .int .i64 t], .int .i64 n] w fun e w' => e = .returned (.int .i64 (waitI r u a p k t n)) ∧ Below w.heap.size w w' := by
  by_cases h1 : oneB r u a p k t = true
  · by_cases h2 : inB n 0 1099511627776 = true
    · have hf : fitsB r u a p k t n = true := by simp [fitsB, h1, h2]
      have HL : Hid (levelI r u a p k t n = levI u a k t n) := by show _ = _; unfold levelI; rw [if_pos hf]
      have HW : Hid (waitI r u a p k t n = if 0 < levI u a k t n then 0 else 1) := by show _ = _; unfold waitI; rw [if_pos hf]
      clear hf
      go_enter Try.func17, Try.ntmps17
      go_wp2_with fail
      refine (one_any _ _ _ _ _ _ _).mono ?_
      rintro e w1 ⟨rfl, hb⟩
      have hbx := boxes_of (by simpa using hb)
      obtain ⟨c0, c1, c2, c3, b0, b1, bel, hsz⟩ := hbx
      have HB := Lib.hid bel
      clear bel hb
      go_wp2_with fail
      refine (refTime_any _ _).mono ?_
      rintro e w' ⟨rfl, rfl⟩
      go_wp2_with fail
      refine (refLevel_any _ _ _ _ _ _ _ _).mono ?_
      rintro e w2 ⟨rfl, hb2⟩
      rw [HL.out]
      go_wp2_with fail
      all_goals
        go_ret
        exact ⟨ret_int (by rw [HW.out]; first | rw [if_pos (by omega)] | rw [if_neg (by omega)]), HB.out.trans (hb2.mono HB.out.size)⟩
    · have hf : ¬ fitsB r u a p k t n = true := by simp [fitsB, h2]
      have HW : Hid (waitI r u a p k t n = 0) := by show _ = _; unfold waitI; rw [if_neg hf]
      have h2' : inB n 0 1099511627776 = false := by simpa using h2
      clear hf h2
      go_enter Try.func17, Try.ntmps17
      go_wp2_with fail
      refine (one_any _ _ _ _ _ _ _).mono ?_
      rintro e w1 ⟨rfl, hb⟩
      have hbx := boxes_of (by simpa using hb)
      obtain ⟨c0, c1, c2, c3, b0, b1, bel, hsz⟩ := hbx
      have HB := Lib.hid bel
      clear bel hb
      go_wp2_with fail
      refine (refTime_any _ _).mono ?_
      rintro e w' ⟨rfl, rfl⟩
      go_wp2_with fail
      go_ret
      exact ⟨ret_int (by rw [HW.out]), HB.out⟩
  · have hf : ¬ fitsB r u a p k t n = true := by simp [fitsB, h1]
    have HW : Hid (waitI r u a p k t n = 0) := by show _ = _; unfold waitI; rw [if_neg hf]
    have h1' : oneB r u a p k t = false := by simpa using h1
    clear hf h1
    go_enter Try.func17, Try.ntmps17
    go_wp2_with fail
    refine (one_any _ _ _ _ _ _ _).mono ?_
    rintro e w1 ⟨rfl, hb⟩
    have hbx := boxes_of (by simpa using hb)
    obtain ⟨c0, c1, c2, c3, b0, b1, bel, hsz⟩ := hbx
    have HB := Lib.hid bel
    clear bel hb
    go_wp2_with fail
    go_ret
    exact ⟨ret_int (by rw [HW.out]), HB.out⟩

end Go.Proofs.Ytlidfgpjhoddjaa
