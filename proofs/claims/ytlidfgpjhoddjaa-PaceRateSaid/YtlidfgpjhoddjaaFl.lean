/-
  Natural numbers below 2^53 as words of float64: sums, differences and products of them are exact, and so is the way there and back. No program, no condition but that bound.
-/
import Derived.Laws.ComplexArith
set_option linter.unusedSimpArgs false
namespace Go.Proofs.Ytlidfgpjhoddjaa.Flt
open Ieee

/-- A datum that is the natural number n. -/
def Val (d : Datum) (n : Nat) : Prop := ∃ k : Nat, d = .number false (n * 2 ^ k) (-(k : Int))

theorem signed_false (m k : Nat) : signed false m k = ((m * 2 ^ k : Nat) : Int) := by simp [signed, Nat.shiftLeft_eq]
theorem signed_true (m k : Nat) : signed true m k = -((m * 2 ^ k : Nat) : Int) := by simp [signed, Nat.shiftLeft_eq]

theorem scale (a i j : Nat) (h : i ≤ j) : a * 2 ^ i * 2 ^ (j - i) = a * 2 ^ j := by
  rw [Nat.mul_assoc, ← Nat.pow_add]; congr 2; omega

theorem val_product {d e : Datum} {a b : Nat} (hd : Val d a) (he : Val e b) : ∃ f, d.product e = some f ∧ Val f (a * b) := by
  obtain ⟨i, rfl⟩ := hd
  obtain ⟨j, rfl⟩ := he
  refine ⟨_, rfl, i + j, ?_⟩
  simp only [Bool.xor_false, Datum.number.injEq, true_and]
  constructor
  · rw [Nat.pow_add, Nat.mul_mul_mul_comm]
  · omega

theorem base_left (i j : Nat) : (-(i : Int) - min (-(i : Int)) (-(j : Int))).toNat = max i j - i := by omega
theorem base_right (i j : Nat) : (-(j : Int) - min (-(i : Int)) (-(j : Int))).toNat = max i j - j := by omega

theorem val_sum {d e : Datum} {a b : Nat} (hd : Val d a) (he : Val e b) : ∃ f, d.sum e = some f ∧ Val f (a + b) := by
  obtain ⟨i, rfl⟩ := hd
  obtain ⟨j, rfl⟩ := he
  refine ⟨_, rfl, max i j, ?_⟩
  rw [base_left, base_right, signed_false, signed_false, scale a i _ (by omega), scale b j _ (by omega)]
  have hn : ¬ (((a * 2 ^ max i j : Nat) : Int) + ((b * 2 ^ max i j : Nat) : Int) < 0) := by omega
  simp only [Datum.number.injEq, Bool.and_self, decide_eq_true_eq, Bool.false_eq]
  refine ⟨?_, ?_, by omega⟩
  · split
    · rfl
    · simpa using hn
  · rw [Nat.add_mul]; omega

theorem val_diff {d e : Datum} {a b : Nat} (hd : Val d a) (he : Val e b) (h : b ≤ a) : ∃ f, d.sum e.opposite = some f ∧ Val f (a - b) := by
  obtain ⟨i, rfl⟩ := hd
  obtain ⟨j, rfl⟩ := he
  refine ⟨_, rfl, max i j, ?_⟩
  rw [base_left, base_right, signed_false, Bool.not_false, signed_true, scale a i _ (by omega), scale b j _ (by omega)]
  have hle : b * 2 ^ max i j ≤ a * 2 ^ max i j := Nat.mul_le_mul_right _ h
  have hn : ¬ (((a * 2 ^ max i j : Nat) : Int) + -((b * 2 ^ max i j : Nat) : Int) < 0) := by omega
  simp only [Datum.number.injEq, Bool.false_and, Bool.and_true]
  refine ⟨?_, ?_, by omega⟩
  · split
    · rfl
    · simpa using hn
  · rw [Nat.sub_mul]; omega

theorem cut_exact (way : Toward) (neg : Bool) (n k : Nat) : way.cut neg (n * 2 ^ k) k = n := by
  unfold Toward.cut
  by_cases h0 : n = 0
  · subst h0
    rcases way with _ | _ | _ | _ <;> simp [Nat.shiftLeft_eq] <;> exact (Nat.ne_of_gt (Nat.two_pow_pos _))
  · have hlog : (n * 2 ^ k).log2 = n.log2 + k := by
      rw [Nat.log2_eq_iff (Nat.mul_ne_zero h0 (Nat.ne_of_gt (Nat.two_pow_pos k)))]
      have h1 := Nat.log2_self_le h0
      have h2 := Nat.lt_log2_self (n := n)
      constructor
      · rw [Nat.pow_add]; exact Nat.mul_le_mul_right _ h1
      · rw [Nat.add_right_comm, Nat.pow_add]; exact (Nat.mul_lt_mul_right (Nat.two_pow_pos k)).2 h2
    have hm : min k ((n * 2 ^ k).log2 + 2) = k := by omega
    simp only [hm, Nat.shiftLeft_eq, Nat.one_mul, Nat.mul_mod_left, Nat.mul_div_cancel n (Nat.two_pow_pos k)]
    have hp := Nat.two_pow_pos k
    rcases way with _ | _ | _ | _ <;> simp <;> (try omega)

theorem val_int {d : Datum} {n : Nat} (hd : Val d n) : d.toInt .zero = some (n : Int) := by
  obtain ⟨k, rfl⟩ := hd
  unfold Datum.toInt Datum.integral
  have e : (-(k : Int)).toNat = 0 := by omega
  have e2 : (- -(k : Int)).toNat = k := by omega
  simp only [e, e2, Nat.shiftLeft_zero, cut_exact, signed_false, Nat.pow_zero, Nat.mul_one]

theorem log2_lt {n : Nat} (h0 : n ≠ 0) (h : n < 2 ^ 53) : n.log2 < 53 := (Nat.log2_lt h0).2 h

theorem log2_mul {n : Nat} (h0 : n ≠ 0) (k : Nat) : (n * 2 ^ k).log2 = n.log2 + k := by
  rw [Nat.log2_eq_iff (Nat.mul_ne_zero h0 (Nat.ne_of_gt (Nat.two_pow_pos k)))]
  have h1 := Nat.log2_self_le h0
  have h2 := Nat.lt_log2_self (n := n)
  constructor
  · rw [Nat.pow_add]; exact Nat.mul_le_mul_right _ h1
  · rw [Nat.add_right_comm, Nat.pow_add]; exact (Nat.mul_lt_mul_right (Nat.two_pow_pos k)).2 h2

/-- The word of a natural number below 2^53. -/
def fl (n : Nat) : Nat := if n = 0 then 0 else (n.log2 + 1022) * 2 ^ 52 + n * 2 ^ (52 - n.log2)

theorem cut_none (way : Toward) (neg : Bool) (n : Nat) : way.cut neg n 0 = n := by
  have := cut_exact way neg n 0; simpa using this

theorem sig_bounds {n : Nat} (h0 : n ≠ 0) (h : n < 2 ^ 53) : 2 ^ 52 ≤ n * 2 ^ (52 - n.log2) ∧ n * 2 ^ (52 - n.log2) < 2 ^ 53 := by
  have hl := log2_lt h0 h
  have h1 := Nat.log2_self_le h0
  have h2 := Nat.lt_log2_self (n := n)
  have e1 : 2 ^ n.log2 * 2 ^ (52 - n.log2) = 2 ^ 52 := by rw [← Nat.pow_add]; congr 1; omega
  have e2 : 2 ^ (n.log2 + 1) * 2 ^ (52 - n.log2) = 2 ^ 53 := by rw [← Nat.pow_add]; congr 1; omega
  constructor
  · rw [← e1]; exact Nat.mul_le_mul_right _ h1
  · rw [← e2]; exact (Nat.mul_lt_mul_right (Nat.two_pow_pos _)).2 h2

theorem val_write {d : Datum} {n : Nat} (hd : Val d n) (h : n < 2 ^ 53) : double.write d = fl n := by
  obtain ⟨k, rfl⟩ := hd
  unfold Format.write Format.nearest fl
  by_cases h0 : n = 0
  · simp [h0, Format.word]
  · have hl := log2_lt h0 h
    have hb := sig_bounds h0 h
    have hne : n * 2 ^ k ≠ 0 := Nat.mul_ne_zero h0 (Nat.ne_of_gt (Nat.two_pow_pos k))
    have hlast : max (-(k : Int) + ((n * 2 ^ k).log2 : Int) - (double.fractionBits : Int)) double.leastPlace = (n.log2 : Int) - 52 := by
      rw [log2_mul h0 k]
      have e1 : double.fractionBits = 52 := rfl
      have e2 : double.leastPlace = -1074 := by decide
      rw [e1, e2]; omega
    simp only [if_neg hne, if_neg h0, hlast]
    have hk : Toward.even.cut false ((n * 2 ^ k) <<< (-(k : Int) - ((n.log2 : Int) - 52)).toNat) (((n.log2 : Int) - 52) - -(k : Int)).toNat = n * 2 ^ (52 - n.log2) := by
      by_cases hc : k ≤ 52 - n.log2
      · have e1 : (((n.log2 : Int) - 52) - -(k : Int)).toNat = 0 := by omega
        have e2 : (-(k : Int) - ((n.log2 : Int) - 52)).toNat = (52 - n.log2) - k := by omega
        rw [e1, e2, cut_none, Nat.shiftLeft_eq, scale n k _ hc]
      · have e1 : (((n.log2 : Int) - 52) - -(k : Int)).toNat = k - (52 - n.log2) := by omega
        have e2 : (-(k : Int) - ((n.log2 : Int) - 52)).toNat = 0 := by omega
        rw [e1, e2, Nat.shiftLeft_zero]
        have e3 : n * 2 ^ k = (n * 2 ^ (52 - n.log2)) * 2 ^ (k - (52 - n.log2)) := by rw [scale n _ k (by omega)]
        rw [e3, cut_exact]
    rw [hk]
    have e4 : ((n.log2 : Int) - 52 - double.leastPlace).toNat = n.log2 + 1022 := by
      have e2 : double.leastPlace = -1074 := by decide
      rw [e2]; omega
    have e5 : double.binade = 2 ^ 52 := rfl
    have e6 : double.infRung = 2047 * 2 ^ 52 := by decide
    rw [e4, e5, e6]
    simp only [Format.word, Bool.false_eq_true, if_false]
    have : (n.log2 + 1022) * 2 ^ 52 ≤ 1074 * 2 ^ 52 := Nat.mul_le_mul_right _ (by omega)
    omega

theorem val_read {n : Nat} (h : n < 2 ^ 53) : Val (double.read (fl n)) n := by
  unfold fl
  by_cases h0 : n = 0
  · subst h0
    have hz : ∀ k : Nat, Val (.number false 0 (-(k : Int))) 0 := fun k => ⟨k, by rw [Nat.zero_mul]⟩
    have e : double.read (if (0 : Nat) = 0 then 0 else (Nat.log2 0 + 1022) * 2 ^ 52 + 0 * 2 ^ (52 - Nat.log2 0)) = .number false 0 (-((1074 : Nat) : Int)) := by decide
    rw [e]; exact hz _
  · rw [if_neg h0]
    have hl := log2_lt h0 h
    have hb := sig_bounds h0 h
    refine ⟨52 - n.log2, ?_⟩
    generalize hs : n * 2 ^ (52 - n.log2) = s at *
    have hm : (n.log2 + 1022) * 2 ^ 52 ≤ 1074 * 2 ^ 52 := Nat.mul_le_mul_right _ (by omega)
    have e5 : double.binade = 2 ^ 52 := rfl
    have e6 : double.infRung = 2047 * 2 ^ 52 := by decide
    have e7 : double.signWeight = 2 ^ 63 := rfl
    have e8 : double.leastPlace = -1074 := by decide
    have hrung : ((n.log2 + 1022) * 2 ^ 52 + s) % 2 ^ 63 = (n.log2 + 1022) * 2 ^ 52 + s := Nat.mod_eq_of_lt (by omega)
    have hneg : ((n.log2 + 1022) * 2 ^ 52 + s) / 2 ^ 63 = 0 := Nat.div_eq_of_lt (by omega)
    have hdiv : ((n.log2 + 1022) * 2 ^ 52 + s) / 2 ^ 52 = n.log2 + 1023 := by omega
    have hmod : ((n.log2 + 1022) * 2 ^ 52 + s) % 2 ^ 52 = s - 2 ^ 52 := by omega
    unfold Format.read
    simp only [e5, e6, e7, e8, hrung, hneg, hdiv, hmod]
    rw [if_neg (by omega), if_pos (by omega)]
    simp only [Datum.number.injEq]
    refine ⟨by decide, by omega, by omega⟩

theorem add_fl {a b : Nat} (h : a + b < 2 ^ 53) : floatBits .add .f64 (fl a) (fl b) = some (fl (a + b)) := by
  obtain ⟨f, h1, h2⟩ := val_sum (val_read (n := a) (by omega)) (val_read (n := b) (by omega))
  show (((double.read (fl a)).sum (double.read (fl b))).map double.write) = _
  rw [h1, Option.map_some, val_write h2 h]

theorem sub_fl {a b : Nat} (ha : a < 2 ^ 53) (h : b ≤ a) : floatBits .sub .f64 (fl a) (fl b) = some (fl (a - b)) := by
  obtain ⟨f, h1, h2⟩ := val_diff (val_read (n := a) (by omega)) (val_read (n := b) (by omega)) h
  show (((double.read (fl a)).sum (double.read (fl b)).opposite).map double.write) = _
  rw [h1, Option.map_some, val_write h2 (by omega)]

theorem mul_fl {a b : Nat} (ha : a < 2 ^ 53) (hb : b < 2 ^ 53) (h : a * b < 2 ^ 53) : floatBits .mul .f64 (fl a) (fl b) = some (fl (a * b)) := by
  obtain ⟨f, h1, h2⟩ := val_product (val_read (n := a) ha) (val_read (n := b) hb)
  show (((double.read (fl a)).product (double.read (fl b))).map double.write) = _
  rw [h1, Option.map_some, val_write h2 h]

theorem of_int {n : Nat} (h : n < 2 ^ 53) : floatOfInt .f64 (n : Int) = fl n := by
  show double.write (.number (decide ((n : Int) < 0)) (n : Int).natAbs 0) = fl n
  refine val_write ⟨0, ?_⟩ h
  simp

theorem to_int {n : Nat} (h : n < 2 ^ 53) : floatToIntVal .f64 (fl n) .i64 = some (n : Int) := by
  unfold floatToIntVal
  have e : (FloatKind.f64.decode (fl n)).toInt .zero = some (n : Int) := val_int (val_read h)
  rw [e]
  simp only
  rw [if_pos]
  constructor
  · have : IntKind.i64.min ≤ 0 := by decide
    omega
  · have : IntKind.i64.max = 9223372036854775807 := by decide
    omega
end Go.Proofs.Ytlidfgpjhoddjaa.Flt
