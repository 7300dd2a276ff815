/-
  What pace's and its reference's New, Level, Take and Wait compute, for all numbers.
-/
import Derived.Test.YtlidfgpjhoddjaaSmall

namespace Go.Proofs.Ytlidfgpjhoddjaa
open Go.RowKit

theorem H53 : (2 : Nat) ^ 53 = 9007199254740992 := by decide
theorem fl0 : Flt.fl 0 = 0 := rfl
theorem fl1 : Flt.fl 1 = 4607182418800017408 := by decide

set_option maxHeartbeats 400000 in
theorem refNew_any (r u a p n : Int) (w : World) :
    Calls Try.prog 9 #[.agg #[.int .i64 r, .int .i64 u, .int .i64 a, .int .i64 p], .int .i64 n] w fun e w' => e = .returned (newV r u a p n) ∧ Below w.heap.size w w' := by
  go_enter Try.func9, Try.ntmps9
  go_wp2_with fail
  refine (refMay_any _ _ _ _ _).mono ?_
  rintro e w1 ⟨rfl, hb⟩
  have hbox := boxes_of (by simpa using hb)
  obtain ⟨c0, c1, c2, c3, b0, b1, bel, hsz⟩ := hbox
  have f0 : w1.frozen? ⟨w.heap.size + 1, 0, none⟩ = false := by rw [hb.frozen (by simp)]; simp
  have f1 : w1.frozen? ⟨w.heap.size + 1, 1, none⟩ = false := by rw [hb.frozen (by simp)]; simp
  have HB := Lib.hid bel
  clear bel hb
  go_wp2_with (go_at_call 20; refine (refTime_any _ _).mono ?_; rintro e w' ⟨rfl, rfl⟩)
  · refine bodyPost_ret (v := .tuple #[.agg #[.int .i64 0, .int .i64 0], .int .i64 1]) (by simp [results, Try.results9, go_sem, b0, b1]) rfl ⟨ret_val (by simp_all [newV]), (HB.out.setCell (by simp) _).setCell (by simp) _⟩
  · refine bodyPost_ret (v := .tuple #[.agg #[.int .i64 u, .int .i64 n], .int .i64 0]) (by simp [results, Try.results9, go_sem, b0, b1]) rfl ⟨ret_val (by simp_all [newV]), (HB.out.setCell (by simp) _).setCell (by simp) _⟩
  · refine bodyPost_ret (v := .tuple #[.agg #[.int .i64 0, .int .i64 0], .int .i64 1]) (by simp [results, Try.results9, go_sem, b0, b1]) rfl ⟨ret_val (by simp_all [newV]), (HB.out.setCell (by simp) _).setCell (by simp) _⟩

set_option maxHeartbeats 400000 in
theorem point_any (k t : Nat) (hk : k < 2 ^ 53) (ht : t < 2 ^ 53) (w : World) :
    Calls Try.prog 25 #[.agg #[.int .i64 k, .int .i64 t]] w fun e w' => e = .returned (.complex .f64 (Flt.fl k) (Flt.fl t)) ∧ Below w.heap.size w w' := by
  have e1 := Flt.of_int hk
  have e2 := Flt.of_int ht
  go_enter Try.func25, Try.ntmps25
  go_wp2
  go_ret
  exact ⟨rfl, Below.alloc (Below.refl _ _) (Nat.le_refl _) _⟩

set_option maxHeartbeats 400000 in
theorem bucket_any (k t : Nat) (hk : k < 2 ^ 53) (ht : t < 2 ^ 53) (w : World) :
    Calls Try.prog 24 #[.complex .f64 (Flt.fl k) (Flt.fl t)] w fun e w' => e = .returned (.agg #[.int .i64 k, .int .i64 t]) ∧ Below w.heap.size w w' := by
  have e1 := fun W => run_convert_float_int (P := Try.prog) W 47 3 .f64 .i64 (Flt.fl k) k (by kernel_rfl) Try.underlying3 (Flt.to_int hk)
  have e2 := fun W => run_convert_float_int (P := Try.prog) W 47 3 .f64 .i64 (Flt.fl t) t (by kernel_rfl) Try.underlying3 (Flt.to_int ht)
  go_enter Try.func24, Try.ntmps24
  go_wp2
  refine bodyPost_ret (v := .agg #[.int .i64 k, .int .i64 t]) (by simp [results, Try.results24, go_sem]) rfl ⟨rfl, Below.alloc (Below.refl _ _) (Nat.le_refl _) _⟩

theorem mul_c (d a : Nat) (hd : d ≤ 1099511627776) (ha : a ≤ 16) (W : World) :
    (binOp .mul 45 (.complex .f64 (Flt.fl d) 0) (.complex .f64 (Flt.fl a) 4607182418800017408)).run Try.prog W = .ok (.complex .f64 (Flt.fl (d * a)) (Flt.fl d)) W := by
  have h53 : (2 : Nat) ^ 53 = 9007199254740992 := by decide
  have hda : d * a ≤ 1099511627776 * 16 := Nat.mul_le_mul hd ha
  refine run_complex_mul W 45 _ _ _ _ _ _ ?_
  unfold cMulBits
  rw [← fl0, ← fl1, Flt.mul_fl (by omega) (by omega) (by omega), Option.bind_some, Flt.mul_fl (by omega) (by omega) (by omega), Option.bind_some, Flt.sub_fl (by omega) (by omega), Option.bind_some,
    Flt.mul_fl (by omega) (by omega) (by omega), Option.bind_some, Flt.mul_fl (by omega) (by omega) (by omega), Option.bind_some, Flt.add_fl (by omega), Option.bind_some]
  simp

theorem add_c (k t x d : Nat) (h1 : k + x < 2 ^ 53) (h2 : t + d < 2 ^ 53) (W : World) :
    (binOp .add 45 (.complex .f64 (Flt.fl k) (Flt.fl t)) (.complex .f64 (Flt.fl x) (Flt.fl d))).run Try.prog W = .ok (.complex .f64 (Flt.fl (k + x)) (Flt.fl (t + d))) W := by
  refine run_complex_sum W .add (.inl rfl) 45 .f64 _ _ _ _ _ _ ?_
  unfold cSumBits
  rw [Flt.add_fl h1, Option.bind_some, Flt.add_fl h2, Option.bind_some]

theorem sub_c (k t : Nat) (h1 : k < 2 ^ 53) (h2 : t < 2 ^ 53) (h : 1 ≤ k) (W : World) :
    (binOp .sub 45 (.complex .f64 (Flt.fl k) (Flt.fl t)) (.complex .f64 4607182418800017408 0)).run Try.prog W = .ok (.complex .f64 (Flt.fl (k - 1)) (Flt.fl t)) W := by
  refine run_complex_sum W .sub (.inr rfl) 45 .f64 _ _ _ _ _ _ ?_
  unfold cSumBits
  rw [← fl0, ← fl1, Flt.sub_fl h1 h, Option.bind_some, Flt.sub_fl h2 (Nat.zero_le _), Option.bind_some]
  rfl

/-- The three boxes behind calls that turn nothing older. -/
theorem boxes3 {r u a p k t : Int} {w w1 : World} (h : Below (w.heap.size + 1 + 1 + 1) (((w.alloc (.cells #[.int .i64 r, .int .i64 u, .int .i64 a, .int .i64 p] 23)).alloc (.cells #[.int .i64 k, .int .i64 t] 25)).alloc (.cells #[.int .i64 0, .int .i64 0] 25)) w1) :
    Boxes r u a p k t w w1 ∧ w1.cell? ⟨w.heap.size + 1 + 1, 0, none⟩ = some (.int .i64 0) ∧ w1.cell? ⟨w.heap.size + 1 + 1, 1, none⟩ = some (.int .i64 0) ∧ w1.frozen? ⟨w.heap.size + 1, 0, none⟩ = false ∧ w1.frozen? ⟨w.heap.size + 1, 1, none⟩ = false ∧
      w1.frozen? ⟨w.heap.size + 1 + 1, 0, none⟩ = false ∧ w1.frozen? ⟨w.heap.size + 1 + 1, 1, none⟩ = false ∧ w.heap.size + 1 + 1 < w1.heap.size := by
  have hs := h.size
  simp at hs
  have h2 : Below (w.heap.size + 1 + 1) ((w.alloc (.cells #[.int .i64 r, .int .i64 u, .int .i64 a, .int .i64 p] 23)).alloc (.cells #[.int .i64 k, .int .i64 t] 25)) w1 := (Below.alloc (Below.refl _ _) (by simp) _).trans (h.mono (by omega))
  have e2 : ((w.alloc (.cells #[.int .i64 r, .int .i64 u, .int .i64 a, .int .i64 p] 23)).alloc (.cells #[.int .i64 k, .int .i64 t] 25)).heap.size = w.heap.size + 1 + 1 := by simp
  have h3 := h
  rw [← e2] at h3
  generalize ((w.alloc (.cells #[.int .i64 r, .int .i64 u, .int .i64 a, .int .i64 p] 23)).alloc (.cells #[.int .i64 k, .int .i64 t] 25)) = W2 at e2 h3
  refine ⟨boxes_of h2, ?_, ?_, ?_, ?_, ?_, ?_, by omega⟩
  · rw [← e2, h3.cell (by show W2.heap.size < _; omega), World.cell?_alloc_mark]; rfl
  · rw [← e2, h3.cell (by show W2.heap.size < _; omega), World.cell?_alloc_mark]; rfl
  · rw [h2.frozen (by show w.heap.size + 1 < _; omega)]; simp
  · rw [h2.frozen (by show w.heap.size + 1 < _; omega)]; simp
  · rw [← e2, h3.frozen (by show W2.heap.size < _; omega), World.frozen?_alloc_mark]; rfl
  · rw [← e2, h3.frozen (by show W2.heap.size < _; omega), World.frozen?_alloc_mark]; rfl

theorem agg2 {a b c d : Int} (h1 : a = c) (h2 : b = d) : Value.agg #[.int .i64 a, .int .i64 b] = .agg #[.int .i64 c, .int .i64 d] := by rw [h1, h2]
theorem min_right {u k d a : Nat} (h : (u : Int) < (k : Int) + (d : Int) * (a : Int)) : (u : Int) = ((min (k + d * a) u : Nat) : Int) := by
  have : u ≤ k + d * a := by
    have e : ((k + d * a : Nat) : Int) = (k : Int) + (d : Int) * (a : Int) := by simp
    omega
  rw [Nat.min_eq_right this]
theorem min_left {u k d a : Nat} (h : (k : Int) + (d : Int) * (a : Int) ≤ (u : Int)) : (k : Int) + (d : Int) * (a : Int) = ((min (k + d * a) u : Nat) : Int) := by
  have e : ((k + d * a : Nat) : Int) = (k : Int) + (d : Int) * (a : Int) := by simp
  have : k + d * a ≤ u := by omega
  rw [Nat.min_eq_left this, e]

set_option maxHeartbeats 400000 in
theorem later_any (r p : Int) (u a k t n : Nat) (hu : u ≤ 64) (ha : a ≤ 16) (hk : k ≤ u) (ht : t ≤ 1099511627776) (hn : n ≤ 1099511627776) (w : World) :
    Calls Try.prog 23 #[.agg #[.int .i64 r, .int .i64 u, .int .i64 a, .int .i64 p], .agg #[.int .i64 k, .int .i64 t], .int .i64 n] w fun e w' =>
      e = .returned (.agg #[.int .i64 (min (k + (n - t) * a) u : Nat), .int .i64 (t + (n - t) : Nat)]) ∧ Below w.heap.size w w' := by
  have h53 : (2 : Nat) ^ 53 = 9007199254740992 := by decide
  obtain ⟨d, hd⟩ : ∃ d, d = n - t := ⟨_, rfl⟩
  have hda : d * a ≤ 1099511627776 * 16 := Nat.mul_le_mul (by omega) ha
  have hmul := fun W => mul_c d a (by omega) ha W
  have hadd := fun W => add_c k t (d * a) d (by omega) (by omega) W
  have ea := Flt.of_int (n := a) (by omega)
  have edz : floatOfInt FloatKind.f64 (max 0 ((n : Int) - (t : Int))) = Flt.fl d := by
    have := Flt.of_int (n := d) (by omega)
    rw [← this]; congr 1; omega
  rw [← hd]
  have HD := Lib.hid hd
  clear h53 hd
  by_cases hlt : t < n
  · have ed : floatOfInt FloatKind.f64 ((n : Int) - (t : Int)) = Flt.fl d := by rw [← edz]; congr 1; omega
    clear edz
    go_enter Try.func23, Try.ntmps23
    go_wp2_with fail
    refine (point_any _ _ (by rw [H53]; omega) (by rw [H53]; omega) _).mono ?_
    rintro e w1 ⟨rfl, hb1⟩
    go_wp2_with fail
    refine (bucket_any _ _ (by rw [H53]; omega) (by rw [H53]; have := HD.out; omega) _).mono ?_
    rintro e w2 ⟨rfl, hb2⟩
    obtain ⟨hbx, z0, z1, f0, f1, g0, g1, hsz⟩ := boxes3 (by simpa using hb1.trans (hb2.mono hb1.size))
    obtain ⟨c0, c1, c2, c3, b0, b1, bel, _⟩ := hbx
    have HB := Lib.hid bel
    clear bel hb1 hb2
    go_wp2_with fail
    · have hlt2 : (u : Int) < (k : Int) + (d : Int) * (a : Int) := by assumption
      refine bodyPost_ret (v := .agg #[.int .i64 u, .int .i64 ((t : Int) + (d : Int))]) (by simp [results, Try.results23, go_sem, z0, z1]) rfl ⟨ret_val (agg2 (min_right hlt2) rfl), ?_⟩
      exact ((((HB.out.setCell (by simp) _).setCell (by simp) _).setCell (by simp) _).setCell (by simp; omega) _).setCell (by simp; omega) _
    · have hlt2 : (k : Int) + (d : Int) * (a : Int) ≤ (u : Int) := by assumption
      refine bodyPost_ret (v := .agg #[.int .i64 ((k : Int) + (d : Int) * (a : Int)), .int .i64 ((t : Int) + (d : Int))]) (by simp [results, Try.results23, go_sem, z0, z1]) rfl ⟨ret_val (agg2 (min_left hlt2) rfl), ?_⟩
      exact ((((HB.out.setCell (by simp) _).setCell (by simp) _).setCell (by simp) _).setCell (by simp; omega) _).setCell (by simp; omega) _
  · obtain rfl : d = 0 := by have := HD.out; omega
    have ed : floatOfInt FloatKind.f64 0 = Flt.fl 0 := by rw [← edz]; congr 1; omega
    clear edz
    have ekz : k + 0 * a = k := by omega
    have etz : t + 0 = t := by omega
    have hadd2 : ∀ W : World, (binOp .add 45 (.complex .f64 (Flt.fl k) (Flt.fl t)) (.complex .f64 (Flt.fl 0) (Flt.fl 0))).run Try.prog W = .ok (.complex .f64 (Flt.fl k) (Flt.fl t)) W :=
      fun W => add_c k t 0 0 (by rw [H53]; omega) (by rw [H53]; omega) W
    rw [ekz, etz]
    clear hadd
    have EK := Lib.hid ekz
    clear ekz etz
    go_enter Try.func23, Try.ntmps23
    go_wp2_with fail
    refine (point_any _ _ (by rw [H53]; omega) (by rw [H53]; omega) _).mono ?_
    rintro e w1 ⟨rfl, hb1⟩
    go_wp2_with fail
    refine (bucket_any _ _ (by rw [H53]; omega) (by rw [H53]; omega) _).mono ?_
    rintro e w2 ⟨rfl, hb2⟩
    obtain ⟨hbx, z0, z1, f0, f1, g0, g1, hsz⟩ := boxes3 (by simpa using hb1.trans (hb2.mono hb1.size))
    obtain ⟨c0, c1, c2, c3, b0, b1, bel, _⟩ := hbx
    have HB := Lib.hid bel
    clear bel hb1 hb2
    go_wp2_with fail
    have hmk : (k : Int) = ((min k u : Nat) : Int) := by rw [Nat.min_eq_left hk]
    refine bodyPost_ret (v := .agg #[.int .i64 k, .int .i64 t]) (by simp [results, Try.results23, go_sem, z0, z1]) rfl ⟨ret_val (agg2 hmk rfl), ?_⟩
    exact ((((HB.out.setCell (by simp) _).setCell (by simp) _).setCell (by simp) _).setCell (by simp; omega) _).setCell (by simp; omega) _

end Go.Proofs.Ytlidfgpjhoddjaa
