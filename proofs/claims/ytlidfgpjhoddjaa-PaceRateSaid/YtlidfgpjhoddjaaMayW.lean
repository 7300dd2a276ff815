/-
  The walk of PaceMay: it answers true at every config, bucket and two ticks; nothing that was there is changed.
-/
import Derived.Test.YtlidfgpjhoddjaaFullW

namespace Go.Proofs.Ytlidfgpjhoddjaa
open Go.RowKit

theorem lev_low {u a k t n : Int} (h : n ≤ t) : levI u a k t n = k := by unfold levI; rw [if_pos h]

theorem lev_mono {u a k t n m : Int} (ha : 0 ≤ a) (hk : k ≤ u) (hnm : n ≤ m) : levI u a k t n ≤ levI u a k t m := by
  unfold levI
  by_cases h1 : m ≤ t
  · rw [if_pos h1, if_pos (by omega)]; exact Int.le_refl _
  · rw [if_neg h1]
    have hm : 0 ≤ (m - t) * a := Int.mul_nonneg (by omega) ha
    by_cases h2 : n ≤ t
    · rw [if_pos h2]; omega
    · rw [if_neg h2]
      have : (n - t) * a ≤ (m - t) * a := Int.mul_le_mul_of_nonneg_right (by omega) ha
      omega

theorem one_kept {r u a p k t k' t' : Int} (h : oneB r u a p k t = true) (h0 : 0 ≤ k') (h1 : k' ≤ u) (h2 : 0 ≤ t') (h3 : t' ≤ 1099511627776) : oneB r u a p k' t' = true := by
  have hm := may_of h
  simp [oneB, hm, inB, h0, h1, h2, h3]

/-- What Take tells, of a bucket that may be. -/
theorem take_cases {r u a p k t n : Int} (h : oneB r u a p k t = true) (h0 : 0 ≤ n) (h1 : n ≤ 1099511627776) :
    (levI u a k t n = 0 ∧ takeV r u a p k t n = .tuple #[.agg #[.int .i64 0, .int .i64 (atI t n)], .bool false]) ∨
    (1 ≤ levI u a k t n ∧ takeV r u a p k t n = .tuple #[.agg #[.int .i64 (levI u a k t n - 1), .int .i64 (atI t n)], .bool true]) := by
  have hf := fits_of h h0 h1
  have hb := lev_bd hf
  by_cases hz : levI u a k t n = 0
  · exact .inl ⟨hz, (takeV_zero2 hf hz rfl).symm⟩
  · exact .inr ⟨by omega, (takeV_some2 hf hz rfl).symm⟩

theorem take_low {r u a p k t n : Int} (h : oneB r u a p k t = true) (h0 : 0 ≤ n) (h1 : n ≤ t) : takeV r u a p k t n = takeV r u a p k t t := by
  have hp := one_parts h
  have f1 := fits_of (n := n) h h0 (by omega)
  have f2 := fits_of (n := t) h (by omega) (by omega)
  have e1 : levI u a k t n = k := lev_low h1
  have e2 : levI u a k t t = k := lev_self u a k t
  have e3 : atI t n = t := by unfold atI; rw [if_neg (by omega)]
  have e4 := at_self t
  unfold takeV takeK takeT takeB
  rw [f1, f2, e1, e2, e3, e4]

theorem boxes37 {r u a p k t n0 n1 : Int} {w w1 : World} (h : Below (w.heap.size + 1 + 1 + 1) (((w.alloc (.cells #[.int .i64 r, .int .i64 u, .int .i64 a, .int .i64 p] 23)).alloc (.cells #[.int .i64 k, .int .i64 t] 25)).alloc (.cells #[.int .i64 n0, .int .i64 n1] 37)) w1) :
    w1.cell? ⟨w.heap.size, 0, none⟩ = some (.int .i64 r) ∧ w1.cell? ⟨w.heap.size, 1, none⟩ = some (.int .i64 u) ∧ w1.cell? ⟨w.heap.size, 2, none⟩ = some (.int .i64 a) ∧ w1.cell? ⟨w.heap.size, 3, none⟩ = some (.int .i64 p) ∧
      w1.cell? ⟨w.heap.size + 1, 0, none⟩ = some (.int .i64 k) ∧ w1.cell? ⟨w.heap.size + 1, 1, none⟩ = some (.int .i64 t) ∧ w1.cell? ⟨w.heap.size + 1 + 1, 0, none⟩ = some (.int .i64 n0) ∧ w1.cell? ⟨w.heap.size + 1 + 1, 1, none⟩ = some (.int .i64 n1) ∧
      Below w.heap.size w w1 ∧ w.heap.size + 1 + 1 < w1.heap.size := by
  have hs := h.size
  simp at hs
  have h2 : Below (w.heap.size + 1 + 1) ((w.alloc (.cells #[.int .i64 r, .int .i64 u, .int .i64 a, .int .i64 p] 23)).alloc (.cells #[.int .i64 k, .int .i64 t] 25)) w1 := (Below.alloc (Below.refl _ _) (by simp) _).trans (h.mono (by omega))
  have e2 : ((w.alloc (.cells #[.int .i64 r, .int .i64 u, .int .i64 a, .int .i64 p] 23)).alloc (.cells #[.int .i64 k, .int .i64 t] 25)).heap.size = w.heap.size + 1 + 1 := by simp
  obtain ⟨c0, c1, c2, c3, b0, b1, bel, sz⟩ := boxes_of h2
  rw [← e2] at h
  generalize ((w.alloc (.cells #[.int .i64 r, .int .i64 u, .int .i64 a, .int .i64 p] 23)).alloc (.cells #[.int .i64 k, .int .i64 t] 25)) = W2 at e2 h
  refine ⟨c0, c1, c2, c3, b0, b1, ?_, ?_, bel, by omega⟩
  · rw [← e2, h.cell (by show W2.heap.size < _; omega), World.cell?_alloc_mark]; rfl
  · rw [← e2, h.cell (by show W2.heap.size < _; omega), World.cell?_alloc_mark]; rfl

set_option maxRecDepth 100000 in
set_option maxHeartbeats 16000000 in
theorem may_main (r u a p k t n0 n1 L K A yk yt : Int) (B yb : Bool) (w : World) (h1 : oneB r u a p k t = true) (h2 : inB n0 0 1099511627776 = true) (h3 : inB n1 0 1099511627776 = true)
    (H1 : Hid (takeV r u a p k t n0 = .tuple #[.agg #[.int .i64 K, .int .i64 A], .bool B])) (H2 : Hid (levelI r u a p k t n0 = L)) (h4 : oneB r u a p K A = true)
    (hA : (n0 < t ∧ t = A) ∨ (t ≤ n0 ∧ n0 = A)) (HQ : Hid (n0 ≤ t → takeV r u a p k t n0 = .tuple #[.agg #[.int .i64 yk, .int .i64 yt], .bool yb])) (hB : (true = B ∧ 1 ≤ L ∧ L - 1 = K) ∨ (false = B ∧ 0 = L ∧ 0 = K)) (hL : L ≤ u) (hu : u ≤ 64) (L1 : Int) (H3 : Hid (levelI r u a p k t n1 = L1)) (hn : n0 ≤ n1 → L ≤ L1) (HY : Hid (takeV r u a p k t t = .tuple #[.agg #[.int .i64 yk, .int .i64 yt], .bool yb])) :
    Calls Try.prog 5 #[.agg #[.int .i64 r, .int .i64 u, .int .i64 a, .int .i64 p], .agg #[.int .i64 k, .int .i64 t], .agg #[.int .i64 n0, .int .i64 n1]] w fun e w' => e = .returned (.bool true) ∧ Below w.heap.size w w' := by
  have hbb : (yb == yb) = true := by simp
  have hnn : n0 ≤ n1 ∧ L ≤ L1 ∨ n1 < n0 := by
    by_cases h : n0 ≤ n1
    · exact .inl ⟨h, hn h⟩
    · exact .inr (by omega)
  clear hn
  rcases hA with ⟨hlt, rfl⟩ | ⟨hge, rfl⟩
  all_goals
    rcases hB with ⟨rfl, hL1, rfl⟩ | ⟨rfl, rfl, rfl⟩
    all_goals
      rcases hnn with ⟨hle, hll⟩ | hgt
      all_goals
        go_enter Try.func5, Try.ntmps5
        go_wp2_with fail
        refine (one_any _ _ _ _ _ _ _).mono ?_
        rintro e w1 ⟨rfl, hb⟩
        obtain ⟨c0, c1, c2, c3, b0, b1, i0, i1, HB, sz0⟩ := boxes37 (by simpa using hb)
        have sz1 : w.heap.size + 1 < w1.heap.size := by omega
        have szz : w.heap.size < w1.heap.size := by omega
        clear hb
        go_wp2_with fail
        refine (refTime_any _ _).mono ?_
        rintro e w' ⟨rfl, rfl⟩
        go_wp2_with fail
        refine (refTime_any _ _).mono ?_
        rintro e w' ⟨rfl, rfl⟩
        go_wp2_with fail
        refine (take_any _ _ _ _ _ _ _ _).mono ?_
        rintro e w2 ⟨rfl, hb⟩
        rw [H1.out]
        have kp := call_keep hb
        replace c0 := kp _ _ c0
        replace c1 := kp _ _ c1
        replace c2 := kp _ _ c2
        replace c3 := kp _ _ c3
        replace b0 := kp _ _ b0
        replace b1 := kp _ _ b1
        replace i0 := kp _ _ i0
        replace i1 := kp _ _ i1
        replace sz0 := Nat.lt_of_lt_of_le sz0 hb.size
        replace sz1 := Nat.lt_of_lt_of_le sz1 hb.size
        replace szz := Nat.lt_of_lt_of_le szz hb.size
        replace HB := HB.trans (hb.mono HB.size)
        clear kp hb
        go_wp2_with fail
        refine (level_any _ _ _ _ _ _ _ _).mono ?_
        rintro e w3 ⟨rfl, hb⟩
        rw [H2.out]
        obtain ⟨kp, nw, hbn, sz3⟩ := laid_keep hb
        replace c0 := kp _ _ c0
        replace c1 := kp _ _ c1
        replace c2 := kp _ _ c2
        replace c3 := kp _ _ c3
        replace b0 := kp _ _ b0
        replace b1 := kp _ _ b1
        replace i0 := kp _ _ i0
        replace i1 := kp _ _ i1
        replace sz0 := Nat.lt_of_lt_of_le sz0 hbn.size
        replace sz1 := Nat.lt_of_lt_of_le sz1 hbn.size
        replace szz := Nat.lt_of_lt_of_le szz hbn.size
        replace HB := HB.trans (hbn.mono HB.size)
        have d0 := nw 0 _ rfl
        have d1 := nw 1 _ rfl
        clear kp nw hb hbn
        go_wp2_with fail
        refine (one_any _ _ _ _ _ _ _).mono ?_
        rintro e w4 ⟨rfl, hb⟩
        have kp := call_keep hb
        replace c0 := kp _ _ c0
        replace c1 := kp _ _ c1
        replace c2 := kp _ _ c2
        replace c3 := kp _ _ c3
        replace b0 := kp _ _ b0
        replace b1 := kp _ _ b1
        replace i0 := kp _ _ i0
        replace i1 := kp _ _ i1
        replace d0 := kp _ _ d0
        replace d1 := kp _ _ d1
        replace sz0 := Nat.lt_of_lt_of_le sz0 hb.size
        replace sz1 := Nat.lt_of_lt_of_le sz1 hb.size
        replace szz := Nat.lt_of_lt_of_le szz hb.size
        replace sz3 := Nat.lt_of_lt_of_le sz3 hb.size
        replace HB := HB.trans (hb.mono HB.size)
        clear kp hb
        go_wp2_with fail
        try (go_at_call 14; refine (level_any _ _ _ _ _ _ _ _).mono ?_; rintro e w5 ⟨rfl, hb⟩; rw [H3.out]; have kp := call_keep hb; replace c0 := kp _ _ c0; replace c1 := kp _ _ c1; replace c2 := kp _ _ c2; replace c3 := kp _ _ c3; replace b0 := kp _ _ b0; replace b1 := kp _ _ b1; replace i0 := kp _ _ i0; replace i1 := kp _ _ i1; replace d0 := kp _ _ d0; replace d1 := kp _ _ d1; replace sz0 := Nat.lt_of_lt_of_le sz0 hb.size; replace sz1 := Nat.lt_of_lt_of_le sz1 hb.size; replace szz := Nat.lt_of_lt_of_le szz hb.size; replace sz3 := Nat.lt_of_lt_of_le sz3 hb.size; replace HB := HB.trans (hb.mono HB.size); clear kp hb; go_wp2_with fail)
        all_goals
          refine (take_any _ _ _ _ _ _ _ _).mono ?_
          rintro e w6 ⟨rfl, hb⟩
          first | rw [HY.out] | rw [HQ.out (by omega)]
          have kp := call_keep hb
          replace c0 := kp _ _ c0
          replace c1 := kp _ _ c1
          replace c2 := kp _ _ c2
          replace c3 := kp _ _ c3
          replace b0 := kp _ _ b0
          replace b1 := kp _ _ b1
          replace i0 := kp _ _ i0
          replace i1 := kp _ _ i1
          replace d0 := kp _ _ d0
          replace d1 := kp _ _ d1
          replace sz0 := Nat.lt_of_lt_of_le sz0 hb.size
          replace sz1 := Nat.lt_of_lt_of_le sz1 hb.size
          replace szz := Nat.lt_of_lt_of_le szz hb.size
          replace sz3 := Nat.lt_of_lt_of_le sz3 hb.size
          replace HB := HB.trans (hb.mono HB.size)
          clear kp hb
          go_wp2_with fail
          refine (take_any _ _ _ _ _ _ _ _).mono ?_
          rintro e w7 ⟨rfl, hb⟩
          rw [HY.out]
          obtain ⟨kp, nw, hbn, sz7⟩ := laid_keep hb
          replace c0 := kp _ _ c0
          replace c1 := kp _ _ c1
          replace c2 := kp _ _ c2
          replace c3 := kp _ _ c3
          replace b0 := kp _ _ b0
          replace b1 := kp _ _ b1
          replace i0 := kp _ _ i0
          replace i1 := kp _ _ i1
          replace d0 := kp _ _ d0
          replace d1 := kp _ _ d1
          replace sz0 := Nat.lt_of_lt_of_le sz0 hbn.size
          replace sz1 := Nat.lt_of_lt_of_le sz1 hbn.size
          replace szz := Nat.lt_of_lt_of_le szz hbn.size
          replace sz3 := Nat.lt_of_lt_of_le sz3 hbn.size
          replace HB := HB.trans (hbn.mono HB.size)
          have e0 := nw 0 _ rfl
          have e1 := nw 1 _ rfl
          clear kp nw hb hbn
          go_wp2_with fail
          refine (live_any _).mono ?_
          rintro e w8 ⟨rfl, hb⟩
          obtain ⟨kp, nw, hbn, sz8⟩ := laid_keep hb
          replace HB := HB.trans (hbn.mono HB.size)
          go_wp2_with fail
          go_ret
          exact ⟨rfl, HB⟩

theorem time_in {n : Int} (h0 : 0 ≤ n) (h1 : n ≤ 1099511627776) : inB n 0 1099511627776 = true := by simp [inB, h0, h1]
theorem in_parts {n : Int} (h : inB n 0 1099511627776 = true) : 0 ≤ n ∧ n ≤ 1099511627776 := by simpa [inB] using h

set_option maxRecDepth 100000 in
set_option maxHeartbeats 4000000 in
theorem may_any' (r u a p k t n0 n1 : Int) (w : World) :
    Calls Try.prog 5 #[.agg #[.int .i64 r, .int .i64 u, .int .i64 a, .int .i64 p], .agg #[.int .i64 k, .int .i64 t], .agg #[.int .i64 n0, .int .i64 n1]] w fun e w' => e = .returned (.bool true) ∧ Below w.heap.size w w' := by
  by_cases h1 : oneB r u a p k t = true
  · by_cases h2 : inB n0 0 1099511627776 = true
    · by_cases h3 : inB n1 0 1099511627776 = true
      · obtain ⟨q1, q2, q3, q4, q5, q6, q7, q8⟩ := one_parts h1
        have b0 := in_parts h2
        have b1 := in_parts h3
        have f0 := fits_of h1 b0.1 b0.2
        have f1 := fits_of h1 b1.1 b1.2
        have l0 := lev_bd f0
        have hat := at_bd f0
        have HY : Hid (takeV r u a p k t t = .tuple #[.agg #[.int .i64 (takeK r u a p k t t), .int .i64 (takeT r u a p k t t)], .bool (takeB r u a p k t t)]) := rfl
        have HQ : Hid (n0 ≤ t → takeV r u a p k t n0 = .tuple #[.agg #[.int .i64 (takeK r u a p k t t), .int .i64 (takeT r u a p k t t)], .bool (takeB r u a p k t t)]) := fun h => take_low h1 b0.1 h
        have H2 : Hid (levelI r u a p k t n0 = levI u a k t n0) := by show _ = _; unfold levelI; rw [if_pos f0]
        have H3 : Hid (levelI r u a p k t n1 = levI u a k t n1) := by show _ = _; unfold levelI; rw [if_pos f1]
        have hA : (n0 < t ∧ t = atI t n0) ∨ (t ≤ n0 ∧ n0 = atI t n0) := by
          by_cases h : n0 < t
          · exact .inl ⟨h, at_low h⟩
          · exact .inr ⟨by omega, at_high (by omega)⟩
        rcases take_cases h1 b0.1 b0.2 with ⟨hz, ht⟩ | ⟨hz, ht⟩
        · exact may_main r u a p k t n0 n1 _ 0 (atI t n0) _ _ false _ w h1 h2 h3 ht H2 (one_kept h1 (by omega) (by omega) hat.1 hat.2) hA HQ (.inr ⟨rfl, hz.symm, rfl⟩) l0.2 q2 _ H3 (fun h => lev_mono (by omega) q6 h) HY
        · exact may_main r u a p k t n0 n1 _ _ (atI t n0) _ _ true _ w h1 h2 h3 ht H2 (one_kept h1 (by omega) (by omega) hat.1 hat.2) hA HQ (.inl ⟨rfl, hz, rfl⟩) l0.2 q2 _ H3 (fun h => lev_mono (by omega) q6 h) HY
      · have h3' : inB n1 0 1099511627776 = false := by simpa using h3
        clear h3
        go_enter Try.func5, Try.ntmps5
        go_wp2_with fail
        refine (one_any _ _ _ _ _ _ _).mono ?_
        rintro e w1 ⟨rfl, hb⟩
        obtain ⟨c0, c1, c2, c3, b0, b1, i0, i1, HB, sz0⟩ := boxes37 (by simpa using hb)
        clear hb
        go_wp2_with fail
        refine (refTime_any _ _).mono ?_
        rintro e w' ⟨rfl, rfl⟩
        go_wp2_with fail
        refine (refTime_any _ _).mono ?_
        rintro e w' ⟨rfl, rfl⟩
        go_wp2_with fail
        refine (live_any _).mono ?_
        rintro e w2 ⟨rfl, hb2⟩
        go_wp2_with fail
        go_ret
        exact ⟨rfl, HB.trans (hb2.mono HB.size)⟩
    · have h2' : inB n0 0 1099511627776 = false := by simpa using h2
      clear h2
      go_enter Try.func5, Try.ntmps5
      go_wp2_with fail
      refine (one_any _ _ _ _ _ _ _).mono ?_
      rintro e w1 ⟨rfl, hb⟩
      obtain ⟨c0, c1, c2, c3, b0, b1, i0, i1, HB, sz0⟩ := boxes37 (by simpa using hb)
      clear hb
      go_wp2_with fail
      refine (refTime_any _ _).mono ?_
      rintro e w' ⟨rfl, rfl⟩
      go_wp2_with fail
      refine (live_any _).mono ?_
      rintro e w2 ⟨rfl, hb2⟩
      go_wp2_with fail
      go_ret
      exact ⟨rfl, HB.trans (hb2.mono HB.size)⟩
  · have h1' : oneB r u a p k t = false := by simpa using h1
    clear h1
    go_enter Try.func5, Try.ntmps5
    go_wp2_with fail
    refine (one_any _ _ _ _ _ _ _).mono ?_
    rintro e w1 ⟨rfl, hb⟩
    obtain ⟨c0, c1, c2, c3, b0, b1, i0, i1, HB, sz0⟩ := boxes37 (by simpa using hb)
    clear hb
    go_wp2_with fail
    refine (live_any _).mono ?_
    rintro e w2 ⟨rfl, hb2⟩
    go_wp2_with fail
    go_ret
    exact ⟨rfl, HB.trans (hb2.mono HB.size)⟩

end Go.Proofs.Ytlidfgpjhoddjaa
