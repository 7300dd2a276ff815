/-
  The walk of SubsUndo: it answers true at every two items and every kind; nothing that was there is changed.
-/
import Derived.Test.YtjelnndiahkoeaaSidesW

namespace Go.Proofs.Ytjelnndiahkoeaa
open Go.RowKit

theorem act_bad {x y : It} {k : Int} {x' y' : It} {c : Int} (h : act x y k = (x', y', c)) (hc : c ≠ 0) : x' = x ∧ y' = y := by
  unfold act at h
  split at h
  · simp only [Prod.mk.injEq] at h; exact ⟨h.1.symm, h.2.1.symm⟩
  · split at h
    · rename_i h0; rw [h] at h0; exact absurd h0 hc
    · simp only [Prod.mk.injEq] at h; exact ⟨h.1.symm, h.2.1.symm⟩

theorem again1 : ∀ t f o i b t' f' o' i' b' : Bool, (act ⟨t, f, o, i, b⟩ ⟨t', f', o', i', b'⟩ 1).2.2 = 0 → (act (act ⟨t, f, o, i, b⟩ ⟨t', f', o', i', b'⟩ 1).1 (act ⟨t, f, o, i, b⟩ ⟨t', f', o', i', b'⟩ 1).2.1 1).2.2 ≠ 0 := by decide +kernel

theorem again2 : ∀ t f o i b t' f' o' i' b' : Bool, (act ⟨t, f, o, i, b⟩ ⟨t', f', o', i', b'⟩ 2).2.2 = 0 → (act (act ⟨t, f, o, i, b⟩ ⟨t', f', o', i', b'⟩ 2).1 (act ⟨t, f, o, i, b⟩ ⟨t', f', o', i', b'⟩ 2).2.1 2).2.2 ≠ 0 := by decide +kernel

theorem again3 : ∀ t f o i b t' f' o' i' b' : Bool, (act ⟨t, f, o, i, b⟩ ⟨t', f', o', i', b'⟩ 3).2.2 = 0 → (act (act ⟨t, f, o, i, b⟩ ⟨t', f', o', i', b'⟩ 3).1 (act ⟨t, f, o, i, b⟩ ⟨t', f', o', i', b'⟩ 3).2.1 3).2.2 ≠ 0 := by decide +kernel

theorem again4 : ∀ t f o i b t' f' o' i' b' : Bool, (act ⟨t, f, o, i, b⟩ ⟨t', f', o', i', b'⟩ 4).2.2 = 0 → (act (act ⟨t, f, o, i, b⟩ ⟨t', f', o', i', b'⟩ 4).1 (act ⟨t, f, o, i, b⟩ ⟨t', f', o', i', b'⟩ 4).2.1 4).2.2 ≠ 0 := by decide +kernel

theorem again5 : ∀ t f o i b t' f' o' i' b' : Bool, (act ⟨t, f, o, i, b⟩ ⟨t', f', o', i', b'⟩ 5).2.2 = 0 → (act (act ⟨t, f, o, i, b⟩ ⟨t', f', o', i', b'⟩ 5).1 (act ⟨t, f, o, i, b⟩ ⟨t', f', o', i', b'⟩ 5).2.1 5).2.2 ≠ 0 := by decide +kernel

theorem again6 : ∀ t f o i b t' f' o' i' b' : Bool, (act ⟨t, f, o, i, b⟩ ⟨t', f', o', i', b'⟩ 6).2.2 = 0 → (act (act ⟨t, f, o, i, b⟩ ⟨t', f', o', i', b'⟩ 6).1 (act ⟨t, f, o, i, b⟩ ⟨t', f', o', i', b'⟩ 6).2.1 6).2.2 ≠ 0 := by decide +kernel

theorem back5 : ∀ t f o i b t' f' o' i' b' : Bool, (act ⟨t, f, o, i, b⟩ ⟨t', f', o', i', b'⟩ 5).2.2 = 0 → act (act ⟨t, f, o, i, b⟩ ⟨t', f', o', i', b'⟩ 5).1 (act ⟨t, f, o, i, b⟩ ⟨t', f', o', i', b'⟩ 5).2.1 6 = (⟨t, f, o, i, b⟩, ⟨t', f', o', i', b'⟩, 0) := by decide +kernel

theorem back6 : ∀ t f o i b t' f' o' i' b' : Bool, (act ⟨t, f, o, i, b⟩ ⟨t', f', o', i', b'⟩ 6).2.2 = 0 → act (act ⟨t, f, o, i, b⟩ ⟨t', f', o', i', b'⟩ 6).1 (act ⟨t, f, o, i, b⟩ ⟨t', f', o', i', b'⟩ 6).2.1 5 = (⟨t, f, o, i, b⟩, ⟨t', f', o', i', b'⟩, 0) := by decide +kernel

theorem back3 : ∀ t f o i b t' f' o' i' b' : Bool, (act ⟨t, f, o, i, b⟩ ⟨t', f', o', i', b'⟩ 3).2.2 = 0 → act ⟨t', f', o', i', b'⟩ ⟨t, f, o, i, b⟩ 4 = ((act ⟨t, f, o, i, b⟩ ⟨t', f', o', i', b'⟩ 3).2.1, (act ⟨t, f, o, i, b⟩ ⟨t', f', o', i', b'⟩ 3).1, 0) := by decide +kernel

theorem back4 : ∀ t f o i b t' f' o' i' b' : Bool, (act ⟨t, f, o, i, b⟩ ⟨t', f', o', i', b'⟩ 4).2.2 = 0 → act ⟨t', f', o', i', b'⟩ ⟨t, f, o, i, b⟩ 3 = ((act ⟨t, f, o, i, b⟩ ⟨t', f', o', i', b'⟩ 4).2.1, (act ⟨t, f, o, i, b⟩ ⟨t', f', o', i', b'⟩ 4).1, 0) := by decide +kernel

set_option maxRecDepth 100000 in
set_option maxHeartbeats 8000000 in
theorem undo_bad (k : Int) (hk0 : -9223372036854775808 ≤ k) (hk1 : k ≤ 9223372036854775807) (t f o i b t' f' o' i' b' : Bool) (w : World) (hbad : (act ⟨t, f, o, i, b⟩ ⟨t', f', o', i', b'⟩ k).2.2 ≠ 0) :
    Calls Try.prog 6 #[.agg #[.bool t, .bool f, .bool o, .bool i, .bool b], .agg #[.bool t', .bool f', .bool o', .bool i', .bool b'], .int .i64 k] w fun e w' => e = .returned (.bool true) ∧ Below w.heap.size w w' := by
  have HBAD := Lib.hid hbad
  clear hbad
  go_enter Try.func6, Try.ntmps6
  go_wp2_with fail
  refine (act_any _ (by assumption) (by assumption) _ _ _ _ _ _ _ _ _ _ _).mono ?_
  rintro e w1 ⟨x, y, c, ha, rfl, hb⟩
  have hc : c ≠ 0 := by have := HBAD.out; rw [ha] at this; exact this
  have HS := Lib.hid (BB.start (by simpa using hb))
  clear hb
  obtain ⟨⟨x0, x1, x2, x3, x4, xl⟩, ⟨y0, y1, y2, y3, y4, yl⟩, -⟩ := HS.out
  obtain ⟨rfl, rfl⟩ := act_bad ha hc
  clear ha
  simp only
  have hcb : (c != 0) = true := by simpa using hc
  go_wp2_with fail
  refine (live_any _).mono ?_
  rintro e w2 ⟨rfl, hb2⟩
  clear x0 x1 x2 x3 x4 xl y0 y1 y2 y3 y4 yl
  have HS2 := Lib.hid (HS.out.bel.trans ((Below.alloc (Below.alloc (Below.refl _ _) (Nat.le_refl _) _) (by simp) _).trans (hb2.mono (by simp; omega)) |>.mono HS.out.bel.size))
  clear hb2
  go_wp2_with fail
  go_ret
  exact ⟨rfl, HS2.out⟩


set_option maxRecDepth 100000 in
set_option maxHeartbeats 8000000 in
theorem undo1 (t f o i b t' f' o' i' b' : Bool) (w : World) (hgood : (act ⟨t, f, o, i, b⟩ ⟨t', f', o', i', b'⟩ 1).2.2 = 0) :
    Calls Try.prog 6 #[.agg #[.bool t, .bool f, .bool o, .bool i, .bool b], .agg #[.bool t', .bool f', .bool o', .bool i', .bool b'], .int .i64 1] w fun e w' => e = .returned (.bool true) ∧ Below w.heap.size w w' := by
  have HA := Lib.hid (again1 _ _ _ _ _ _ _ _ _ _ hgood)
  have HG := Lib.hid hgood
  clear hgood
  go_enter Try.func6, Try.ntmps6
  go_wp2_with fail
  refine (act_any _ (by decide) (by decide) _ _ _ _ _ _ _ _ _ _ _).mono ?_
  rintro e w1 ⟨x, y, c, ha, rfl, hb⟩
  obtain rfl : c = 0 := by have := HG.out; rw [ha] at this; exact this
  replace HA : Hid ((act x y 1).2.2 ≠ 0) := Lib.hid (by have := HA.out; rw [ha] at this; exact this)
  clear ha HG
  obtain ⟨xt, xf, xo, xi, xb⟩ := x
  obtain ⟨yt, yf, yo, yi, yb⟩ := y
  simp only
  have HS := Lib.hid (BB.start (by simpa using hb))
  clear hb
  obtain ⟨⟨x0, x1, x2, x3, x4, xl⟩, ⟨y0, y1, y2, y3, y4, yl⟩, -⟩ := HS.out
  go_wp2_with fail
  refine (act_any _ (by decide) (by decide) _ _ _ _ _ _ _ _ _ _ _).mono ?_
  rintro e w2 ⟨p2, q2, c2, ha2, rfl, hb⟩
  have hc2 : c2 ≠ 0 := by have := HA.out; rw [ha2] at this; exact this
  have hcb : (c2 == 0) = false := by simpa using hc2
  obtain ⟨N1, N2, hB⟩ := box2 (by simpa using hb)
  have HX := Lib.hid N1
  have HY := Lib.hid N2
  clear x0 x1 x2 x3 x4 xl y0 y1 y2 y3 y4 yl
  replace HS := Lib.hid (HS.out.kept hB)
  clear hb N1 N2 hB ha2 HA hc2
  obtain ⟨⟨x0, x1, x2, x3, x4, xl⟩, ⟨y0, y1, y2, y3, y4, yl⟩, -⟩ := HS.out
  obtain ⟨z0, z1, z2, z3, z4, zl⟩ := HX.out
  obtain ⟨v0, v1, v2, v3, v4, vl⟩ := HY.out
  go_wp2_with fail
  refine (live_any _).mono ?_
  rintro e w3 ⟨rfl, hb⟩
  have HD := Lib.hid ((Below.alloc (Below.alloc (Below.refl _ _) (Nat.le_refl _) _) (by simp) _).trans (hb.mono (by simp; omega)) : Below w2.heap.size w2 w3)
  clear hb
  replace HS := Lib.hid (HS.out.kept HD.out)
  clear x0 x1 x2 x3 x4 xl y0 y1 y2 y3 y4 yl
  clear z0 z1 z2 z3 z4 zl v0 v1 v2 v3 v4 vl
  go_wp2_with fail
  go_ret
  exact ⟨rfl, HS.out.bel⟩

set_option maxRecDepth 100000 in
set_option maxHeartbeats 8000000 in
theorem undo2 (t f o i b t' f' o' i' b' : Bool) (w : World) (hgood : (act ⟨t, f, o, i, b⟩ ⟨t', f', o', i', b'⟩ 2).2.2 = 0) :
    Calls Try.prog 6 #[.agg #[.bool t, .bool f, .bool o, .bool i, .bool b], .agg #[.bool t', .bool f', .bool o', .bool i', .bool b'], .int .i64 2] w fun e w' => e = .returned (.bool true) ∧ Below w.heap.size w w' := by
  have HA := Lib.hid (again2 _ _ _ _ _ _ _ _ _ _ hgood)
  have HG := Lib.hid hgood
  clear hgood
  go_enter Try.func6, Try.ntmps6
  go_wp2_with fail
  refine (act_any _ (by decide) (by decide) _ _ _ _ _ _ _ _ _ _ _).mono ?_
  rintro e w1 ⟨x, y, c, ha, rfl, hb⟩
  obtain rfl : c = 0 := by have := HG.out; rw [ha] at this; exact this
  replace HA : Hid ((act x y 2).2.2 ≠ 0) := Lib.hid (by have := HA.out; rw [ha] at this; exact this)
  clear ha HG
  obtain ⟨xt, xf, xo, xi, xb⟩ := x
  obtain ⟨yt, yf, yo, yi, yb⟩ := y
  simp only
  have HS := Lib.hid (BB.start (by simpa using hb))
  clear hb
  obtain ⟨⟨x0, x1, x2, x3, x4, xl⟩, ⟨y0, y1, y2, y3, y4, yl⟩, -⟩ := HS.out
  go_wp2_with fail
  refine (act_any _ (by decide) (by decide) _ _ _ _ _ _ _ _ _ _ _).mono ?_
  rintro e w2 ⟨p2, q2, c2, ha2, rfl, hb⟩
  have hc2 : c2 ≠ 0 := by have := HA.out; rw [ha2] at this; exact this
  have hcb : (c2 == 0) = false := by simpa using hc2
  obtain ⟨N1, N2, hB⟩ := box2 (by simpa using hb)
  have HX := Lib.hid N1
  have HY := Lib.hid N2
  clear x0 x1 x2 x3 x4 xl y0 y1 y2 y3 y4 yl
  replace HS := Lib.hid (HS.out.kept hB)
  clear hb N1 N2 hB ha2 HA hc2
  obtain ⟨⟨x0, x1, x2, x3, x4, xl⟩, ⟨y0, y1, y2, y3, y4, yl⟩, -⟩ := HS.out
  obtain ⟨z0, z1, z2, z3, z4, zl⟩ := HX.out
  obtain ⟨v0, v1, v2, v3, v4, vl⟩ := HY.out
  go_wp2_with fail
  refine (live_any _).mono ?_
  rintro e w3 ⟨rfl, hb⟩
  have HD := Lib.hid ((Below.alloc (Below.alloc (Below.refl _ _) (Nat.le_refl _) _) (by simp) _).trans (hb.mono (by simp; omega)) : Below w2.heap.size w2 w3)
  clear hb
  replace HS := Lib.hid (HS.out.kept HD.out)
  clear x0 x1 x2 x3 x4 xl y0 y1 y2 y3 y4 yl
  clear z0 z1 z2 z3 z4 zl v0 v1 v2 v3 v4 vl
  go_wp2_with fail
  go_ret
  exact ⟨rfl, HS.out.bel⟩

set_option maxRecDepth 100000 in
set_option maxHeartbeats 8000000 in
theorem undo3 (t f o i b t' f' o' i' b' : Bool) (w : World) (hgood : (act ⟨t, f, o, i, b⟩ ⟨t', f', o', i', b'⟩ 3).2.2 = 0) :
    Calls Try.prog 6 #[.agg #[.bool t, .bool f, .bool o, .bool i, .bool b], .agg #[.bool t', .bool f', .bool o', .bool i', .bool b'], .int .i64 3] w fun e w' => e = .returned (.bool true) ∧ Below w.heap.size w w' := by
  have HA := Lib.hid (again3 _ _ _ _ _ _ _ _ _ _ hgood)
  have HK := Lib.hid (back3 _ _ _ _ _ _ _ _ _ _ hgood)
  have HG := Lib.hid hgood
  clear hgood
  go_enter Try.func6, Try.ntmps6
  go_wp2_with fail
  refine (act_any _ (by decide) (by decide) _ _ _ _ _ _ _ _ _ _ _).mono ?_
  rintro e w1 ⟨x, y, c, ha, rfl, hb⟩
  obtain rfl : c = 0 := by have := HG.out; rw [ha] at this; exact this
  replace HA : Hid ((act x y 3).2.2 ≠ 0) := Lib.hid (by have := HA.out; rw [ha] at this; exact this)
  replace HK : Hid (act ⟨t', f', o', i', b'⟩ ⟨t, f, o, i, b⟩ 4 = (y, x, 0)) := Lib.hid (by have := HK.out; rw [ha] at this; exact this)
  clear ha HG
  obtain ⟨xt, xf, xo, xi, xb⟩ := x
  obtain ⟨yt, yf, yo, yi, yb⟩ := y
  simp only
  have HS := Lib.hid (BB.start (by simpa using hb))
  clear hb
  obtain ⟨⟨x0, x1, x2, x3, x4, xl⟩, ⟨y0, y1, y2, y3, y4, yl⟩, -⟩ := HS.out
  go_wp2_with fail
  refine (act_any _ (by decide) (by decide) _ _ _ _ _ _ _ _ _ _ _).mono ?_
  rintro e w2 ⟨p2, q2, c2, ha2, rfl, hb⟩
  have hc2 : c2 ≠ 0 := by have := HA.out; rw [ha2] at this; exact this
  have hcb : (c2 == 0) = false := by simpa using hc2
  obtain ⟨N1, N2, hB⟩ := box2 (by simpa using hb)
  have HX := Lib.hid N1
  have HY := Lib.hid N2
  clear x0 x1 x2 x3 x4 xl y0 y1 y2 y3 y4 yl
  replace HS := Lib.hid (HS.out.kept hB)
  clear hb N1 N2 hB ha2 HA hc2
  obtain ⟨⟨x0, x1, x2, x3, x4, xl⟩, ⟨y0, y1, y2, y3, y4, yl⟩, -⟩ := HS.out
  obtain ⟨z0, z1, z2, z3, z4, zl⟩ := HX.out
  obtain ⟨v0, v1, v2, v3, v4, vl⟩ := HY.out
  go_wp2_with fail
  refine (act_any _ (by decide) (by decide) _ _ _ _ _ _ _ _ _ _ _).mono ?_
  rintro e w3 ⟨p3, q3, c3, ha3, rfl, hb⟩
  obtain ⟨rfl, rfl, rfl⟩ := act_lit ha3 HK.out
  simp only
  have HD := Lib.hid ((Below.alloc (Below.alloc (Below.refl _ _) (Nat.le_refl _) _) (by simp) _).trans (hb.mono (by simp; omega)) : Below w2.heap.size w2 w3)
  clear hb
  replace HS := Lib.hid (HS.out.kept HD.out)
  replace HX := Lib.hid (HX.out.kept HD.out)
  replace HY := Lib.hid (HY.out.kept HD.out)
  clear x0 x1 x2 x3 x4 xl y0 y1 y2 y3 y4 yl
  clear z0 z1 z2 z3 z4 zl v0 v1 v2 v3 v4 vl
  clear ha3 HD
  obtain ⟨⟨x0, x1, x2, x3, x4, xl⟩, ⟨y0, y1, y2, y3, y4, yl⟩, -⟩ := HS.out
  obtain ⟨z0, z1, z2, z3, z4, zl⟩ := HX.out
  obtain ⟨v0, v1, v2, v3, v4, vl⟩ := HY.out
  go_wp2_with fail
  refine (live_any _).mono ?_
  rintro e w4 ⟨rfl, hb⟩
  have HD := Lib.hid ((Below.alloc (Below.alloc (Below.refl _ _) (Nat.le_refl _) _) (by simp) _).trans (hb.mono (by simp; omega)) : Below w3.heap.size w3 w4)
  clear hb
  replace HS := Lib.hid (HS.out.kept HD.out)
  clear x0 x1 x2 x3 x4 xl y0 y1 y2 y3 y4 yl
  clear z0 z1 z2 z3 z4 zl v0 v1 v2 v3 v4 vl
  go_wp2_with fail
  go_ret
  exact ⟨rfl, HS.out.bel⟩

set_option maxRecDepth 100000 in
set_option maxHeartbeats 8000000 in
theorem undo4 (t f o i b t' f' o' i' b' : Bool) (w : World) (hgood : (act ⟨t, f, o, i, b⟩ ⟨t', f', o', i', b'⟩ 4).2.2 = 0) :
    Calls Try.prog 6 #[.agg #[.bool t, .bool f, .bool o, .bool i, .bool b], .agg #[.bool t', .bool f', .bool o', .bool i', .bool b'], .int .i64 4] w fun e w' => e = .returned (.bool true) ∧ Below w.heap.size w w' := by
  have HA := Lib.hid (again4 _ _ _ _ _ _ _ _ _ _ hgood)
  have HK := Lib.hid (back4 _ _ _ _ _ _ _ _ _ _ hgood)
  have HG := Lib.hid hgood
  clear hgood
  go_enter Try.func6, Try.ntmps6
  go_wp2_with fail
  refine (act_any _ (by decide) (by decide) _ _ _ _ _ _ _ _ _ _ _).mono ?_
  rintro e w1 ⟨x, y, c, ha, rfl, hb⟩
  obtain rfl : c = 0 := by have := HG.out; rw [ha] at this; exact this
  replace HA : Hid ((act x y 4).2.2 ≠ 0) := Lib.hid (by have := HA.out; rw [ha] at this; exact this)
  replace HK : Hid (act ⟨t', f', o', i', b'⟩ ⟨t, f, o, i, b⟩ 3 = (y, x, 0)) := Lib.hid (by have := HK.out; rw [ha] at this; exact this)
  clear ha HG
  obtain ⟨xt, xf, xo, xi, xb⟩ := x
  obtain ⟨yt, yf, yo, yi, yb⟩ := y
  simp only
  have HS := Lib.hid (BB.start (by simpa using hb))
  clear hb
  obtain ⟨⟨x0, x1, x2, x3, x4, xl⟩, ⟨y0, y1, y2, y3, y4, yl⟩, -⟩ := HS.out
  go_wp2_with fail
  refine (act_any _ (by decide) (by decide) _ _ _ _ _ _ _ _ _ _ _).mono ?_
  rintro e w2 ⟨p2, q2, c2, ha2, rfl, hb⟩
  have hc2 : c2 ≠ 0 := by have := HA.out; rw [ha2] at this; exact this
  have hcb : (c2 == 0) = false := by simpa using hc2
  obtain ⟨N1, N2, hB⟩ := box2 (by simpa using hb)
  have HX := Lib.hid N1
  have HY := Lib.hid N2
  clear x0 x1 x2 x3 x4 xl y0 y1 y2 y3 y4 yl
  replace HS := Lib.hid (HS.out.kept hB)
  clear hb N1 N2 hB ha2 HA hc2
  obtain ⟨⟨x0, x1, x2, x3, x4, xl⟩, ⟨y0, y1, y2, y3, y4, yl⟩, -⟩ := HS.out
  obtain ⟨z0, z1, z2, z3, z4, zl⟩ := HX.out
  obtain ⟨v0, v1, v2, v3, v4, vl⟩ := HY.out
  go_wp2_with fail
  refine (act_any _ (by decide) (by decide) _ _ _ _ _ _ _ _ _ _ _).mono ?_
  rintro e w3 ⟨p3, q3, c3, ha3, rfl, hb⟩
  obtain ⟨rfl, rfl, rfl⟩ := act_lit ha3 HK.out
  simp only
  have HD := Lib.hid ((Below.alloc (Below.alloc (Below.refl _ _) (Nat.le_refl _) _) (by simp) _).trans (hb.mono (by simp; omega)) : Below w2.heap.size w2 w3)
  clear hb
  replace HS := Lib.hid (HS.out.kept HD.out)
  replace HX := Lib.hid (HX.out.kept HD.out)
  replace HY := Lib.hid (HY.out.kept HD.out)
  clear x0 x1 x2 x3 x4 xl y0 y1 y2 y3 y4 yl
  clear z0 z1 z2 z3 z4 zl v0 v1 v2 v3 v4 vl
  clear ha3 HD
  obtain ⟨⟨x0, x1, x2, x3, x4, xl⟩, ⟨y0, y1, y2, y3, y4, yl⟩, -⟩ := HS.out
  obtain ⟨z0, z1, z2, z3, z4, zl⟩ := HX.out
  obtain ⟨v0, v1, v2, v3, v4, vl⟩ := HY.out
  go_wp2_with fail
  refine (live_any _).mono ?_
  rintro e w4 ⟨rfl, hb⟩
  have HD := Lib.hid ((Below.alloc (Below.alloc (Below.refl _ _) (Nat.le_refl _) _) (by simp) _).trans (hb.mono (by simp; omega)) : Below w3.heap.size w3 w4)
  clear hb
  replace HS := Lib.hid (HS.out.kept HD.out)
  clear x0 x1 x2 x3 x4 xl y0 y1 y2 y3 y4 yl
  clear z0 z1 z2 z3 z4 zl v0 v1 v2 v3 v4 vl
  go_wp2_with fail
  go_ret
  exact ⟨rfl, HS.out.bel⟩

set_option maxRecDepth 100000 in
set_option maxHeartbeats 8000000 in
theorem undo5 (t f o i b t' f' o' i' b' : Bool) (w : World) (hgood : (act ⟨t, f, o, i, b⟩ ⟨t', f', o', i', b'⟩ 5).2.2 = 0) :
    Calls Try.prog 6 #[.agg #[.bool t, .bool f, .bool o, .bool i, .bool b], .agg #[.bool t', .bool f', .bool o', .bool i', .bool b'], .int .i64 5] w fun e w' => e = .returned (.bool true) ∧ Below w.heap.size w w' := by
  have HA := Lib.hid (again5 _ _ _ _ _ _ _ _ _ _ hgood)
  have HK := Lib.hid (back5 _ _ _ _ _ _ _ _ _ _ hgood)
  have HG := Lib.hid hgood
  clear hgood
  go_enter Try.func6, Try.ntmps6
  go_wp2_with fail
  refine (act_any _ (by decide) (by decide) _ _ _ _ _ _ _ _ _ _ _).mono ?_
  rintro e w1 ⟨x, y, c, ha, rfl, hb⟩
  obtain rfl : c = 0 := by have := HG.out; rw [ha] at this; exact this
  replace HA : Hid ((act x y 5).2.2 ≠ 0) := Lib.hid (by have := HA.out; rw [ha] at this; exact this)
  replace HK : Hid (act x y 6 = (⟨t, f, o, i, b⟩, ⟨t', f', o', i', b'⟩, 0)) := Lib.hid (by have := HK.out; rw [ha] at this; exact this)
  clear ha HG
  obtain ⟨xt, xf, xo, xi, xb⟩ := x
  obtain ⟨yt, yf, yo, yi, yb⟩ := y
  simp only
  have HS := Lib.hid (BB.start (by simpa using hb))
  clear hb
  obtain ⟨⟨x0, x1, x2, x3, x4, xl⟩, ⟨y0, y1, y2, y3, y4, yl⟩, -⟩ := HS.out
  go_wp2_with fail
  refine (act_any _ (by decide) (by decide) _ _ _ _ _ _ _ _ _ _ _).mono ?_
  rintro e w2 ⟨p2, q2, c2, ha2, rfl, hb⟩
  have hc2 : c2 ≠ 0 := by have := HA.out; rw [ha2] at this; exact this
  have hcb : (c2 == 0) = false := by simpa using hc2
  obtain ⟨N1, N2, hB⟩ := box2 (by simpa using hb)
  have HX := Lib.hid N1
  have HY := Lib.hid N2
  clear x0 x1 x2 x3 x4 xl y0 y1 y2 y3 y4 yl
  replace HS := Lib.hid (HS.out.kept hB)
  clear hb N1 N2 hB ha2 HA hc2
  obtain ⟨⟨x0, x1, x2, x3, x4, xl⟩, ⟨y0, y1, y2, y3, y4, yl⟩, -⟩ := HS.out
  obtain ⟨z0, z1, z2, z3, z4, zl⟩ := HX.out
  obtain ⟨v0, v1, v2, v3, v4, vl⟩ := HY.out
  go_wp2_with fail
  refine (act_any _ (by decide) (by decide) _ _ _ _ _ _ _ _ _ _ _).mono ?_
  rintro e w3 ⟨p3, q3, c3, ha3, rfl, hb⟩
  obtain ⟨rfl, rfl, rfl⟩ := act_lit ha3 HK.out
  simp only
  have HD := Lib.hid ((Below.alloc (Below.alloc (Below.refl _ _) (Nat.le_refl _) _) (by simp) _).trans (hb.mono (by simp; omega)) : Below w2.heap.size w2 w3)
  clear hb
  replace HS := Lib.hid (HS.out.kept HD.out)
  replace HX := Lib.hid (HX.out.kept HD.out)
  replace HY := Lib.hid (HY.out.kept HD.out)
  clear x0 x1 x2 x3 x4 xl y0 y1 y2 y3 y4 yl
  clear z0 z1 z2 z3 z4 zl v0 v1 v2 v3 v4 vl
  clear ha3 HD
  obtain ⟨⟨x0, x1, x2, x3, x4, xl⟩, ⟨y0, y1, y2, y3, y4, yl⟩, -⟩ := HS.out
  obtain ⟨z0, z1, z2, z3, z4, zl⟩ := HX.out
  obtain ⟨v0, v1, v2, v3, v4, vl⟩ := HY.out
  go_wp2_with fail
  refine (live_any _).mono ?_
  rintro e w4 ⟨rfl, hb⟩
  have HD := Lib.hid ((Below.alloc (Below.alloc (Below.refl _ _) (Nat.le_refl _) _) (by simp) _).trans (hb.mono (by simp; omega)) : Below w3.heap.size w3 w4)
  clear hb
  replace HS := Lib.hid (HS.out.kept HD.out)
  clear x0 x1 x2 x3 x4 xl y0 y1 y2 y3 y4 yl
  clear z0 z1 z2 z3 z4 zl v0 v1 v2 v3 v4 vl
  go_wp2_with fail
  go_ret
  exact ⟨rfl, HS.out.bel⟩

set_option maxRecDepth 100000 in
set_option maxHeartbeats 8000000 in
theorem undo6 (t f o i b t' f' o' i' b' : Bool) (w : World) (hgood : (act ⟨t, f, o, i, b⟩ ⟨t', f', o', i', b'⟩ 6).2.2 = 0) :
    Calls Try.prog 6 #[.agg #[.bool t, .bool f, .bool o, .bool i, .bool b], .agg #[.bool t', .bool f', .bool o', .bool i', .bool b'], .int .i64 6] w fun e w' => e = .returned (.bool true) ∧ Below w.heap.size w w' := by
  have HA := Lib.hid (again6 _ _ _ _ _ _ _ _ _ _ hgood)
  have HK := Lib.hid (back6 _ _ _ _ _ _ _ _ _ _ hgood)
  have HG := Lib.hid hgood
  clear hgood
  go_enter Try.func6, Try.ntmps6
  go_wp2_with fail
  refine (act_any _ (by decide) (by decide) _ _ _ _ _ _ _ _ _ _ _).mono ?_
  rintro e w1 ⟨x, y, c, ha, rfl, hb⟩
  obtain rfl : c = 0 := by have := HG.out; rw [ha] at this; exact this
  replace HA : Hid ((act x y 6).2.2 ≠ 0) := Lib.hid (by have := HA.out; rw [ha] at this; exact this)
  replace HK : Hid (act x y 5 = (⟨t, f, o, i, b⟩, ⟨t', f', o', i', b'⟩, 0)) := Lib.hid (by have := HK.out; rw [ha] at this; exact this)
  clear ha HG
  obtain ⟨xt, xf, xo, xi, xb⟩ := x
  obtain ⟨yt, yf, yo, yi, yb⟩ := y
  simp only
  have HS := Lib.hid (BB.start (by simpa using hb))
  clear hb
  obtain ⟨⟨x0, x1, x2, x3, x4, xl⟩, ⟨y0, y1, y2, y3, y4, yl⟩, -⟩ := HS.out
  go_wp2_with fail
  refine (act_any _ (by decide) (by decide) _ _ _ _ _ _ _ _ _ _ _).mono ?_
  rintro e w2 ⟨p2, q2, c2, ha2, rfl, hb⟩
  have hc2 : c2 ≠ 0 := by have := HA.out; rw [ha2] at this; exact this
  have hcb : (c2 == 0) = false := by simpa using hc2
  obtain ⟨N1, N2, hB⟩ := box2 (by simpa using hb)
  have HX := Lib.hid N1
  have HY := Lib.hid N2
  clear x0 x1 x2 x3 x4 xl y0 y1 y2 y3 y4 yl
  replace HS := Lib.hid (HS.out.kept hB)
  clear hb N1 N2 hB ha2 HA hc2
  obtain ⟨⟨x0, x1, x2, x3, x4, xl⟩, ⟨y0, y1, y2, y3, y4, yl⟩, -⟩ := HS.out
  obtain ⟨z0, z1, z2, z3, z4, zl⟩ := HX.out
  obtain ⟨v0, v1, v2, v3, v4, vl⟩ := HY.out
  go_wp2_with fail
  refine (act_any _ (by decide) (by decide) _ _ _ _ _ _ _ _ _ _ _).mono ?_
  rintro e w3 ⟨p3, q3, c3, ha3, rfl, hb⟩
  obtain ⟨rfl, rfl, rfl⟩ := act_lit ha3 HK.out
  simp only
  have HD := Lib.hid ((Below.alloc (Below.alloc (Below.refl _ _) (Nat.le_refl _) _) (by simp) _).trans (hb.mono (by simp; omega)) : Below w2.heap.size w2 w3)
  clear hb
  replace HS := Lib.hid (HS.out.kept HD.out)
  replace HX := Lib.hid (HX.out.kept HD.out)
  replace HY := Lib.hid (HY.out.kept HD.out)
  clear x0 x1 x2 x3 x4 xl y0 y1 y2 y3 y4 yl
  clear z0 z1 z2 z3 z4 zl v0 v1 v2 v3 v4 vl
  clear ha3 HD
  obtain ⟨⟨x0, x1, x2, x3, x4, xl⟩, ⟨y0, y1, y2, y3, y4, yl⟩, -⟩ := HS.out
  obtain ⟨z0, z1, z2, z3, z4, zl⟩ := HX.out
  obtain ⟨v0, v1, v2, v3, v4, vl⟩ := HY.out
  go_wp2_with fail
  refine (live_any _).mono ?_
  rintro e w4 ⟨rfl, hb⟩
  have HD := Lib.hid ((Below.alloc (Below.alloc (Below.refl _ _) (Nat.le_refl _) _) (by simp) _).trans (hb.mono (by simp; omega)) : Below w3.heap.size w3 w4)
  clear hb
  replace HS := Lib.hid (HS.out.kept HD.out)
  clear x0 x1 x2 x3 x4 xl y0 y1 y2 y3 y4 yl
  clear z0 z1 z2 z3 z4 zl v0 v1 v2 v3 v4 vl
  go_wp2_with fail
  go_ret
  exact ⟨rfl, HS.out.bel⟩

theorem undo_any (t f o i b t' f' o' i' b' : Bool) (k : Int) (hk0 : IntKind.i64.min ≤ k) (hk1 : k ≤ IntKind.i64.max) (w : World) :
    Calls Try.prog 6 #[.agg #[.bool t, .bool f, .bool o, .bool i, .bool b], .agg #[.bool t', .bool f', .bool o', .bool i', .bool b'], .int .i64 k] w fun e w' => e = .returned (.bool true) ∧ Below w.heap.size w w' := by
  by_cases h : (act ⟨t, f, o, i, b⟩ ⟨t', f', o', i', b'⟩ k).2.2 = 0
  · have hk : 1 ≤ k ∧ k ≤ 6 := by
      by_cases hm : k < 1 ∨ 6 < k
      · exfalso; revert h; unfold act; rw [if_pos (.inl hm)]; simp
      · omega
    rcases (show k = 1 ∨ k = 2 ∨ k = 3 ∨ k = 4 ∨ k = 5 ∨ k = 6 by omega) with rfl | rfl | rfl | rfl | rfl | rfl
    · exact undo1 _ _ _ _ _ _ _ _ _ _ w h
    · exact undo2 _ _ _ _ _ _ _ _ _ _ w h
    · exact undo3 _ _ _ _ _ _ _ _ _ _ w h
    · exact undo4 _ _ _ _ _ _ _ _ _ _ w h
    · exact undo5 _ _ _ _ _ _ _ _ _ _ w h
    · exact undo6 _ _ _ _ _ _ _ _ _ _ w h
  · exact undo_bad k hk0 hk1 _ _ _ _ _ _ _ _ _ _ w h

end Go.Proofs.Ytjelnndiahkoeaa
