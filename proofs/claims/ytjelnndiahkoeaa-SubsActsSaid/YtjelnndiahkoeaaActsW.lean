/-
  The walk of SubsActs: it answers true at every two items and every kind; nothing that was there is changed.
-/
import Derived.Test.YtjelnndiahkoeaaRef
namespace Go.Proofs.Ytjelnndiahkoeaa
open Go.RowKit

set_option maxRecDepth 100000 in
set_option maxHeartbeats 8000000 in
theorem acts_any (t f o i b t' f' o' i' b' : Bool) (k : Int) (hk0 : IntKind.i64.min ≤ k) (hk1 : k ≤ IntKind.i64.max) (w : World) :
    Calls Try.prog 4 #[.agg #[.bool t, .bool f, .bool o, .bool i, .bool b], .agg #[.bool t', .bool f', .bool o', .bool i', .bool b'], .int .i64 k] w fun e w' => e = .returned (.bool true) ∧ Below w.heap.size w w' := by
  go_enter Try.func4, Try.ntmps4
  go_wp2_with fail
  refine (act_any _ hk0 hk1 _ _ _ _ _ _ _ _ _ _ _).mono ?_
  rintro e w1 ⟨x, y, c, ha, rfl, hb⟩
  obtain ⟨xt, xf, xo, xi, xb⟩ := x
  obtain ⟨yt, yf, yo, yi, yb⟩ := y
  simp only
  have HS := Lib.hid (BB.start (by simpa using hb))
  clear hb
  obtain ⟨⟨x0, x1, x2, x3, x4, xl⟩, ⟨y0, y1, y2, y3, y4, yl⟩, -⟩ := HS.out
  go_wp2_with fail
  refine (refAct_any _ _ _ _ _ _ _ _ _ _ _ _).mono ?_
  rintro e w2 ⟨p2, q2, c2, ha2, rfl, hb⟩
  obtain ⟨rfl, rfl, rfl⟩ := act_lit ha2 ha
  simp only
  obtain ⟨N1, N2, hB⟩ := box2 (by simpa using hb)
  have HX := Lib.hid N1
  have HY := Lib.hid N2
  clear x0 x1 x2 x3 x4 xl y0 y1 y2 y3 y4 yl
  replace HS := Lib.hid (HS.out.kept hB)
  clear hb N1 N2 hB ha2 ha
  obtain ⟨z0, z1, z2, z3, z4, zl⟩ := HX.out
  obtain ⟨v0, v1, v2, v3, v4, vl⟩ := HY.out
  have HR : Hid (Below w.heap.size w w2) := Lib.hid HS.out.bel
  clear HS
  go_wp2_with fail
  refine (live_any _).mono ?_
  rintro e w3 ⟨rfl, hb⟩
  have HD := Lib.hid ((Below.alloc (Below.alloc (Below.refl _ _) (Nat.le_refl _) _) (by simp) _).trans (hb.mono (by simp; omega)) : Below w2.heap.size w2 w3)
  clear hb
  have HF := Lib.hid (HR.out.trans (HD.out.mono HR.out.size))
  clear z0 z1 z2 z3 z4 zl v0 v1 v2 v3 v4 vl
  go_wp2_with fail
  go_ret
  exact ⟨rfl, HF.out⟩

end Go.Proofs.Ytjelnndiahkoeaa
