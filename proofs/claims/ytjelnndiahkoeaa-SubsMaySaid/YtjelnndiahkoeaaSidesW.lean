/-
  The walk of SubsSides: it answers true at every two items; nothing that was there is changed.
-/
import Derived.Test.YtjelnndiahkoeaaLive

namespace Go.Proofs.Ytjelnndiahkoeaa
open Go.RowKit

/-- The two boxes of a law's two items. -/
structure BB (t f o i b t' f' o' i' b' : Bool) (w W : World) : Prop where
  x : C5 t f o i b w.heap.size W
  y : C5 t' f' o' i' b' (w.heap.size + 1) W
  bel : Below w.heap.size w W

theorem BB.start {t f o i b t' f' o' i' b' : Bool} {w w1 : World} (hb : Below ((w.alloc (.cells #[.bool t, .bool f, .bool o, .bool i, .bool b] 23)).alloc (.cells #[.bool t', .bool f', .bool o', .bool i', .bool b'] 23)).heap.size ((w.alloc (.cells #[.bool t, .bool f, .bool o, .bool i, .bool b] 23)).alloc (.cells #[.bool t', .bool f', .bool o', .bool i', .bool b'] 23)) w1) :
    BB t f o i b t' f' o' i' b' w w1 := by
  obtain ⟨h1, h2, h3⟩ := box2 hb
  exact ⟨h1, h2, h3⟩

theorem BB.kept {t f o i b t' f' o' i' b' : Bool} {w W W' : World} (h : BB t f o i b t' f' o' i' b' w W) (hb : Below W.heap.size W W') : BB t f o i b t' f' o' i' b' w W' :=
  ⟨h.x.kept hb, h.y.kept hb, h.bel.trans (hb.mono h.bel.size)⟩

theorem fits_parts {t f o i b t' f' o' i' b' : Bool} (h : fitsB t f o i b t' f' o' i' b' = true) : t' = f ∧ f' = t ∧ o' = i ∧ i' = o := by
  revert h; cases t <;> cases f <;> cases o <;> cases i <;> cases t' <;> cases f' <;> cases o' <;> cases i' <;> simp [fitsB]

theorem fits_swap (t f o i b t' f' o' i' b' : Bool) : fitsB t f o i b t' f' o' i' b' = fitsB t' f' o' i' b' t f o i b := by
  cases t <;> cases f <;> cases o <;> cases i <;> cases t' <;> cases f' <;> cases o' <;> cases i' <;> rfl

set_option maxRecDepth 100000 in
set_option maxHeartbeats 8000000 in
theorem sides_any (t f o i b t' f' o' i' b' : Bool) (w : World) :
    Calls Try.prog 7 #[.agg #[.bool t, .bool f, .bool o, .bool i, .bool b], .agg #[.bool t', .bool f', .bool o', .bool i', .bool b']] w fun e w' => e = .returned (.bool true) ∧ Below w.heap.size w w' := by
  cases hf : fitsB t f o i b t' f' o' i' b' with
  | false =>
    go_enter Try.func7, Try.ntmps7
    go_wp2_with fail
    refine (may_any _ _ _ _ _ _ _ _ _ _ _).mono ?_
    rintro e w9 ⟨rfl, hb⟩
    have HS := Lib.hid (BB.start (by simpa using hb))
    clear hb
    obtain ⟨⟨x0, x1, x2, x3, x4, xl⟩, ⟨y0, y1, y2, y3, y4, yl⟩, -⟩ := HS.out
    rw [hf]
    go_wp2_with fail
    refine (live_any _).mono ?_
    rintro e w9 ⟨rfl, hb⟩
    clear x0 x1 x2 x3 x4 xl y0 y1 y2 y3 y4 yl
    replace HS := Lib.hid (HS.out.kept hb)
    clear hb
    obtain ⟨⟨x0, x1, x2, x3, x4, xl⟩, ⟨y0, y1, y2, y3, y4, yl⟩, -⟩ := HS.out
    go_wp2_with fail
    go_ret
    exact ⟨rfl, HS.out.bel⟩
  | true =>
    obtain ⟨rfl, rfl, rfl, rfl⟩ := fits_parts hf
    have hf2 := (fits_swap _ _ _ _ _ _ _ _ _ _).symm.trans hf
    cases t' <;> cases f' <;> cases b <;> cases b'
    all_goals
      go_enter Try.func7, Try.ntmps7
      go_wp2_with fail
      refine (may_any _ _ _ _ _ _ _ _ _ _ _).mono ?_
      rintro e w9 ⟨rfl, hb⟩
      have HS := Lib.hid (BB.start (by simpa using hb))
      clear hb
      obtain ⟨⟨x0, x1, x2, x3, x4, xl⟩, ⟨y0, y1, y2, y3, y4, yl⟩, -⟩ := HS.out
      rw [hf]
      go_wp2_with fail
      refine (name_any _ _ _ _ _ _).mono ?_
      rintro e w9 ⟨rfl, hb⟩
      clear x0 x1 x2 x3 x4 xl y0 y1 y2 y3 y4 yl
      replace HS := Lib.hid (HS.out.kept hb)
      clear hb
      obtain ⟨⟨x0, x1, x2, x3, x4, xl⟩, ⟨y0, y1, y2, y3, y4, yl⟩, -⟩ := HS.out
      simp only [nameB]
      go_wp2_with fail
      refine (name_any _ _ _ _ _ _).mono ?_
      rintro e w9 ⟨rfl, hb⟩
      clear x0 x1 x2 x3 x4 xl y0 y1 y2 y3 y4 yl
      replace HS := Lib.hid (HS.out.kept hb)
      clear hb
      obtain ⟨⟨x0, x1, x2, x3, x4, xl⟩, ⟨y0, y1, y2, y3, y4, yl⟩, -⟩ := HS.out
      simp only [nameB]
      go_wp2_with fail
      refine (may_any _ _ _ _ _ _ _ _ _ _ _).mono ?_
      rintro e w9 ⟨rfl, hb⟩
      clear x0 x1 x2 x3 x4 xl y0 y1 y2 y3 y4 yl
      replace HS := Lib.hid (HS.out.kept hb)
      clear hb
      obtain ⟨⟨x0, x1, x2, x3, x4, xl⟩, ⟨y0, y1, y2, y3, y4, yl⟩, -⟩ := HS.out
      rw [hf2]
      go_wp2_with fail
      refine (sees_any _ _ _ _ _ _ _ _ _ _ _).mono ?_
      rintro e w9 ⟨rfl, hb⟩
      clear x0 x1 x2 x3 x4 xl y0 y1 y2 y3 y4 yl
      replace HS := Lib.hid (HS.out.kept hb)
      clear hb
      obtain ⟨⟨x0, x1, x2, x3, x4, xl⟩, ⟨y0, y1, y2, y3, y4, yl⟩, -⟩ := HS.out
      simp only [Bool.not_true, Bool.not_false, Bool.or_true, Bool.or_false, Bool.and_true, Bool.and_false]
      go_wp2_with fail
      refine (sees_any _ _ _ _ _ _ _ _ _ _ _).mono ?_
      rintro e w9 ⟨rfl, hb⟩
      clear x0 x1 x2 x3 x4 xl y0 y1 y2 y3 y4 yl
      replace HS := Lib.hid (HS.out.kept hb)
      clear hb
      obtain ⟨⟨x0, x1, x2, x3, x4, xl⟩, ⟨y0, y1, y2, y3, y4, yl⟩, -⟩ := HS.out
      simp only [Bool.not_true, Bool.not_false, Bool.or_true, Bool.or_false, Bool.true_or, Bool.false_or, Bool.and_true, Bool.and_false, Bool.true_and, Bool.false_and]
      go_wp2_with fail
      refine (live_any _).mono ?_
      rintro e w9 ⟨rfl, hb⟩
      clear x0 x1 x2 x3 x4 xl y0 y1 y2 y3 y4 yl
      replace HS := Lib.hid (HS.out.kept hb)
      clear hb
      obtain ⟨⟨x0, x1, x2, x3, x4, xl⟩, ⟨y0, y1, y2, y3, y4, yl⟩, -⟩ := HS.out
      go_wp2_with fail
      go_ret
      exact ⟨rfl, HS.out.bel⟩

end Go.Proofs.Ytjelnndiahkoeaa
