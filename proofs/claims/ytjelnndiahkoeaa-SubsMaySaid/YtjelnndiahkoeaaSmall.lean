/-
  The small functions of subs and of its reference: what they compute, for all items.
-/
import Derived.Test.YtjelnndiahkoeaaRows
import Derived.WalkKit
import Derived.WalkSpells
import Derived.WalkLawsBesides
import Derived.Lib.Hide
import Derived.Test.YtjelnndiahkoeaaMaps

namespace Go.Proofs.Ytjelnndiahkoeaa
open Go.RowKit

theorem ret_bool {a b : Bool} (h : a = b) : Ending.returned (.bool a) = .returned (.bool b) := by rw [h]

/-- Whether two items may be. -/
def fitsB (t f o i _b t' f' o' i' _b' : Bool) : Bool := t == f' && f == t' && o == i' && i == o' && !(t && o) && !(t' && o')

set_option maxHeartbeats 400000 in
theorem blocked_any (t f o i b t' f' o' i' b' : Bool) (w : World) :
    Calls Try.prog 20 #[.agg #[.bool t, .bool f, .bool o, .bool i, .bool b, .bool t', .bool f', .bool o', .bool i', .bool b']] w fun e w' => e = .returned (.bool (b || b')) ∧ Below w.heap.size w w' := by
  cases b <;> (
  go_enter Try.func20, Try.ntmps20
  go_wp2
  all_goals go_ret
  all_goals exact ⟨rfl, Below.alloc (Below.refl _ _) (Nat.le_refl _) _⟩)

set_option maxHeartbeats 400000 in
theorem sees_any (t f o i b t' f' o' i' b' : Bool) (w : World) :
    Calls Try.prog 10 #[.agg #[.bool t, .bool f, .bool o, .bool i, .bool b], .agg #[.bool t', .bool f', .bool o', .bool i', .bool b']] w fun e w' => e = .returned (.bool (t && !(b || b'))) ∧ Below w.heap.size w w' := by
  cases t
  · go_enter Try.func10, Try.ntmps10
    go_wp2_with fail
    all_goals go_ret
    all_goals exact ⟨rfl, (Below.alloc (Below.refl _ _) (Nat.le_refl _) _).alloc (by simp) _⟩
  · go_enter Try.func10, Try.ntmps10
    go_wp2_with fail
    refine (blocked_any _ _ _ _ _ _ _ _ _ _ _).mono ?_
    rintro e w1 ⟨rfl, hb⟩
    go_wp2_with fail
    all_goals go_ret
    exact ⟨ret_bool (by simp), ((Below.alloc (Below.refl _ _) (Nat.le_refl _) _).alloc (by simp) _).trans (hb.mono (by simp; omega))⟩

set_option maxHeartbeats 400000 in
theorem refSees_any (t f o i b t' f' o' i' b' : Bool) (w : World) :
    Calls Try.prog 11 #[.agg #[.bool t, .bool f, .bool o, .bool i, .bool b], .agg #[.bool t', .bool f', .bool o', .bool i', .bool b']] w fun e w' => e = .returned (.bool (t && !(b || b'))) ∧ Below w.heap.size w w' := by
  cases t <;> cases b <;> cases b' <;> (
  go_enter Try.func11, Try.ntmps11
  go_wp2_with fail
  all_goals go_ret
  all_goals exact ⟨rfl, (Below.alloc (Below.refl _ _) (Nat.le_refl _) _).alloc (by simp) _⟩)

set_option maxHeartbeats 4000000 in
theorem refMay_any (t f o i b t' f' o' i' b' : Bool) (w : World) :
    Calls Try.prog 9 #[.agg #[.bool t, .bool f, .bool o, .bool i, .bool b], .agg #[.bool t', .bool f', .bool o', .bool i', .bool b']] w fun e w' => e = .returned (.bool (fitsB t f o i b t' f' o' i' b')) ∧ Below w.heap.size w w' := by
  go_enter Try.func9, Try.ntmps9
  go_wp2
  all_goals go_ret
  all_goals exact ⟨ret_bool (by simp_all [fitsB]), (Below.alloc (Below.refl _ _) (Nat.le_refl _) _).alloc (by simp) _⟩

set_option maxHeartbeats 4000000 in
theorem fits_any (t f o i b t' f' o' i' b' : Bool) (w : World) :
    Calls Try.prog 19 #[.agg #[.bool t, .bool f, .bool o, .bool i, .bool b, .bool t', .bool f', .bool o', .bool i', .bool b']] w fun e w' => e = .returned (.bool (fitsB t f o i b t' f' o' i' b')) ∧ Below w.heap.size w w' := by
  go_enter Try.func19, Try.ntmps19
  go_wp2_with fail
  go_region
  all_goals go_wp2
  all_goals go_ret
  all_goals exact ⟨ret_bool (by simp_all [fitsB]), Below.drew (((Below.alloc (Below.refl _ _) (Nat.le_refl _) _).alloc (by simp) _).alloc (by simp; omega) _)⟩

set_option maxHeartbeats 4000000 in
theorem may_any (t f o i b t' f' o' i' b' : Bool) (w : World) :
    Calls Try.prog 8 #[.agg #[.bool t, .bool f, .bool o, .bool i, .bool b], .agg #[.bool t', .bool f', .bool o', .bool i', .bool b']] w fun e w' => e = .returned (.bool (fitsB t f o i b t' f' o' i' b')) ∧ Below w.heap.size w w' := by
  go_enter Try.func8, Try.ntmps8
  go_wp2_with fail
  refine (fits_any _ _ _ _ _ _ _ _ _ _ _).mono ?_
  rintro e w1 ⟨rfl, hb⟩
  go_wp2_with fail
  go_ret
  exact ⟨rfl, ((Below.alloc (Below.refl _ _) (Nat.le_refl _) _).alloc (by simp) _).trans (hb.mono (by simp; omega))⟩

set_option maxHeartbeats 4000000 in
theorem refName_any (t f o i b : Bool) (w : World) :
    Calls Try.prog 15 #[.agg #[.bool t, .bool f, .bool o, .bool i, .bool b]] w fun e w' => e = .returned (.string (nameB t f)) ∧ Below w.heap.size w w' := by
  cases t <;> cases f <;> (
  go_enter Try.func15, Try.ntmps15
  go_wp2_with fail
  all_goals go_ret
  all_goals exact ⟨rfl, Below.alloc (Below.refl _ _) (Nat.le_refl _) _⟩)

/-- Whether an item is the empty one. -/
def emptyB (t f o i b : Bool) : Bool := !t && !f && !o && !i && !b

set_option maxHeartbeats 4000000 in
theorem empty_any (t f o i b : Bool) (w : World) :
    Calls Try.prog 12 #[.agg #[.bool t, .bool f, .bool o, .bool i, .bool b]] w fun e w' => e = .returned (.bool (emptyB t f o i b)) ∧ Below w.heap.size w w' := by
  go_enter Try.func12, Try.ntmps12
  go_wp2
  all_goals go_ret
  all_goals exact ⟨ret_bool (by simp_all [emptyB]), Below.alloc (Below.refl _ _) (Nat.le_refl _) _⟩

set_option maxHeartbeats 4000000 in
theorem refEmpty_any (t f o i b : Bool) (w : World) :
    Calls Try.prog 13 #[.agg #[.bool t, .bool f, .bool o, .bool i, .bool b]] w fun e w' => e = .returned (.bool (emptyB t f o i b)) ∧ Below w.heap.size w w' := by
  go_enter Try.func13, Try.ntmps13
  go_wp2
  all_goals go_ret
  all_goals exact ⟨ret_bool (by simp_all [emptyB]), Below.alloc (Below.refl _ _) (Nat.le_refl _) _⟩

end Go.Proofs.Ytjelnndiahkoeaa
