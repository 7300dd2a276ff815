/-
  The walk of SubsTells: it answers true at every two items; nothing that was there is changed.
-/
import Derived.Test.YtjelnndiahkoeaaSidesW
import Derived.Deep.RegionHeld3

namespace Go.Proofs.Ytjelnndiahkoeaa
open Go.RowKit

theorem BB.zero (t f o i b t' f' o' i' b' : Bool) (w : World) : BB t f o i b t' f' o' i' b' w (((w.alloc (.cells #[.bool t, .bool f, .bool o, .bool i, .bool b] 23)).alloc (.cells #[.bool t', .bool f', .bool o', .bool i', .bool b'] 23)).drew) := by
  have h := BB.start (t := t) (f := f) (o := o) (i := i) (b := b) (t' := t') (f' := f') (o' := o') (i' := i') (b' := b') (w := w) (Below.refl _ _)
  exact h.kept (Below.drew (Below.refl _ _))

set_option maxRecDepth 100000 in
set_option maxHeartbeats 8000000 in
theorem tells_any (t f o i b t' f' o' i' b' : Bool) (w : World) :
    Calls Try.prog 3 #[.agg #[.bool t, .bool f, .bool o, .bool i, .bool b], .agg #[.bool t', .bool f', .bool o', .bool i', .bool b']] w fun e w' => e = .returned (.bool true) ∧ Below w.heap.size w w' := by
  have HS := BB.zero t f o i b t' f' o' i' b' w
  go_enter Try.func3, Try.ntmps3
  go_wp2_with fail
  go_region_held3 (fun w' => w'.cell? ⟨w.heap.size, 0, none⟩ = some (.bool t) ∧ w'.cell? ⟨w.heap.size, 1, none⟩ = some (.bool f) ∧ w'.cell? ⟨w.heap.size, 2, none⟩ = some (.bool o) ∧ w'.cell? ⟨w.heap.size, 3, none⟩ = some (.bool i) ∧ w'.cell? ⟨w.heap.size, 4, none⟩ = some (.bool b) ∧ w'.cell? ⟨w.heap.size + 1, 0, none⟩ = some (.bool t') ∧ w'.cell? ⟨w.heap.size + 1, 1, none⟩ = some (.bool f') ∧ w'.cell? ⟨w.heap.size + 1, 2, none⟩ = some (.bool o') ∧ w'.cell? ⟨w.heap.size + 1, 3, none⟩ = some (.bool i') ∧ w'.cell? ⟨w.heap.size + 1, 4, none⟩ = some (.bool b')) (first | exact ⟨HS.x.c0, HS.x.c1, HS.x.c2, HS.x.c3, HS.x.c4, HS.y.c0, HS.y.c1, HS.y.c2, HS.y.c3, HS.y.c4⟩)
    (first
      | (go_at_call 8; refine (may_any _ _ _ _ _ _ _ _ _ _ _).mono ?_; rintro e w9 ⟨rfl, hb9⟩; replace HS := HS.kept hb9; clear hb9)
      | (go_at_call 9; refine (refMay_any _ _ _ _ _ _ _ _ _ _ _).mono ?_; rintro e w9 ⟨rfl, hb9⟩; replace HS := HS.kept hb9; clear hb9)
      | (go_at_call 10; refine (sees_any _ _ _ _ _ _ _ _ _ _ _).mono ?_; rintro e w9 ⟨rfl, hb9⟩; replace HS := HS.kept hb9; clear hb9)
      | (go_at_call 11; refine (refSees_any _ _ _ _ _ _ _ _ _ _ _).mono ?_; rintro e w9 ⟨rfl, hb9⟩; replace HS := HS.kept hb9; clear hb9)
      | (go_at_call 12; refine (empty_any _ _ _ _ _ _).mono ?_; rintro e w9 ⟨rfl, hb9⟩; replace HS := HS.kept hb9; clear hb9)
      | (go_at_call 13; refine (refEmpty_any _ _ _ _ _ _).mono ?_; rintro e w9 ⟨rfl, hb9⟩; replace HS := HS.kept hb9; clear hb9)
      | (go_at_call 14; refine (name_any _ _ _ _ _ _).mono ?_; rintro e w9 ⟨rfl, hb9⟩; replace HS := HS.kept hb9; clear hb9)
      | (go_at_call 15; refine (refName_any _ _ _ _ _ _).mono ?_; rintro e w9 ⟨rfl, hb9⟩; replace HS := HS.kept hb9; clear hb9)
      | (go_at_call 16; refine (live_any _).mono ?_; rintro e w9 ⟨rfl, hb9⟩; replace HS := HS.kept hb9; clear hb9))
  all_goals go_wp2_with fail
  all_goals go_ret
  all_goals exact ⟨rfl, HS.bel⟩
end Go.Proofs.Ytjelnndiahkoeaa
