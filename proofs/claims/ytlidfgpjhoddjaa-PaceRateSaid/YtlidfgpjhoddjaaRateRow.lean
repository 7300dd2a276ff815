/-
  'PaceRate' RETURNS TRUE FOR EVERY INPUT, and each argument reads afterwards as it read before: the given statement 'Rows.PaceRateSaid', under no condition.
-/
import Derived.Test.YtlidfgpjhoddjaaRows
import Derived.Test.YtlidfgpjhoddjaaRateW
import Derived.Test.YtlidfgpjhoddjaaOpen
import Derived.WalkKit
import Derived.ProofKit
import Derived.OpenShut
import Derived.ShutString
import Derived.Below
import Derived.Test.YtlidfgpjhoddjaaOpenS
import Derived.Lib.Hide
namespace Go.Proofs.Ytlidfgpjhoddjaa
namespace paceRateRow
open Go.ChangeShapes Go.WideShapes Go.ChangeAt Go.RowKit
open Go.ChangeMaps (open_string shut_string)

theorem own : ownKnob Try.prog.godebug = none := by kernel_rfl
theorem laidOut : laidOutB Try.prog = true := by kernel_rfl

theorem types23_0 : Try.prog.cellTypes Try.prog.depth 23 = some [3, 3, 3, 3] := by kernel_rfl
theorem cells23_0 : Try.prog.cellsOf 23 = 4 := by kernel_rfl

set_option maxRecDepth 100000 in
theorem lifted (os : Os) (started : os.Started) (H : Type) (enc : TypeId × Value → H) :
    ReturnsInHanded {} Try.checked os 4 .any (Rows.paceRateSpec.pre6 enc Try.prog Try.f4 Rows.paceRateRow.domain false) (Rows.paceRateSpec.post enc Try.prog Try.f4 false true false false) := by
  refine returnsInHanded_of_change (C := Try.checked) own started (by kernel_rfl) Try.func4
    (ChangeSpec.witness6 (enc := enc) (C := Try.checked) false ⟨#[], #[.agg #[.int .i64 0, .int .i64 0, .int .i64 0, .int .i64 0], .slice none 0 0], []⟩ 8 (by kernel_rfl) (by kernel_rfl) (by kernel_rfl) (by kernel_rfl)) ?_
  intro W base args ds gs before hval0 hW hcnd _
  have hval : ∀ (j : Nat) t v, Try.f4.params[j]? = some t → args[j]? = some v → Value.okWide Try.prog W .any base t v := hval0
  have hW' := hW
  obtain ⟨p, q, hA0, hV, rfl, hfz, hnd⟩ := hW
  have hA : DataW.TrodAll enc Try.prog W 0 (fun _ => true) true Try.f4.params.toList args.toList ds p := hA0
  rw [Try.params4] at hA hval
  obtain ⟨v0, vs0, d0, ds0, p0, q0, hargs, rfl, rfl, h0, r0⟩ := trodAll_cons hA
  obtain ⟨v1, vs1, d1, ds1, p1, q1, rfl, rfl, rfl, h1, r1⟩ := trodAll_cons r0
  obtain ⟨rfl, rfl, rfl⟩ := trodAll_nil r1
  obtain rfl : args = #[v0, v1] := by cases args; simp_all
  obtain ⟨rfl, rfl⟩ := trodVars_none hV
  have k0 := h0
  have lt0 : ∀ x ∈ p0, x.block < W.heap.size := by obtain ⟨m, hm⟩ := k0; exact DataW.trod_lt m _ _ _ hm
  obtain ⟨cs0, rfl, sz0, ok0⟩ := open_cells (ts := [3, 3, 3, 3]) Try.underlying23 (.inl ⟨_, rfl⟩) types23_0 cells23_0 (hval 0 23 v0 rfl rfl)
  obtain ⟨c0_0, c0_1, c0_2, c0_3, rfl⟩ := arr4 sz0
  obtain ⟨a0_0, rfl, w0_0, w0_0b⟩ := cell_int Try.underlying3 (ok0 0 _ _ rfl rfl)
  obtain ⟨a0_1, rfl, w0_1, w0_1b⟩ := cell_int Try.underlying3 (ok0 1 _ _ rfl rfl)
  obtain ⟨a0_2, rfl, w0_2, w0_2b⟩ := cell_int Try.underlying3 (ok0 2 _ _ rfl rfl)
  obtain ⟨a0_3, rfl, w0_3, w0_3b⟩ := cell_int Try.underlying3 (ok0 3 _ _ rfl rfl)
  have k1 := h1
  have lt1 : ∀ x ∈ p1, x.block < W.heap.size := by obtain ⟨m, hm⟩ := k1; exact DataW.trod_lt m _ _ _ hm
  obtain ⟨a1, n1, cap1, z1, rfl, w1, row1⟩ := open_row Try.underlying35 Try.underlying3 (by kernel_rfl) (hval 1 35 v1 rfl rfl) h1
  clear hA0 hval0
  refine (rate_row a0_0 a0_1 a0_2 a0_3 a1 n1 cap1 z1 w0_0 w0_0b w0_1 w0_1b w0_2 w0_2b w0_3 w0_3b w1 (Lib.hid row1) W).mono fun e W' ⟨he, bel⟩ => ?_
  subst he
  exact ⟨_, rfl, _, _, _, [], _, [], hW', trodAll_mk1 (shut_bool Try.underlying4 _), (trodAll_cons_mk (Below.trod laidOut (by kernel_rfl) (of_decide_eq_true (by kernel_rfl)) k0 bel lt0) (trodAll_cons_mk (Below.trod laidOut (by kernel_rfl) (of_decide_eq_true (by kernel_rfl)) k1 bel lt1) trodAll_mk0)), rfl, bel.frame _, fun h => by cases h⟩

theorem over : Rows.paceRateRow.holds Try.pinned (OpenSpec.ofChange Rows.paceRateSpec) :=
  OpenClaim.holds_of_wide 4 Try.f4 rfl rfl rfl rfl rfl rfl rfl ⟨rfl, rfl, rfl, rfl, rfl⟩ rfl rfl rfl rfl rfl (by kernel_rfl) Try.func4 (by kernel_rfl)
    (of_decide_eq_true (by kernel_rfl)) (by unfold Func.isWrapper; first | (rw [if_pos (by decide +kernel)]; kernel_rfl) | (rw [if_neg (by decide +kernel)]; exact ⟨rfl, rfl⟩))
    (fun os started H enc _ => lifted os started H enc)
end paceRateRow

/-- The statement. -/
theorem paceRate_holds : Rows.PaceRateSaid := paceRateRow.over
#print axioms paceRate_holds
end Go.Proofs.Ytlidfgpjhoddjaa
