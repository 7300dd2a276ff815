/-
  'CrcSpoils' RETURNS TRUE FOR EVERY INPUT, and each argument reads afterwards as it read before: the given statement 'Rows.CrcSpoilsSaid', under no condition.
-/
import Derived.Test.YtogficnmbfpbjaaRows
import Derived.Test.YtogficnmbfpbjaaSpoilsW
import Derived.Test.YtogficnmbfpbjaaOpen
import Derived.WalkKit
import Derived.ProofKit
import Derived.OpenShut
import Derived.ShutString
import Derived.Below
namespace Go.Proofs.Ytogficnmbfpbjaa
namespace crcSpoilsRow
open Go.ChangeShapes Go.WideShapes Go.ChangeAt Go.RowKit
open Go.ChangeMaps (open_string shut_string)

theorem own : ownKnob Try.prog.godebug = none := by kernel_rfl
theorem laidOut : laidOutB Try.prog = true := by kernel_rfl

theorem types32 : Try.prog.cellTypes Try.prog.depth 32 = some [5, 5, 5, 5] := by kernel_rfl
theorem cells32 : Try.prog.cellsOf 32 = 4 := by kernel_rfl

set_option maxRecDepth 100000 in
theorem lifted (os : Os) (started : os.Started) (H : Type) (enc : TypeId × Value → H) :
    ReturnsInHanded {} Try.checked os 5 .any (Rows.crcSpoilsSpec.pre6 enc Try.prog Try.f5 Rows.crcSpoilsRow.domain false) (Rows.crcSpoilsSpec.post enc Try.prog Try.f5 false true false false) := by
  refine returnsInHanded_of_change (C := Try.checked) own started (by kernel_rfl) Try.func5
    (ChangeSpec.witness6 (enc := enc) (C := Try.checked) false ⟨#[], #[.string ByteArray.empty, .int .i64 0, .agg #[.int .u8 0, .int .u8 0, .int .u8 0, .int .u8 0]], []⟩ 8 (by kernel_rfl) (by kernel_rfl) (by kernel_rfl) (by kernel_rfl)) ?_
  intro W base args ds gs before hval0 hW hcnd _
  have hval : ∀ (j : Nat) t v, Try.f5.params[j]? = some t → args[j]? = some v → Value.okWide Try.prog W .any base t v := hval0
  have hW' := hW
  obtain ⟨p, q, hA0, hV, rfl, hfz, hnd⟩ := hW
  have hA : DataW.TrodAll enc Try.prog W 0 (fun _ => true) true Try.f5.params.toList args.toList ds p := hA0
  rw [Try.params5] at hA hval
  obtain ⟨v0, vs0, d0, ds0, p0, q0, hargs, rfl, rfl, h0, r0⟩ := trodAll_cons hA
  obtain ⟨v1, vs1, d1, ds1, p1, q1, rfl, rfl, rfl, h1, r1⟩ := trodAll_cons r0
  obtain ⟨v2, vs2, d2, ds2, p2, q2, rfl, rfl, rfl, h2, r2⟩ := trodAll_cons r1
  obtain ⟨rfl, rfl, rfl⟩ := trodAll_nil r2
  obtain rfl : args = #[v0, v1, v2] := by cases args; simp_all
  obtain ⟨rfl, rfl⟩ := trodVars_none hV
  have k0 := h0
  have lt0 : ∀ x ∈ p0, x.block < W.heap.size := by obtain ⟨m, hm⟩ := k0; exact DataW.trod_lt m _ _ _ hm
  obtain ⟨a0, rfl, w0⟩ := cell_string Try.underlying9 (show Cell.okWide Try.prog W .any base 9 v0 from by have := hval 0 9 v0 rfl rfl; simpa [Value.okWide, Try.underlying9] using this)
  have k1 := h1
  have lt1 : ∀ x ∈ p1, x.block < W.heap.size := by obtain ⟨m, hm⟩ := k1; exact DataW.trod_lt m _ _ _ hm
  obtain ⟨a1, rfl, w1, w1b⟩ := cell_int Try.underlying3 (show Cell.okWide Try.prog W .any base 3 v1 from by have := hval 1 3 v1 rfl rfl; simpa [Value.okWide, Try.underlying3] using this)
  have k2 := h2
  have lt2 : ∀ x ∈ p2, x.block < W.heap.size := by obtain ⟨m, hm⟩ := k2; exact DataW.trod_lt m _ _ _ hm
  obtain ⟨cs2, rfl, sz2, ok2⟩ := open_cells (ts := [5, 5, 5, 5]) Try.underlying32 (.inr ⟨_, _, rfl⟩) types32 cells32 (hval 2 32 v2 rfl rfl)
  obtain ⟨c2_0, c2_1, c2_2, c2_3, rfl⟩ := arr4 sz2
  obtain ⟨a2_0, rfl, w2_0, w2_0b⟩ := cell_int Try.underlying5 (ok2 0 _ _ rfl rfl)
  obtain ⟨a2_1, rfl, w2_1, w2_1b⟩ := cell_int Try.underlying5 (ok2 1 _ _ rfl rfl)
  obtain ⟨a2_2, rfl, w2_2, w2_2b⟩ := cell_int Try.underlying5 (ok2 2 _ _ rfl rfl)
  obtain ⟨a2_3, rfl, w2_3, w2_3b⟩ := cell_int Try.underlying5 (ok2 3 _ _ rfl rfl)
  clear hA0 hval0
  refine (spoils_row a0 a1 a2_0 a2_1 a2_2 a2_3 w0 w1 w1b w2_0 w2_0b w2_1 w2_1b w2_2 w2_2b w2_3 w2_3b W).mono fun e W' ⟨he, bel⟩ => ?_
  subst he
  exact ⟨_, rfl, _, _, _, [], _, [], hW', trodAll_mk1 (shut_bool Try.underlying4 _), (trodAll_cons_mk (Below.trod laidOut (by kernel_rfl) (of_decide_eq_true (by kernel_rfl)) k0 bel lt0) (trodAll_cons_mk (Below.trod laidOut (by kernel_rfl) (of_decide_eq_true (by kernel_rfl)) k1 bel lt1) (trodAll_cons_mk (Below.trod laidOut (by kernel_rfl) (of_decide_eq_true (by kernel_rfl)) k2 bel lt2) trodAll_mk0))), rfl, bel.frame _, fun h => by cases h⟩

theorem over : Rows.crcSpoilsRow.holds Try.pinned (OpenSpec.ofChange Rows.crcSpoilsSpec) :=
  OpenClaim.holds_of_wide 5 Try.f5 rfl rfl rfl rfl rfl rfl rfl ⟨rfl, rfl, rfl, rfl, rfl⟩ rfl rfl rfl rfl rfl (by kernel_rfl) Try.func5 (by kernel_rfl)
    (of_decide_eq_true (by kernel_rfl)) (by unfold Func.isWrapper; first | (rw [if_pos (by decide +kernel)]; kernel_rfl) | (rw [if_neg (by decide +kernel)]; exact ⟨rfl, rfl⟩))
    (fun os started H enc _ => lifted os started H enc)
end crcSpoilsRow

/-- The statement. -/
theorem crcSpoils_holds : Rows.CrcSpoilsSaid := crcSpoilsRow.over
#print axioms crcSpoils_holds
end Go.Proofs.Ytogficnmbfpbjaa
