/-
  The statements' own 'live' answers true: under no condition.
-/
import Derived.Test.YtogficnmbfpbjaaWalksc

namespace Go.Proofs.Ytogficnmbfpbjaa
open Go.RowKit

theorem lit_seal : sealB ⟨#[49, 50, 51, 52, 53, 54, 55, 56, 57]⟩ = ⟨#[49, 50, 51, 52, 53, 54, 55, 56, 57, 38, 57, 244, 203]⟩ := by kernel_rfl
theorem lit_open1 : openV ⟨#[49, 50, 51, 52, 53, 54, 55, 56, 57, 38, 57, 244, 203]⟩ = .tuple #[.string ⟨#[49, 50, 51, 52, 53, 54, 55, 56, 57]⟩, .int .i64 0] := by kernel_rfl
theorem lit_open2 : openV ⟨#[97, 98, 99]⟩ = .tuple #[.string ⟨#[]⟩, .int .i64 2] := by kernel_rfl
theorem lit_open3 : openV ⟨#[49, 50, 51, 52, 53, 54, 55, 56, 38, 57, 244, 203]⟩ = .tuple #[.string ⟨#[]⟩, .int .i64 4] := by kernel_rfl
theorem lit_sum : sumI [49, 50, 51, 52, 53, 54, 55, 56, 57] = 3421780262 := by kernel_rfl
theorem lit_sum0 : sumI [] = 0 := by kernel_rfl
theorem lit_step : stepI 0 0 = 0 := by kernel_rfl

set_option maxHeartbeats 400000 in
theorem live_any (w : World) : Calls Try.prog 8 #[] w fun e w' => e = .returned (.bool true) ∧ Below w.heap.size w w' := by
  have hz : (ByteArray.mk #[49, 50, 51, 52, 53, 54, 55, 56, 57]).size = 9 := rfl
  go_enter Try.func8, Try.ntmps8
  go_wp2_with fail
  refine (seal_any _ (of_decide_eq_true (by kernel_rfl)) _).mono ?_
  rintro e w1 ⟨rfl, hb1⟩
  rw [lit_seal]
  go_wp2_with fail
  refine (open_any _ (of_decide_eq_true (by kernel_rfl)) _).mono ?_
  rintro e w2 ⟨rfl, hb2⟩
  rw [lit_open1]
  go_wp2_with fail
  refine (open_any _ (of_decide_eq_true (by kernel_rfl)) _).mono ?_
  rintro e w3 ⟨rfl, hb3⟩
  rw [lit_open2]
  go_wp2_with fail
  refine (open_any _ (of_decide_eq_true (by kernel_rfl)) _).mono ?_
  rintro e w4 ⟨rfl, hb4⟩
  rw [lit_open3]
  go_wp2_with fail
  refine (sum_any _ (of_decide_eq_true (by kernel_rfl)) _).mono ?_
  rintro e w5 ⟨rfl, hb5⟩
  rw [show sumI (ByteArray.mk #[49, 50, 51, 52, 53, 54, 55, 56, 57]).data.toList = 3421780262 from lit_sum]
  go_wp2_with fail
  refine (sum_any _ (of_decide_eq_true (by kernel_rfl)) _).mono ?_
  rintro e w6 ⟨rfl, hb6⟩
  rw [show sumI (ByteArray.mk #[]).data.toList = 0 from lit_sum0]
  go_wp2_with fail
  refine (step_any _ _ (by omega) (by omega) (by omega) (by omega) _).mono ?_
  rintro e w' ⟨rfl, rfl⟩
  rw [lit_step]
  go_wp2
  go_ret
  have h2 := hb1.trans (hb2.mono hb1.size)
  have h3 := h2.trans (hb3.mono h2.size)
  have h4 := h3.trans (hb4.mono h3.size)
  have h5 := h4.trans (hb5.mono h4.size)
  exact ⟨rfl, h5.trans (hb6.mono h5.size)⟩
end Go.Proofs.Ytogficnmbfpbjaa
