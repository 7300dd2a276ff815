/-
  The walk of CrcTells: it answers true at every step, byte and text; nothing that was there is changed.
-/
import Derived.Test.YtogficnmbfpbjaaLive

namespace Go.Proofs.Ytogficnmbfpbjaa
open Go.RowKit

set_option maxHeartbeats 1000000 in
theorem tells_any (c b : Int) (hc : 0 ≤ c) (hc2 : c < 4294967296) (hb : 0 ≤ b) (hb2 : b < 256) (s : ByteArray) (hs : s.size ≤ maxLen) (w : World) :
    Calls Try.prog 3 #[.int .u32 c, .int .u8 b, .string s] w fun e w' => e = .returned (.bool true) ∧ Below w.heap.size w w' := by
  unfold maxLen at hs
  by_cases h : 1000 < s.size
  · go_enter Try.func3, Try.ntmps3
    go_wp2_with fail
    refine (live_any _).mono ?_
    rintro e w1 ⟨rfl, hb1⟩
    go_wp2_with fail
    go_ret
    exact ⟨rfl, hb1⟩
  · have HV : ∃ t d, openV s = .tuple #[.string t, .int .i64 d] := ⟨_, _, rfl⟩
    obtain ⟨t, d, hv⟩ := HV
    have HV := Lib.hid hv
    clear hv
    go_enter Try.func3, Try.ntmps3
    go_wp2_with fail
    refine (open_any _ (by omega) _).mono ?_
    rintro e w1 ⟨rfl, hb1⟩
    rw [HV.out]
    go_wp2_with fail
    refine (refOpen_any _ (by omega) _).mono ?_
    rintro e w2 ⟨rfl, hb2⟩
    rw [HV.out]
    go_wp2_with fail
    refine (step_any _ _ (by omega) (by omega) (by omega) (by omega) _).mono ?_
    rintro e w' ⟨rfl, rfl⟩
    go_wp2_with fail
    refine (refStep_any _ _ (by omega) (by omega) (by omega) (by omega) _).mono ?_
    rintro e w' ⟨rfl, rfl⟩
    go_wp2_with fail
    refine (sum_any _ (by unfold maxLen; omega) _).mono ?_
    rintro e w3 ⟨rfl, hb3⟩
    go_wp2_with fail
    refine (refSum_any _ (by unfold maxLen; omega) _).mono ?_
    rintro e w' ⟨rfl, rfl⟩
    go_wp2_with fail
    refine (seal_any _ (by omega) _).mono ?_
    rintro e w4 ⟨rfl, hb4⟩
    go_wp2_with fail
    refine (refSeal_any _ (by omega) _).mono ?_
    rintro e w5 ⟨rfl, hb5⟩
    go_wp2_with fail
    refine (live_any _).mono ?_
    rintro e w6 ⟨rfl, hb6⟩
    go_wp2_with fail
    go_ret
    have h2 := hb1.trans (hb2.mono hb1.size)
    have h3 := h2.trans (hb3.mono h2.size)
    have h4 := h3.trans (hb4.mono h3.size)
    have h5 := h4.trans (hb5.mono h4.size)
    exact ⟨rfl, h5.trans (hb6.mono h5.size)⟩

theorem u32_bd {c : Int} (h : IntKind.u32.min ≤ c) (h' : c ≤ IntKind.u32.max) : 0 ≤ c ∧ c < 4294967296 := by
  have e : IntKind.u32.min = 0 := by decide
  have e' : IntKind.u32.max = 4294967295 := by decide
  omega
theorem u8_bd {c : Int} (h : IntKind.u8.min ≤ c) (h' : c ≤ IntKind.u8.max) : 0 ≤ c ∧ c < 256 := by
  have e : IntKind.u8.min = 0 := by decide
  have e' : IntKind.u8.max = 255 := by decide
  omega
theorem i64_bd {c : Int} (h : IntKind.i64.min ≤ c) (h' : c ≤ IntKind.i64.max) : -9223372036854775808 ≤ c ∧ c ≤ 9223372036854775807 := by
  have e : IntKind.i64.min = -9223372036854775808 := by decide
  have e' : IntKind.i64.max = 9223372036854775807 := by decide
  omega

theorem tells_row (c b : Int) (s : ByteArray) (h0 : IntKind.u32.min ≤ c) (h0b : c ≤ IntKind.u32.max) (h1 : IntKind.u8.min ≤ b) (h1b : b ≤ IntKind.u8.max) (hs : s.size ≤ maxLen) (w : World) :
    Calls Try.prog 3 #[.int .u32 c, .int .u8 b, .string s] w fun e w' => e = .returned (.bool true) ∧ Below w.heap.size w w' := by
  have hc := u32_bd h0 h0b
  have hb := u8_bd h1 h1b
  exact tells_any c b hc.1 hc.2 hb.1 hb.2 s hs w

end Go.Proofs.Ytogficnmbfpbjaa
