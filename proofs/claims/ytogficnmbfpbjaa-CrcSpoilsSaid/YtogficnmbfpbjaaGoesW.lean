/-
  The walks of CrcBack and CrcGoes: each answers true at every text; nothing that was there is changed.
-/
import Derived.Test.YtogficnmbfpbjaaTellsW

namespace Go.Proofs.Ytogficnmbfpbjaa
open Go.RowKit

theorem sealL_len (l : List UInt8) : (sealL l).length = l.length + 4 := by simp [sealL, le4u, Crcm.le4]

theorem sealB_size (s : ByteArray) : (sealB s).size = s.size + 4 := by
  show (sealL s.data.toList).toArray.size = _
  simp [sealL_len]

theorem sealL_take (l : List UInt8) : (sealL l).take ((sealL l).length - 4) = l := by
  rw [sealL_len]; unfold sealL; simp

/-- What is sealed is opened. -/
theorem openV_seal (s : ByteArray) : openV (sealB s) = .tuple #[.string s, .int .i64 0] := by
  unfold openV openT openE
  have e : (sealB s).data.toList = sealL s.data.toList := by simp [sealB]
  rw [e, sealL_take, if_pos ⟨by rw [sealL_len]; omega, rfl⟩, if_neg (by rw [sealL_len]; omega), if_pos rfl]

/-- What is opened was sealed. -/
theorem open_cases (s : ByteArray) : (∃ t k, openV s = .tuple #[.string t, .int .i64 0] ∧ sealB t = s ∧ t.size = k ∧ k + 4 = s.size) ∨ (∃ k, openV s = .tuple #[.string ⟨#[]⟩, .int .i64 k] ∧ k ≠ 0) := by
  by_cases h4 : s.size < 4
  · exact .inr ⟨2, openV_cut s h4, by omega⟩
  · unfold openV openT openE
    by_cases hs : sealL (s.data.toList.take (s.data.toList.length - 4)) = s.data.toList
    · refine .inl ⟨⟨(s.data.toList.take (s.data.toList.length - 4)).toArray⟩, s.size - 4, ?_, ?_, ?_, by omega⟩
      · rw [if_pos ⟨by rw [size_list]; omega, hs⟩, if_neg (by rw [size_list]; omega), if_pos hs]
      · unfold sealB
        rw [show (ByteArray.mk (s.data.toList.take (s.data.toList.length - 4)).toArray).data.toList = s.data.toList.take (s.data.toList.length - 4) from by simp, hs]
      · show (s.data.toList.take (s.data.toList.length - 4)).toArray.size = _
        rw [size_list]
        simp
    · exact .inr ⟨4, by rw [if_neg (fun h => hs h.2), if_neg (by rw [size_list]; omega), if_neg hs], by omega⟩

set_option maxHeartbeats 400000 in
theorem back_any (s : ByteArray) (hs : s.size ≤ maxLen) (w : World) :
    Calls Try.prog 4 #[.string s] w fun e w' => e = .returned (.bool true) ∧ Below w.heap.size w w' := by
  unfold maxLen at hs
  by_cases h : 1000 < s.size
  · go_enter Try.func4, Try.ntmps4
    go_wp2_with fail
    refine (live_any _).mono ?_
    rintro e w1 ⟨rfl, hb1⟩
    go_wp2_with fail
    go_ret
    exact ⟨rfl, hb1⟩
  · have hz := sealB_size s
    rcases open_cases s with ⟨t, k, hv, ht, htk, hk⟩ | ⟨k, hv, hk⟩
    · have HV := Lib.hid hv
      have HT := Lib.hid ht
      have hts : t.size ≤ 1000 := by omega
      clear hv ht htk hk hz
      go_enter Try.func4, Try.ntmps4
      go_wp2_with fail
      refine (seal_any _ (by omega) _).mono ?_
      rintro e w1 ⟨rfl, hb1⟩
      go_wp2_with fail
      refine (open_any _ (by rw [sealB_size]; omega) _).mono ?_
      rintro e w2 ⟨rfl, hb2⟩
      rw [openV_seal]
      go_wp2_with fail
      refine (open_any _ (by omega) _).mono ?_
      rintro e w3 ⟨rfl, hb3⟩
      rw [HV.out]
      go_wp2_with fail
      refine (seal_any _ (by omega) _).mono ?_
      rintro e w4 ⟨rfl, hb4⟩
      rw [HT.out]
      go_wp2_with fail
      refine (live_any _).mono ?_
      rintro e w5 ⟨rfl, hb5⟩
      go_wp2_with fail
      go_ret
      have h2 := hb1.trans (hb2.mono hb1.size)
      have h3 := h2.trans (hb3.mono h2.size)
      have h4 := h3.trans (hb4.mono h3.size)
      exact ⟨rfl, h4.trans (hb5.mono h4.size)⟩
    · have HV := Lib.hid hv
      have hkb : (k == 0) = false := by simpa using hk
      clear hv hk hz
      go_enter Try.func4, Try.ntmps4
      go_wp2_with fail
      refine (seal_any _ (by omega) _).mono ?_
      rintro e w1 ⟨rfl, hb1⟩
      go_wp2_with fail
      refine (open_any _ (by rw [sealB_size]; omega) _).mono ?_
      rintro e w2 ⟨rfl, hb2⟩
      rw [openV_seal]
      go_wp2_with fail
      refine (open_any _ (by omega) _).mono ?_
      rintro e w3 ⟨rfl, hb3⟩
      rw [HV.out]
      go_wp2_with fail
      refine (live_any _).mono ?_
      rintro e w5 ⟨rfl, hb5⟩
      go_wp2_with fail
      go_ret
      have h2 := hb1.trans (hb2.mono hb1.size)
      have h3 := h2.trans (hb3.mono h2.size)
      exact ⟨rfl, h3.trans (hb5.mono h3.size)⟩

theorem runI_append (l m : List UInt8) : ((Crcm.run 4294967295 (nats (l ++ m)) : Nat) : Int) = ((Crcm.run (Crcm.run 4294967295 (nats l)) (nats m) : Nat) : Int) := by
  unfold nats; rw [List.map_append, Crcm.run_append]

/-- The state behind a text. -/
def fromI (c : Int) (l : List UInt8) : Int := ((Crcm.run c.toNat (nats l) : Nat) : Int)

theorem fromI_bd {c : Int} (h0 : 0 ≤ c) (h1 : c < 4294967296) (l : List UInt8) : 0 ≤ fromI c l ∧ fromI c l < 4294967296 := by
  unfold fromI
  have := Crcm.run_lt (nats l) (c := c.toNat) (by omega) (nats_bytes l)
  omega

theorem fromI_snoc (c : Int) (l : List UInt8) (b : UInt8) : fromI c (l ++ [b]) = stepI (fromI c l) (b.toNat : Int) := by
  unfold fromI stepI nats
  rw [List.map_append, Crcm.run_append]
  simp [Crcm.run]

theorem xorAll_bd (l : List UInt8) : bits BinOp.xor IntKind.u32 (sumI l) 4294967295 = runI 4294967295 l := by
  have h := sumI_bd l
  rw [u32_xor _ _ h.1 h.2 (by omega) (by omega)]
  unfold runI sumI Crcm.sum
  rw [Int.toNat_natCast]
  have : (Crcm.run 4294967295 (nats l) ^^^ 4294967295) ^^^ (4294967295 : Int).toNat = Crcm.run 4294967295 (nats l) := by
    show (Crcm.run 4294967295 (nats l) ^^^ 4294967295) ^^^ 4294967295 = _
    rw [Nat.xor_assoc, Nat.xor_self, Nat.xor_zero]
  rw [this]

theorem goes_sum (s t : ByteArray) : sumI (s ++ t).data.toList = bits BinOp.xor IntKind.u32 (fromI (runI 4294967295 s.data.toList) t.data.toList) 4294967295 := by
  have hb := fromI_bd (runI_bd s.data.toList).1 (runI_bd s.data.toList).2 t.data.toList
  rw [u32_xor _ _ hb.1 hb.2 (by omega) (by omega)]
  have e : (s ++ t).data.toList = s.data.toList ++ t.data.toList := by simp
  rw [e]
  unfold sumI fromI runI Crcm.sum nats
  rw [List.map_append, Crcm.run_append]
  simp

set_option maxHeartbeats 400000 in
theorem goes_any (s t : ByteArray) (hs : s.size ≤ maxLen) (ht : t.size ≤ maxLen) (w : World) :
    Calls Try.prog 7 #[.string s, .string t] w fun e w' => e = .returned (.bool true) ∧ Below w.heap.size w w' := by
  unfold maxLen at hs ht
  by_cases h : 300 < s.size
  · go_enter Try.func7, Try.ntmps7
    go_wp2_with fail
    refine (live_any _).mono ?_
    rintro e w1 ⟨rfl, hb1⟩
    go_wp2_with fail
    go_ret
    exact ⟨rfl, hb1⟩
  · by_cases h' : 300 < t.size
    · go_enter Try.func7, Try.ntmps7
      go_wp2_with fail
      refine (live_any _).mono ?_
      rintro e w1 ⟨rfl, hb1⟩
      go_wp2_with fail
      go_ret
      exact ⟨rfl, hb1⟩
    · have hrb := runI_bd s.data.toList
      have d1 : decide (300 < (s.size : Int)) = false := by simp; omega
      have d2 : decide (300 < (t.size : Int)) = false := by simp; omega
      have hxor := xorAll_bd s.data.toList
      have HX := Lib.hid hxor
      clear hxor
      go_enter Try.func7, Try.ntmps7
      go_wp2_with fail
      refine (sum_any _ (by unfold maxLen; omega) _).mono ?_
      rintro e w1 ⟨rfl, hb1⟩
      go_wp2_with fail
      go_loop [5, 6] (fun c i => ∃ k : Nat, k ≤ t.size ∧ i = .int .i64 k ∧ c = .int .u32 (fromI (runI 4294967295 s.data.toList) (t.data.toList.take k))) (fun _ i => t.size - (intOf i).toNat)
      case atStart => exact ⟨0, Nat.zero_le _, rfl, by rw [HX.out]; rfl⟩
      case round =>
        obtain ⟨k, hk, rfl, rfl⟩ := hrel
        have hr := fromI_bd hrb.1 hrb.2 (t.data.toList.take k)
        by_cases hlt : k < t.size
        · have hb := (t[k]).toNat_lt
          have HS : Hid (fromI (runI 4294967295 s.data.toList) (t.data.toList.take (k + 1)) = stepI (fromI (runI 4294967295 s.data.toList) (t.data.toList.take k)) (t[k].toNat : Int)) := by rw [take_snoc t k hlt, fromI_snoc]; trivial
          go_wp2_with (go_at_call 11; refine (step_any _ _ (by omega) (by omega) (by omega) (by omega) _).mono ?_; rintro e w' ⟨rfl, rfl⟩)
          go_round
          case rel => exact ⟨k + 1, by omega, by go_num, by rw [HS.out]⟩
          case measure => simp [intOf]; omega
        · have HG : Hid (sumI (s ++ t).data.toList = bits BinOp.xor IntKind.u32 (fromI (runI 4294967295 s.data.toList) (t.data.toList.take k)) 4294967295) := by
            show _ = _
            rw [goes_sum, List.take_of_length_le (by simp; omega)]
          go_wp2_with fail
          refine (sum_any _ (by unfold maxLen; simp; omega) _).mono ?_
          rintro e w2 ⟨rfl, hb2⟩
          rw [HG.out]
          go_wp2_with fail
          refine (live_any _).mono ?_
          rintro e w3 ⟨rfl, hb3⟩
          go_wp2_with fail
          go_ret
          have h2 := hb1.trans (hb2.mono hb1.size)
          exact ⟨rfl, h2.trans (hb3.mono h2.size)⟩

end Go.Proofs.Ytogficnmbfpbjaa
