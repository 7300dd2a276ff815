/-
  What crc.Open and the reference's Open compute, for every text of at most 2^46 bytes.
-/
import Derived.Test.YtogficnmbfpbjaaWalksb

namespace Go.Proofs.Ytogficnmbfpbjaa
open Go.RowKit
/-- What Open tells. -/
def openT (l : List UInt8) : List UInt8 := if 4 ≤ l.length ∧ sealL (l.take (l.length - 4)) = l then l.take (l.length - 4) else []
def openE (l : List UInt8) : Int := if l.length < 4 then 2 else if sealL (l.take (l.length - 4)) = l then 0 else 4
def openV (s : ByteArray) : Value := .tuple #[.string ⟨(openT s.data.toList).toArray⟩, .int .i64 (openE s.data.toList)]

theorem size_list (s : ByteArray) : s.data.toList.length = s.size := by simp

theorem openV_cut (s : ByteArray) (h : s.size < 4) : openV s = .tuple #[.string ⟨#[]⟩, .int .i64 2] := by
  unfold openV openT openE
  rw [size_list, if_neg (by omega), if_pos h]

theorem extract_front (s : ByteArray) (k : Nat) : s.extract 0 k = ⟨(s.data.toList.take k).toArray⟩ := by
  have e : s = ⟨s.data.toList.toArray⟩ := by simp
  conv => lhs; rw [e]
  rw [ByteArray.extract_mk]; simp

theorem sealB_list (s : ByteArray) : (sealB s).toList = sealL s.data.toList := by unfold sealB; rw [ByteArray.toList_mk]

theorem openV_bad (s : ByteArray) (h : ¬ s.size < 4) (hb : (!(sealB (s.extract 0 (s.size - 4))).toList == s.toList) = true) : openV s = .tuple #[.string ⟨#[]⟩, .int .i64 4] := by
  rw [sealB_list, extract_front, ByteArray.toList_eq] at hb
  unfold openV openT openE
  simp at hb
  rw [size_list, if_neg (by simp; intro _; exact hb), if_neg h, if_neg (by simpa using hb)]

theorem openV_ok (s : ByteArray) (h : ¬ s.size < 4) (hb : (!(sealB (s.extract 0 (s.size - 4))).toList == s.toList) = false) : openV s = .tuple #[.string (s.extract 0 (s.size - 4)), .int .i64 0] := by
  rw [sealB_list, extract_front, ByteArray.toList_eq] at hb
  unfold openV openT openE
  simp at hb
  rw [size_list, if_pos ⟨by omega, hb⟩, if_neg h, if_pos hb, extract_front]

theorem size_front (s : ByteArray) (hs : s.size ≤ 70368744177664) : (s.extract 0 (s.size - 4)).size ≤ 70368744177664 := by
  rw [ByteArray.size_extract]; omega

theorem ret_val {a b : Value} (h : a = b) : Ending.returned b = .returned a := by rw [h]

set_option maxHeartbeats 400000 in
theorem open_any (s : ByteArray) (hs : s.size ≤ 70368744177664) (w : World) :
    Calls Try.prog 9 #[.string s] w fun e w' => e = .returned (openV s) ∧ Below w.heap.size w w' := by
  by_cases h4 : s.size < 4
  · go_enter Try.func9, Try.ntmps9
    go_wp2
    go_ret2
    exact ⟨ret_val (openV_cut s h4), Below.refl _ _⟩
  · go_enter Try.func9, Try.ntmps9
    go_wp2_with fail
    refine (seal_any _ (size_front s hs) _).mono ?_
    rintro e w' ⟨rfl, hb⟩
    go_wp2
    · go_ret2
      exact ⟨ret_val (openV_bad s h4 (by assumption)), hb⟩
    · go_ret2
      exact ⟨ret_val (openV_ok s h4 (by assumption)), hb⟩

set_option maxHeartbeats 400000 in
theorem refOpen_any (s : ByteArray) (hs : s.size ≤ 70368744177664) (w : World) :
    Calls Try.prog 10 #[.string s] w fun e w' => e = .returned (openV s) ∧ Below w.heap.size w w' := by
  by_cases h4 : s.size < 4
  · go_enter Try.func10, Try.ntmps10
    go_wp2
    go_ret2
    exact ⟨ret_val (openV_cut s h4), Below.refl _ _⟩
  · go_enter Try.func10, Try.ntmps10
    go_wp2_with fail
    refine (refSeal_any _ (size_front s hs) _).mono ?_
    rintro e w' ⟨rfl, hb⟩
    go_wp2
    · go_ret2
      exact ⟨ret_val (openV_bad s h4 (by assumption)), hb⟩
    · go_ret2
      exact ⟨ret_val (openV_ok s h4 (by assumption)), hb⟩
end Go.Proofs.Ytogficnmbfpbjaa
