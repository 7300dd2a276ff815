/-
  What crc.Sum, crc.Seal and the reference's Seal compute, for every text of at most 2^46 bytes.
-/
import Derived.Test.YtogficnmbfpbjaaWalksa
import Derived.Test.YtogficnmbfpbjaaBytes

namespace Go.Proofs.Ytogficnmbfpbjaa
open Go.RowKit
set_option maxHeartbeats 400000 in
theorem sum_any (s : ByteArray) (hs : s.size ≤ maxLen) (w : World) :
    Calls Try.prog 13 #[.string s] w fun e w' => e = .returned (.int .u32 (sumI s.data.toList)) ∧ Below w.heap.size w w' := by
  obtain ⟨W1, cap, hconv, hown, hbel, hsz⟩ := bytes_row (P := Try.prog) w 9 33 5 s Try.underlying9 Try.underlying33 Try.underlying5 hs
  unfold maxLen at hs
  have hz : s.data.size = s.size := rfl
  have hcell : ∀ j (hj : j < s.size), W1.cell? ⟨w.heap.size, j, none⟩ = some (.int .u8 (s[j].toNat : Int)) := fun j hj => by
    rw [hown.cellAt j (by simpa using hj)]; simp [byteVal]; rfl
  have HC := Lib.hid hcell
  have HB := Lib.hid hbel
  clear hcell hbel hsz hown hz
  go_enter Try.func13, Try.ntmps13
  go_wp2_with fail
  go_loop [3, 10] (fun c i => ∃ k : Nat, k ≤ s.size ∧ i = .int .i64 k ∧ c = .int .u32 (runI 4294967295 (s.data.toList.take k))) (fun _ i => s.size - (intOf i).toNat)
  case atStart => exact ⟨0, Nat.zero_le _, rfl, rfl⟩
  case round =>
    obtain ⟨k, hk, rfl, rfl⟩ := hrel
    have hr := runI_bd (s.data.toList.take k)
    by_cases hlt : k < s.size
    · have hb := (s[k]).toNat_lt
      have hck := HC.out k hlt
      have HS : Hid (runI 4294967295 (s.data.toList.take (k + 1)) = stepI (runI 4294967295 (s.data.toList.take k)) (s[k].toNat : Int)) := by rw [take_snoc s k hlt, runI_snoc]; trivial
      go_wp2_with (go_at_call 17; refine (mstep _ _ (by omega) (by omega) (by omega) (by omega) _).mono ?_; rintro e w' ⟨rfl, rfl⟩)
      go_round
      case rel => exact ⟨k + 1, by omega, by go_num, by rw [HS.out]⟩
      case measure => simp [intOf]; omega
    · go_wp2
      go_ret
      exact ⟨ret_int (by rw [sumI_of, List.take_of_length_le (by simp; omega)]), HB.out⟩

/-- A number's four bytes, the lowest first. -/
def le4u (c : Nat) : List UInt8 := (Crcm.le4 c).map UInt8.ofNat
/-- A sealed text. -/
def sealL (l : List UInt8) : List UInt8 := l ++ le4u (Crcm.sum (nats l))
def sealB (s : ByteArray) : ByteArray := ⟨(sealL s.data.toList).toArray⟩

theorem Try.info5 : (Try.prog.info? 5).map (fun i => (i.zero, i.size, i.bytes)) = some (some (.int .u8 0), 1, 1) := by kernel_rfl

theorem sumI_bd (l : List UInt8) : 0 ≤ sumI l ∧ sumI l < 4294967296 := by
  unfold sumI
  have := Crcm.sum_lt (nats_bytes l)
  omega

theorem le4u_at (c k : Nat) (h : k < 4) : (le4u c).take (k + 1) = (le4u c).take k ++ [UInt8.ofNat (c / 2 ^ (8 * k) % 256)] := by
  match k, h with
  | 0, _ => simp [le4u, Crcm.le4]
  | 1, _ => simp [le4u, Crcm.le4]
  | 2, _ => simp [le4u, Crcm.le4]
  | 3, _ => simp [le4u, Crcm.le4]

theorem byteVal_le4 (l : List UInt8) (k : Nat) : byteVal (UInt8.ofNat (Crcm.sum (nats l) / 2 ^ (8 * k) % 256)) = .int .u8 (sumI l / 2 ^ (8 * k) % 256) := by
  unfold byteVal sumI
  have e : (UInt8.ofNat (Crcm.sum (nats l) / 2 ^ (8 * k) % 256)).toNat = Crcm.sum (nats l) / 2 ^ (8 * k) % 256 := by
    rw [UInt8.toNat_ofNat']; omega
  rw [e]
  simp

theorem rows_snoc (l : List UInt8) (k : Nat) (h : k < 4) : l.map byteVal ++ ((le4u (Crcm.sum (nats l))).take k).map byteVal ++ [Value.int .u8 (sumI l / 2 ^ (8 * k) % 256)] = l.map byteVal ++ ((le4u (Crcm.sum (nats l))).take (k + 1)).map byteVal := by
  rw [le4u_at _ _ h, List.map_append, ← byteVal_le4]
  simp

set_option maxHeartbeats 400000 in
theorem seal_any (s : ByteArray) (hs : s.size ≤ 70368744177664) (w : World) :
    Calls Try.prog 15 #[.string s] w fun e w' => e = .returned (.string (sealB s)) ∧ Below w.heap.size w w' := by
  obtain ⟨W1, cap, hconv, hown, hbel, hsz⟩ := bytes_row (P := Try.prog) w 9 33 5 s Try.underlying9 Try.underlying33 Try.underlying5 (by unfold maxLen; omega)
  have hsb := sumI_bd s.data.toList
  obtain ⟨i0, hi, hz0, hz1, hz2⟩ := info_parts Try.info5
  have HO := Lib.hid hown
  have HB := Lib.hid hbel
  have HZ := Lib.hid hsz
  clear hown hbel hsz
  go_enter Try.func15, Try.ntmps15
  go_wp2_with fail
  refine (sum_any s (by unfold maxLen; omega) _).mono ?_
  rintro e W2 ⟨rfl, hb2⟩
  have hown2 : ownsB W2 w.heap.size 5 (.slice (some ⟨w.heap.size, 0, none⟩) s.size cap) (s.data.toList.map byteVal) :=
    HO.out.kept hb2 fun k hk => by simp [Value.ownBlock] at hk; rw [HZ.out]; omega
  have hbel2 : Below w.heap.size w W2 := HB.out.trans (hb2.mono (by rw [HZ.out]; omega))
  have HO2 := Lib.hid hown2
  have HB2 := Lib.hid hbel2
  clear hown2 hbel2 hb2
  go_wp2_with fail
  go_loopw [3, 10] (fun v i wr => ∃ k : Nat, k ≤ 4 ∧ i = .int .i64 k ∧ ownsB wr w.heap.size 5 v (s.data.toList.map byteVal ++ ((le4u (Crcm.sum (nats s.data.toList))).take k).map byteVal) ∧ Below w.heap.size w wr) (fun _ i _ => 4 - (intOf i).toNat)
  case atStart => exact ⟨0, by omega, rfl, by simpa using HO2.out, HB2.out⟩
  case round =>
    obtain ⟨k, hk, rfl, hown3, hb3⟩ := hrel
    have HO3 := Lib.hid hown3
    have HB3 := Lib.hid hb3
    clear hown3 hb3
    have hxl : (s.data.toList.map byteVal ++ ((le4u (Crcm.sum (nats s.data.toList))).take k).map byteVal).length ≤ s.size + 4 := by
      have : ((le4u (Crcm.sum (nats s.data.toList))).take k).length ≤ k := List.length_take_le _ _
      have hz : s.data.size = s.size := rfl
      simp only [List.length_append, List.length_map, Array.length_toList, hz]; omega
    have hwz : w.heap.size ≤ wr.heap.size := HB3.out.size
    by_cases h4 : k < 4
    · go_wp2_with (at_builtin; refine wpList_append_ownB _ rfl _ _ 33 rfl w.heap.size 5 i0 (.int .u8 0) Try.underlying33 hi hz0 hz1 hz2 rfl _ _ rfl (HO3.out.alloc _) ⟨wr.heap.size, 0, none⟩ 1 [.int .u8 (sumI s.data.toList / 2 ^ (8 * k) % 256)] rfl ?c1 ?c2 ?c3 ?c4 ?_)
      case c1 => exact cell_one_new _ _ _
      case c2 => intro u hu; simp at hu; subst hu; rfl
      case c3 => simp only [List.length_cons, List.length_nil]; omega
      case c4 => simp; omega
      intro v' w1 hown4 hg4
      have HO4 := Lib.hid hown4
      have HG4 := Lib.hid hg4
      clear hown4 hg4
      have hw4 : Below w.heap.size w w1 := (HB3.out.alloc hwz _).grown HG4.out (by simp; omega) (fun q hq => (HO3.out.lt q hq).1)
      have HB4 := Lib.hid hw4
      clear hw4
      go_wp2
      go_roundw
      case rel => exact ⟨k + 1, by omega, by go_num, by have q := HO4.out; rw [← List.map_take, ← List.append_assoc, rows_snoc _ _ h4] at q; exact q, HB4.out⟩
      case measure => simp [intOf]; omega
    · obtain rfl : k = 4 := by omega
      have hback := bytes_back (P := Try.prog) wr 33 9 5 (sealL s.data.toList) Try.underlying33 Try.underlying5 Try.underlying9 (by
        have := HO3.out
        rw [List.take_of_length_le (by simp [le4u, Crcm.le4]), ← List.map_append] at this
        exact this)
      go_wp2
      go_ret
      exact ⟨rfl, HB3.out⟩

theorem le4_vals (l : List UInt8) : (le4u (Crcm.sum (nats l))).map byteVal = [Value.int IntKind.u8 (sumI l % 256), Value.int IntKind.u8 (sumI l / 256 % 256), Value.int IntKind.u8 (sumI l / 65536 % 256), Value.int IntKind.u8 (sumI l / 16777216)] := by
  have hb := sumI_bd l
  unfold sumI at hb ⊢
  generalize Crcm.sum (nats l) = c at *
  have e : ∀ x : Nat, x < 256 → (UInt8.ofNat x).toNat = x := fun x hx => by rw [UInt8.toNat_ofNat']; omega
  simp only [le4u, Crcm.le4, List.map_cons, List.map_nil, byteVal]
  rw [e _ (by omega), e _ (by omega), e _ (by omega), e _ (by omega)]
  have e3 : c / 16777216 % 256 = c / 16777216 := by omega
  rw [e3]
  simp

theorem sealB_eq (s : ByteArray) : s ++ (⟨(le4u (Crcm.sum (nats s.data.toList))).toArray⟩ : ByteArray) = sealB s := by
  unfold sealB sealL
  have e : s = ⟨s.data.toList.toArray⟩ := by simp
  conv => lhs; rw [e]
  rw [ByteArray.mk_append_mk]

theorem ownsB_lit (w : World) (e : TypeId) (xs : List Value) (hm : xs.length ≤ maxLen) : ownsB (w.alloc (.cells xs.toArray e)) w.heap.size e (.slice (some ⟨w.heap.size, 0, none⟩) xs.length xs.length) xs :=
  ⟨w.heap.size, xs.length, xs.toArray, (0, 0), rfl, Nat.le_refl _, heap_alloc_new w _, .inl rfl, Nat.le_refl _, hm, by simp, by simp⟩

set_option maxHeartbeats 400000 in
theorem refSeal_any (s : ByteArray) (hs : s.size ≤ 70368744177664) (w : World) :
    Calls Try.prog 16 #[.string s] w fun e w' => e = .returned (.string (sealB s)) ∧ Below w.heap.size w w' := by
  have hsb := sumI_bd s.data.toList
  have hrow := ownsB_lit w 5 ((le4u (Crcm.sum (nats s.data.toList))).map byteVal) (by simp [le4u, Crcm.le4, maxLen])
  have hback := bytes_back (P := Try.prog) _ 33 9 5 (le4u (Crcm.sum (nats s.data.toList))) Try.underlying33 Try.underlying5 Try.underlying9 hrow
  rw [le4_vals] at hback
  have hback2 : Sem.run Try.prog (convert 33 9 (.slice (some ⟨w.heap.size, 0, none⟩) 4 4)) (w.alloc (.cells #[Value.int IntKind.u8 (sumI s.data.toList % 256), Value.int IntKind.u8 (sumI s.data.toList / 256 % 256), Value.int IntKind.u8 (sumI s.data.toList / 65536 % 256), Value.int IntKind.u8 (sumI s.data.toList / 16777216)] 5)) = .ok (.string ⟨(le4u (Crcm.sum (nats s.data.toList))).toArray⟩) (w.alloc (.cells #[Value.int IntKind.u8 (sumI s.data.toList % 256), Value.int IntKind.u8 (sumI s.data.toList / 256 % 256), Value.int IntKind.u8 (sumI s.data.toList / 65536 % 256), Value.int IntKind.u8 (sumI s.data.toList / 16777216)] 5)) := hback
  have HE := Lib.hid (sealB_eq s)
  have hsz : (ByteArray.mk (le4u (Crcm.sum (nats s.data.toList))).toArray).size = 4 := rfl
  clear hrow hback
  go_enter Try.func16, Try.ntmps16
  go_wp2_with fail
  refine (refSum_any s (by unfold maxLen; omega) _).mono ?_
  rintro e w' ⟨rfl, rfl⟩
  go_wp2
  go_ret
  exact ⟨by rw [HE.out]; rfl, Below.alloc (Below.refl _ _) (Nat.le_refl _) _⟩


end Go.Proofs.Ytogficnmbfpbjaa
