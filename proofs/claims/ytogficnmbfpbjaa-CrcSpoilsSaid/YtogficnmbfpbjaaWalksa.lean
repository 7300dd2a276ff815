/-
  What the program's and the reference's Step, and the reference's Sum, compute: the plain functions of the text Plain, for every byte, every 32-bit state, every text.
-/
import Derived.Test.YtogficnmbfpbjaaRows
import Derived.Test.YtogficnmbfpbjaaPlain
import Derived.WalkKit
import Derived.WalkSpells
import Derived.WalkLawsBesides
import Derived.Laws.BitsAllLaws
import Derived.Lib.Hide

namespace Go.Proofs.Ytogficnmbfpbjaa
open Go.RowKit

theorem iter_succ (k : Nat) : ∀ x, Crcm.iter (k + 1) x = Crcm.lsh (Crcm.iter k x) := by
  induction k with
  | zero => intro x; rfl
  | succ k ih => intro x; exact ih (Crcm.lsh x)

theorem bitstep (x : Nat) (hx : x < 4294967296) : bits .xor .u32 ((x : Int) / 2) (bits .and .u32 3988292384 (-bits .and .u32 (x : Int) 1 % 4294967296)) = ((Crcm.lsh x : Nat) : Int) := by
  rw [u32_and (x : Int) 1 (by omega) (by omega) (by omega) (by omega)]
  have e : (x : Int).toNat &&& (1 : Int).toNat = x % 2 := by rw [Int.toNat_natCast]; exact nat_mask1 x
  rw [e]
  unfold Crcm.lsh
  rcases Nat.mod_two_eq_zero_or_one x with h | h
  · rw [h, if_neg (by omega)]
    have e0 : -(((0 : Nat) : Int)) % 4294967296 = 0 := by decide
    rw [e0, u32_and _ _ (by omega) (by omega) (by omega) (by omega), u32_xor _ _ (by omega) (by omega) (by simp) (by simp)]
    simp; omega
  · rw [h, if_pos rfl]
    have e0 : -(((1 : Nat) : Int)) % 4294967296 = 4294967295 := by decide
    have e1 : bits .and .u32 3988292384 4294967295 = 3988292384 := by decide
    rw [e0, e1, u32_xor _ _ (by omega) (by omega) (by omega) (by omega)]
    have e2 : ((x : Int) / 2).toNat = x / 2 := by omega
    rw [e2]; rfl

/-- A byte's step, of two numbers. -/
def stepI (c b : Int) : Int := ((Crcm.step c.toNat b.toNat : Nat) : Int)

theorem stepI_bd {c b : Int} (hc : 0 ≤ c) (hc2 : c < 4294967296) (hb : 0 ≤ b) (hb2 : b < 256) : 0 ≤ stepI c b ∧ stepI c b < 4294967296 := by
  unfold stepI
  have := Crcm.step_lt (c := c.toNat) (b := b.toNat) (by omega) (by omega)
  omega

theorem ret_int {k : IntKind} {a b : Int} (h : a = b) : Ending.returned (.int k a) = .returned (.int k b) := by rw [h]

set_option maxHeartbeats 400000 in
theorem mstep (c b : Int) (hc : 0 ≤ c) (hc2 : c < 4294967296) (hb : 0 ≤ b) (hb2 : b < 256) (w : World) :
    Calls Try.prog 17 #[.int .u32 c, .int .u8 b] w fun e w' => e = .returned (.int .u32 (stepI c b)) ∧ w = w' := by
  have hx : bits BinOp.xor IntKind.u32 c b = ((Crcm.iter 0 (c.toNat ^^^ b.toNat) : Nat) : Int) := u32_xor c b hc hc2 hb (by omega)
  have hlt : ∀ k, Crcm.iter k (c.toNat ^^^ b.toNat) < 4294967296 := fun k => Crcm.iter_lt k (Crcm.xor_lt (by omega) (by omega))
  have HX := Lib.hid hx
  have HL := Lib.hid hlt
  clear hx hlt
  go_enter Try.func17, Try.ntmps17
  go_wp2
  go_loop [5, 10] (fun x i => ∃ k : Nat, k ≤ 8 ∧ i = .int .i64 k ∧ x = .int .u32 ((Crcm.iter k (c.toNat ^^^ b.toNat) : Nat) : Int)) (fun _ i => 8 - (intOf i).toNat)
  case atStart => exact ⟨0, by omega, rfl, by rw [HX.out]⟩
  case round =>
    obtain ⟨k, hk, rfl, rfl⟩ := hrel
    go_wp2
    · go_round
      case rel => exact ⟨k + 1, by omega, by go_num, by rw [bitstep _ (HL.out k), iter_succ]⟩
      case measure => simp [intOf]; omega
    · go_ret
      exact ⟨ret_int (by rw [show k = 8 by omega]; rfl), rfl⟩

set_option maxHeartbeats 400000 in
theorem step_any (c b : Int) (hc : 0 ≤ c) (hc2 : c < 4294967296) (hb : 0 ≤ b) (hb2 : b < 256) (w : World) :
    Calls Try.prog 11 #[.int .u32 c, .int .u8 b] w fun e w' => e = .returned (.int .u32 (stepI c b)) ∧ w = w' := by
  go_enter Try.func11, Try.ntmps11
  go_wp2_with (go_at_call 17; refine (mstep _ _ (by omega) (by omega) (by omega) (by omega) _).mono ?_; rintro e w' ⟨rfl, rfl⟩)
  go_ret
  exact ⟨rfl, rfl⟩

theorem bitref (x : Nat) (hx : x < 4294967296) : bits .xor .u32 ((x : Int) / 2) 3988292384 = ((x / 2 ^^^ 3988292384 : Nat) : Int) := by
  rw [u32_xor _ _ (by omega) (by omega) (by omega) (by omega)]
  have e2 : ((x : Int) / 2).toNat = x / 2 := by omega
  rw [e2]; rfl

set_option maxHeartbeats 400000 in
theorem refStep_any (c b : Int) (hc : 0 ≤ c) (hc2 : c < 4294967296) (hb : 0 ≤ b) (hb2 : b < 256) (w : World) :
    Calls Try.prog 12 #[.int .u32 c, .int .u8 b] w fun e w' => e = .returned (.int .u32 (stepI c b)) ∧ w = w' := by
  have hx : bits BinOp.xor IntKind.u32 c b = ((Crcm.iter 0 (c.toNat ^^^ b.toNat) : Nat) : Int) := u32_xor c b hc hc2 hb (by omega)
  have hlt : ∀ k, Crcm.iter k (c.toNat ^^^ b.toNat) < 4294967296 := fun k => Crcm.iter_lt k (Crcm.xor_lt (by omega) (by omega))
  have HX := Lib.hid hx
  have HL := Lib.hid hlt
  clear hx hlt
  go_enter Try.func12, Try.ntmps12
  go_wp2
  go_loop [5, 6] (fun x i => ∃ k : Nat, k ≤ 8 ∧ i = .int .i64 k ∧ x = .int .u32 ((Crcm.iter k (c.toNat ^^^ b.toNat) : Nat) : Int)) (fun _ i => 8 - (intOf i).toNat)
  case atStart => exact ⟨0, by omega, rfl, by rw [HX.out]⟩
  case round =>
    obtain ⟨k, hk, rfl, rfl⟩ := hrel
    have hlk := HL.out k
    go_wp2
    · have ho := beq_iff_eq.1 (show ((Crcm.iter k (c.toNat ^^^ b.toNat) : Nat) : Int) % 2 == 1 from by assumption)
      go_round
      case rel => exact ⟨k + 1, by omega, by go_num, by rw [bitref _ hlk, iter_succ, Crcm.lsh, if_pos (by omega)]⟩
      case measure => simp [intOf]; omega
    · have ho := beq_eq_false_iff_ne.1 (show (((Crcm.iter k (c.toNat ^^^ b.toNat) : Nat) : Int) % 2 == 1) = false from by assumption)
      go_round
      case rel => exact ⟨k + 1, by omega, by go_num, by rw [iter_succ, Crcm.lsh, if_neg (by omega)]; rfl⟩
      case measure => simp [intOf]; omega
    · go_ret
      exact ⟨ret_int (by rw [show k = 8 by omega]; rfl), rfl⟩

/-- The bytes of a text, as numbers. -/
def nats (l : List UInt8) : List Nat := l.map UInt8.toNat

theorem nats_bytes (l : List UInt8) : Crcm.Bytes (nats l) := by
  intro b hb
  obtain ⟨x, _, rfl⟩ := List.mem_map.1 hb
  exact x.toNat_lt

def runI (c : Nat) (l : List UInt8) : Int := ((Crcm.run c (nats l) : Nat) : Int)

theorem runI_bd (l : List UInt8) : 0 ≤ runI 4294967295 l ∧ runI 4294967295 l < 4294967296 := by
  unfold runI
  have := Crcm.run_lt (nats l) (c := 4294967295) (by omega) (nats_bytes l)
  omega

theorem take_snoc (s : ByteArray) (k : Nat) (h : k < s.size) : s.data.toList.take (k + 1) = s.data.toList.take k ++ [s[k]] := by
  rw [List.take_succ_eq_append_getElem (by simpa using h)]; rfl

theorem runI_snoc (l : List UInt8) (b : UInt8) : runI 4294967295 (l ++ [b]) = stepI (runI 4294967295 l) (b.toNat : Int) := by
  unfold runI stepI nats
  rw [List.map_append, Crcm.run_append]
  simp [Crcm.run]

def sumI (l : List UInt8) : Int := ((Crcm.sum (nats l) : Nat) : Int)

theorem sumI_of (l : List UInt8) : bits BinOp.xor IntKind.u32 (runI 4294967295 l) 4294967295 = sumI l := by
  have h := runI_bd l
  rw [u32_xor _ _ h.1 h.2 (by omega) (by omega)]
  unfold runI sumI Crcm.sum
  rw [Int.toNat_natCast]; rfl

set_option maxHeartbeats 400000 in
theorem refSum_any (s : ByteArray) (hs : s.size ≤ maxLen) (w : World) :
    Calls Try.prog 14 #[.string s] w fun e w' => e = .returned (.int .u32 (sumI s.data.toList)) ∧ w = w' := by
  unfold maxLen at hs
  go_enter Try.func14, Try.ntmps14
  go_wp2

  go_loop [3, 4] (fun c i => ∃ k : Nat, k ≤ s.size ∧ i = .int .i64 k ∧ c = .int .u32 (runI 4294967295 (s.data.toList.take k))) (fun _ i => s.size - (intOf i).toNat)
  case atStart => exact ⟨0, Nat.zero_le _, rfl, rfl⟩
  case round =>
    obtain ⟨k, hk, rfl, rfl⟩ := hrel
    have hr := runI_bd (s.data.toList.take k)
    by_cases hlt : k < s.size
    · have hb := (s[k]).toNat_lt
      have HS : Hid (runI 4294967295 (s.data.toList.take (k + 1)) = stepI (runI 4294967295 (s.data.toList.take k)) (s[k].toNat : Int)) := by rw [take_snoc s k hlt, runI_snoc]; trivial
      go_wp2_with (go_at_call 12; refine (refStep_any _ _ (by omega) (by omega) (by omega) (by omega) _).mono ?_; rintro e w' ⟨rfl, rfl⟩)
      go_round
      case rel => exact ⟨k + 1, by omega, by go_num, by rw [HS.out]⟩
      case measure => simp [intOf]; omega
    · go_wp2
      go_ret
      exact ⟨ret_int (by rw [sumI_of, List.take_of_length_le (by simp; omega)]), rfl⟩

end Go.Proofs.Ytogficnmbfpbjaa
