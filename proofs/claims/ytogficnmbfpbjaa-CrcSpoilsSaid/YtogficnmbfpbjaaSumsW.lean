/-
  The walk of CrcSums: it answers true at every two texts and every two states; nothing that was there is changed.
-/
import Derived.Test.YtogficnmbfpbjaaGoesW
import Derived.RegionTactic
import Derived.Deep.RegionHeld3

namespace Go.Proofs.Ytogficnmbfpbjaa
open Go.RowKit

def xorL (s t : List UInt8) : List UInt8 := List.zipWith (· ^^^ ·) s t
def zeroL (n : Nat) : List UInt8 := List.replicate n 0

/-- A row of noughts. -/
theorem ownsB_made (w : World) (e : TypeId) (n : Nat) (hn : n ≤ maxLen) : ownsB (w.alloc (.cells (madeCells #[.int .u8 0] n) e)) w.heap.size e (.slice (some ⟨w.heap.size, 0, none⟩) n n) ((zeroL n).map byteVal) := by
  have hz : (zeroL n).length = n := by simp [zeroL]
  refine ⟨w.heap.size, n, madeCells #[.int .u8 0] n, (0, 0), by simp [hz], Nat.le_refl _, heap_alloc_new w _, .inl rfl, by simp [hz], hn, size_madeCells _ _, ?_⟩
  apply List.ext_getElem
  · simp [hz, size_madeCells]
  · intro i h1 h2
    have : i < n := by simpa [hz] using h2
    have e : i % 1 = 0 := Nat.mod_one i
    simp [madeCells, zeroL, byteVal, e]

/-- The world behind k rounds of the law's loop: the row of the differences, the box of the two states. -/
structure Mid (s t : ByteArray) (c0 c1 : Int) (w : World) (k : Nat) (wr : World) : Prop where
  row : ownsB wr (w.heap.size + 1) 5 (.slice (some ⟨w.heap.size + 1, 0, none⟩) s.size s.size) (((xorL s.data.toList t.data.toList).take k ++ zeroL (s.size - k)).map byteVal)
  bel : Below w.heap.size w wr
  c0 : wr.cell? ⟨w.heap.size, 0, none⟩ = some (.int .u32 c0)
  c1 : wr.cell? ⟨w.heap.size, 1, none⟩ = some (.int .u32 c1)
  size : w.heap.size + 1 < wr.heap.size

theorem mid_start (s t : ByteArray) (c0 c1 : Int) (w : World) (hs : s.size ≤ 2 ^ 63 - 1) : Mid s t c0 c1 w 0 ((w.alloc (Obj.cells #[Value.int IntKind.u32 c0, Value.int IntKind.u32 c1] 35)).alloc (Obj.cells (madeCells #[Value.int IntKind.u8 0] s.size) 5)) := by
  have h1 := ownsB_made (w.alloc (Obj.cells #[Value.int IntKind.u32 c0, Value.int IntKind.u32 c1] 35)) 5 s.size hs
  have e : (w.alloc (Obj.cells #[Value.int IntKind.u32 c0, Value.int IntKind.u32 c1] 35)).heap.size = w.heap.size + 1 := by simp
  rw [e] at h1
  refine ⟨by simpa using h1, Below.alloc (Below.alloc (Below.refl _ _) (Nat.le_refl _) _) (by simp) _, ?_, ?_, by simp⟩
  · simp
  · simp

theorem row_len (s t : ByteArray) (k : Nat) (hk : k ≤ s.size) (ht : s.size = t.size) : ((xorL s.data.toList t.data.toList).take k ++ zeroL (s.size - k)).length = s.size := by
  have e1 : s.data.size = s.size := rfl
  have e2 : t.data.size = t.size := rfl
  simp [xorL, zeroL, e1, e2]; omega

theorem Mid.slot {s t : ByteArray} {c0 c1 : Int} {w wr : World} {k : Nat} (h : Mid s t c0 c1 w k wr) (hk : k < s.size) (ht : s.size = t.size) :
    wr.cell? ⟨w.heap.size + 1, k, none⟩ = some (.int .u8 0) ∧ wr.frozen? ⟨w.heap.size + 1, k, none⟩ = false := by
  have hl := row_len s t k (by omega) ht
  have hk' : k < (((xorL s.data.toList t.data.toList).take k ++ zeroL (s.size - k)).map byteVal).length := by rw [List.length_map, hl]; exact hk
  refine ⟨?_, h.row.frozenAt k hk'⟩
  rw [h.row.cellAt k hk']
  have e1 : s.data.size = s.size := rfl
  have e2 : t.data.size = t.size := rfl
  have hx : (xorL s.data.toList t.data.toList).length = s.size := by simp [xorL, e1, e2]; omega
  rw [List.getElem_map, List.getElem_append_right (by simp [hx]; omega)]
  simp [zeroL, byteVal]

theorem byteVal_xor (a b : UInt8) : Value.int .u8 (bits BinOp.xor IntKind.u8 (a.toNat : Int) (b.toNat : Int)) = byteVal (a ^^^ b) := by
  unfold byteVal
  rw [u8_xor_nat _ _ a.toNat_lt b.toNat_lt, UInt8.toNat_xor]

theorem Mid.next {s t : ByteArray} {c0 c1 : Int} {w wr : World} {k : Nat} (h : Mid s t c0 c1 w k wr) (hk : k < s.size) (hk2 : k < t.size) (ht : s.size = t.size) :
    Mid s t c0 c1 w (k + 1) ((wr.setCell ⟨w.heap.size + 1, k, none⟩ (.int .u8 (bits BinOp.xor IntKind.u8 (s[k].toNat : Int) (t[k].toNat : Int)))).drew) := by
  have e1 : s.data.size = s.size := rfl
  have e2 : t.data.size = t.size := rfl
  have hx : (xorL s.data.toList t.data.toList).length = s.size := by simp [xorL, e1, e2]; omega
  have hrow : ((xorL s.data.toList t.data.toList).take k ++ zeroL (s.size - k)).set k (s[k] ^^^ t[k]) = (xorL s.data.toList t.data.toList).take (k + 1) ++ zeroL (s.size - (k + 1)) := by
    have hk1 : k < (xorL s.data.toList t.data.toList).length := by omega
    rw [List.take_succ_eq_append_getElem hk1]
    have ez : zeroL (s.size - k) = 0 :: zeroL (s.size - (k + 1)) := by
      unfold zeroL
      rw [show s.size - k = (s.size - (k + 1)) + 1 by omega, List.replicate_succ]
    have e3 : (xorL s.data.toList t.data.toList)[k] = s[k] ^^^ t[k] := by simp [xorL]; rfl
    rw [ez, List.set_append_right _ _ (by simp; omega), e3]
    have e4 : k - (List.take k (xorL s.data.toList t.data.toList)).length = 0 := by simp; omega
    rw [e4]
    simp
  refine ⟨?_, (h.bel.setCell (by simp) _).drew, ?_, ?_, by simpa [World.setCell] using h.size⟩
  · have := (h.row.stored k (.int .u8 (bits BinOp.xor IntKind.u8 (s[k].toNat : Int) (t[k].toNat : Int)))).drew
    rw [byteVal_xor, ← List.map_set, hrow, ← byteVal_xor] at this
    exact this
  · rw [World.cell?_drew, World.cell?_of_block (w := wr) (Below.heap_setCell _ _ _ _ (by simp))]; exact h.c0
  · rw [World.cell?_drew, World.cell?_of_block (w := wr) (Below.heap_setCell _ _ _ _ (by simp))]; exact h.c1

theorem Mid.kept {s t : ByteArray} {c0 c1 : Int} {w wr w1 : World} {k : Nat} (h : Mid s t c0 c1 w k wr) (hb : Below wr.heap.size wr w1) : Mid s t c0 c1 w k w1 := by
  have hs := h.size
  have hz := hb.size
  refine ⟨h.row.kept hb fun q hq => by simp [Value.ownBlock] at hq; omega, h.bel.trans (hb.mono h.bel.size), ?_, ?_, by omega⟩
  · rw [hb.cell (by show w.heap.size < _; omega)]; exact h.c0
  · rw [hb.cell (by show w.heap.size < _; omega)]; exact h.c1

theorem Mid.alloc {s t : ByteArray} {c0 c1 : Int} {w wr : World} {k : Nat} (h : Mid s t c0 c1 w k wr) (o : Obj) : Mid s t c0 c1 w k (wr.alloc o) :=
  h.kept (Below.alloc (Below.refl _ _) (Nat.le_refl _) o)

theorem Mid.drew {s t : ByteArray} {c0 c1 : Int} {w wr : World} {k : Nat} (h : Mid s t c0 c1 w k wr) : Mid s t c0 c1 w k wr.drew :=
  h.kept (Below.drew (Below.refl _ _))

theorem Mid.back {s t X : ByteArray} {c0 c1 : Int} {w wr : World} (h : Mid s t c0 c1 w s.size wr) (ht : s.size = t.size) (hX : X = ⟨(xorL s.data.toList t.data.toList).toArray⟩) :
    (convert 33 9 (.slice (some ⟨w.heap.size + 1, 0, none⟩) s.size s.size)).run Try.prog wr = .ok (.string X) wr := by
  have e1 : s.data.size = s.size := rfl
  have e2 : t.data.size = t.size := rfl
  have hx : (xorL s.data.toList t.data.toList).length = s.size := by simp [xorL, e1, e2]; omega
  have hrow := h.row
  rw [List.take_of_length_le (by omega), Nat.sub_self, show zeroL 0 = [] from rfl, List.append_nil] at hrow
  rw [hX]
  exact bytes_back (P := Try.prog) wr 33 9 5 _ Try.underlying33 Try.underlying5 Try.underlying9 hrow

theorem xor_rows (s t : List UInt8) : nats (xorL s t) = List.zipWith (· ^^^ ·) (nats s) (nats t) := by
  unfold nats xorL
  induction s generalizing t with
  | nil => rfl
  | cons a s ih => cases t with
    | nil => rfl
    | cons b t => simp only [List.zipWith_cons_cons, List.map_cons, ih t, UInt8.toNat_xor]

theorem xor_self_zeros (l : List UInt8) : List.zipWith (· ^^^ ·) (nats (zeroL l.length)) (nats l) = nats l := by
  unfold nats zeroL
  induction l with
  | nil => rfl
  | cons a l ih => simp only [List.length_cons, List.replicate_succ, List.map_cons, List.zipWith_cons_cons, ih]; simp

/-- The sums of any two of them, XOR, are the sum of their XOR, XOR that of noughts. -/
theorem sums_xor (s t : List UInt8) (h : s.length = t.length) : bits BinOp.xor IntKind.u32 (sumI s) (sumI t) = bits BinOp.xor IntKind.u32 (sumI (xorL s t)) (sumI (zeroL s.length)) := by
  have b1 := sumI_bd s
  have b2 := sumI_bd t
  have b3 := sumI_bd (xorL s t)
  have b4 := sumI_bd (zeroL s.length)
  rw [u32_xor _ _ b1.1 b1.2 b2.1 b2.2, u32_xor _ _ b3.1 b3.2 b4.1 b4.2]
  unfold sumI
  simp only [Int.toNat_natCast]
  congr 1
  unfold Crcm.sum
  rw [Crcm.xor4, Crcm.xor4 (Crcm.run 4294967295 (nats (xorL s t))), Crcm.run_xor _ _ _ _ (by simp [nats, h]), Crcm.run_xor _ _ _ _ (by simp [nats, xorL, zeroL, h])]
  simp only [Nat.xor_self, Nat.xor_zero]
  rw [xor_rows]
  congr 1
  have hl : (xorL s t).length = s.length := by simp [xorL, h]
  have e := xor_self_zeros (xorL s t)
  rw [hl, xor_rows] at e
  conv => lhs; rw [← e]
  rw [List.zipWith_comm_of_comm (fun a b => Nat.xor_comm a b)]

theorem xor_bd (a b : Int) (h0 : 0 ≤ a) (h0b : a < 4294967296) (h1 : 0 ≤ b) (h1b : b < 4294967296) : 0 ≤ bits BinOp.xor IntKind.u32 a b ∧ bits BinOp.xor IntKind.u32 a b < 4294967296 := by
  rw [u32_xor _ _ h0 h0b h1 h1b]
  have := Crcm.xor_lt (x := a.toNat) (y := b.toNat) (by omega) (by omega)
  omega

theorem step_lin (a b : Int) (h0 : 0 ≤ a) (h0b : a < 4294967296) (h1 : 0 ≤ b) (h1b : b < 4294967296) : (bits BinOp.xor IntKind.u32 (stepI a 0) (stepI b 0) == stepI (bits BinOp.xor IntKind.u32 a b) 0) = true := by
  have b1 := stepI_bd h0 h0b (b := 0) (by omega) (by omega)
  have b2 := stepI_bd h1 h1b (b := 0) (by omega) (by omega)
  rw [beq_iff_eq, u32_xor _ _ b1.1 b1.2 b2.1 b2.2, u32_xor _ _ h0 h0b h1 h1b]
  unfold stepI
  simp only [Int.toNat_natCast]
  rw [Crcm.step_xor]
  simp

theorem step_inj (a b : Int) (h0 : 0 ≤ a) (h0b : a < 4294967296) (h1 : 0 ≤ b) (h1b : b < 4294967296) : ((stepI a 0 == stepI b 0) == (a == b)) = true := by
  have key : stepI a 0 = stepI b 0 ↔ a = b := by
    constructor
    · intro h
      unfold stepI Crcm.step at h
      have := Crcm.iter_inj (k := 8) (x := a.toNat ^^^ (0 : Int).toNat) (y := b.toNat ^^^ (0 : Int).toNat) (by simp; omega) (by simp; omega) (by omega)
      simp at this
      omega
    · rintro rfl; rfl
  by_cases h : a = b
  · subst h; simp
  · have h' : ¬ stepI a 0 = stepI b 0 := fun e => h (key.1 e)
    rw [beq_iff_eq, beq_eq_false_iff_ne.2 h, beq_eq_false_iff_ne.2 h']

set_option maxHeartbeats 1000000 in
theorem sums_any (s t : ByteArray) (c0 c1 : Int) (hs : s.size ≤ maxLen) (ht : t.size ≤ maxLen) (h0 : 0 ≤ c0) (h0b : c0 < 4294967296) (h1 : 0 ≤ c1) (h1b : c1 < 4294967296) (w : World) :
    Calls Try.prog 6 #[.string s, .string t, .agg #[.int .u32 c0, .int .u32 c1]] w fun e w' => e = .returned (.bool true) ∧ Below w.heap.size w w' := by
  unfold maxLen at hs ht
  by_cases h : 300 < s.size
  · go_enter Try.func6, Try.ntmps6
    go_wp2_with fail
    refine (live_any _).mono ?_
    rintro e w1 ⟨rfl, hb1⟩
    go_wp2_with fail
    go_ret
    exact ⟨rfl, (Below.alloc (Below.refl _ _) (Nat.le_refl _) _).trans (hb1.mono (by simp))⟩
  · by_cases h' : s.size = t.size
    · have d1 : decide (300 < (s.size : Int)) = false := by simp; omega
      have d2 : ((s.size : Int) != (t.size : Int)) = false := by simp; omega
      have hmk : ∀ W, (Instr.makeSlice 33 (.int .i64 s.size) (.int .i64 s.size)).run Try.prog W = .ok (.slice (some ⟨W.heap.size, 0, none⟩) s.size s.size) (W.alloc (.cells (madeCells #[.int .u8 0] s.size) 5)) := fun W => by
        obtain ⟨i0, hi, hz0, hz1, hz2⟩ := info_parts Try.info5
        have := run_make (P := Try.prog) W 33 5 i0 (.int .u8 0) Try.underlying33 hi hz0 .i64 .i64 s.size s.size (by omega) (by omega) (by rw [hz2]; omega) (by omega)
        rw [this, hz1]; simp [Value.cells]
      have H' := Lib.hid h'
      clear h'
      go_enter Try.func6, Try.ntmps6
      go_wp2_with fail
      go_loopw [8] (fun i wr => ∃ k : Nat, k ≤ s.size ∧ i = .int .i64 k ∧ Mid s t c0 c1 w k wr) (fun i _ => s.size - (intOf i).toNat)
      case atStart => exact ⟨0, by omega, rfl, mid_start s t c0 c1 w hs⟩
      case round =>
        obtain ⟨k, hk, rfl, hmid⟩ := hrel
        have HM := Lib.hid hmid
        clear hmid
        by_cases hlt : k < s.size
        · have hlt2 : k < t.size := by have := H'.out; omega
          obtain ⟨hcell, hfr⟩ := HM.out.slot hlt H'.out
          have i1 : (0 : Int) ≤ (k : Int) := by omega
          have i2 : (k : Int) < (s.size : Int) := by omega
          have i3 : (k : Int) < (t.size : Int) := by omega
          go_wp2_with fail
          go_region
          have HN := Lib.hid (HM.out.next hlt hlt2 H'.out)
          go_wp2
          go_roundw
          case rel => exact ⟨k + 1, by omega, by go_num, HN.out⟩
          case measure => simp [intOf]; omega
        · obtain rfl : k = s.size := by omega
          have hrow := HM.out.row
          have e1 : s.data.size = s.size := rfl
          have e2 : t.data.size = t.size := rfl
          have ee : s.data.toList.length = t.data.toList.length := by have := H'.out; simp [e1, e2]; omega
          have hx : (xorL s.data.toList t.data.toList).length = s.size := by have := H'.out; simp [xorL, e1, e2]; omega
          rw [List.take_of_length_le (by omega), Nat.sub_self, show zeroL 0 = [] from rfl, List.append_nil] at hrow
          have hsx := sums_xor s.data.toList t.data.toList ee
          have esl : s.data.toList.length = s.size := by simp [e1]
          rw [esl] at hsx
          obtain ⟨X, hX⟩ : ∃ X : ByteArray, X = ⟨(xorL s.data.toList t.data.toList).toArray⟩ := ⟨_, rfl⟩
          obtain ⟨Z, hZ⟩ : ∃ Z : ByteArray, Z = ⟨(zeroL s.size).toArray⟩ := ⟨_, rfl⟩
          have hXl : X.data.toList = xorL s.data.toList t.data.toList := by rw [hX]
          have hZl : Z.data.toList = zeroL s.size := by rw [hZ]
          have hXs : X.size ≤ maxLen := by rw [hX]; show (xorL s.data.toList t.data.toList).toArray.size ≤ _; simp [hx, maxLen]; omega
          have hZs : Z.size ≤ maxLen := by rw [hZ]; show (zeroL s.size).toArray.size ≤ _; simp [zeroL, maxLen]; omega
          have hss : s.size ≤ maxLen := hs
          have hts : t.size ≤ maxLen := ht
          have hback0 : ∀ W : World, (convert 33 9 (.slice (some ⟨W.heap.size, 0, none⟩) s.size s.size)).run Try.prog (W.alloc (.cells (madeCells #[.int .u8 0] s.size) 5)) = .ok (.string Z) (W.alloc (.cells (madeCells #[.int .u8 0] s.size) 5)) := fun W => by
            rw [hZ]
            exact bytes_back (P := Try.prog) _ 33 9 5 (zeroL s.size) Try.underlying33 Try.underlying5 Try.underlying9 (ownsB_made W 5 s.size hs)
          rw [← hXl, ← hZl] at hsx
          have HSX := Lib.hid hsx
          rw [← hXl] at hrow
          have HR := Lib.hid hrow
          have HX := Lib.hid hX
          clear hsx hX hZ hXl hZl hrow esl hx ee e1 e2
          have hq : (bits BinOp.xor IntKind.u32 (sumI s.data.toList) (sumI t.data.toList) != bits BinOp.xor IntKind.u32 (sumI X.data.toList) (sumI Z.data.toList)) = false := by rw [HSX.out]; simp
          have hxb := xor_bd c0 c1 h0 h0b h1 h1b
          have hxb1 := hxb.1
          have hxb2 := hxb.2
          have hE1 := step_lin c0 c1 h0 h0b h1 h1b
          have hE2 := step_inj c0 c1 h0 h0b h1 h1b
          clear hxb
          have HM2 := (HM.out.alloc (Obj.cells (madeCells #[Value.int IntKind.u8 0] s.size) 5)).drew
          clear HM HR
          go_wp2_with fail
          go_region_held3 (fun w' => (convert 33 9 (.slice (some ⟨w.heap.size + 1, 0, none⟩) s.size s.size)).run Try.prog w' = .ok (.string X) w') (first | exact HM2.back H'.out HX.out)
            (first | (go_at_call 13; refine (sum_any _ (by first | exact hss | exact hts | exact hXs | exact hZs) _).mono ?_; rintro e w1 ⟨rfl, hb1⟩; replace HM2 := HM2.kept hb1; clear hb1))
          go_wp2_with fail
          replace HM2 := HM2.drew
          go_region_held3 (fun w' => w'.cell? ⟨w.heap.size, 0, none⟩ = some (.int .u32 c0) ∧ w'.cell? ⟨w.heap.size, 1, none⟩ = some (.int .u32 c1)) (first | exact ⟨HM2.c0, HM2.c1⟩)
            (first | (go_at_call 11; refine (step_any _ _ (by omega) (by omega) (by omega) (by omega) _).mono ?_; rintro e w' ⟨rfl, rfl⟩) | (go_at_call 8; refine (live_any _).mono ?_; rintro e w1 ⟨rfl, hb1⟩; replace HM2 := HM2.kept hb1; clear hb1))
          go_wp2_with fail
          go_ret
          exact ⟨rfl, HM2.bel⟩
    · have d1 : decide (300 < (s.size : Int)) = false := by simp; omega
      have d2 : ((s.size : Int) != (t.size : Int)) = true := by simp; omega
      go_enter Try.func6, Try.ntmps6
      go_wp2_with fail
      refine (live_any _).mono ?_
      rintro e w1 ⟨rfl, hb1⟩
      go_wp2_with fail
      go_ret
      exact ⟨rfl, (Below.alloc (Below.refl _ _) (Nat.le_refl _) _).trans (hb1.mono (by simp))⟩

theorem sums_row (s t : ByteArray) (c0 c1 : Int) (hs : s.size ≤ maxLen) (ht : t.size ≤ maxLen) (h0 : IntKind.u32.min ≤ c0) (h0b : c0 ≤ IntKind.u32.max) (h1 : IntKind.u32.min ≤ c1) (h1b : c1 ≤ IntKind.u32.max) (w : World) :
    Calls Try.prog 6 #[.string s, .string t, .agg #[.int .u32 c0, .int .u32 c1]] w fun e w' => e = .returned (.bool true) ∧ Below w.heap.size w w' := by
  have b0 := u32_bd h0 h0b
  have b1 := u32_bd h1 h1b
  exact sums_any s t c0 c1 hs ht b0.1 b0.2 b1.1 b1.2 w

end Go.Proofs.Ytogficnmbfpbjaa
