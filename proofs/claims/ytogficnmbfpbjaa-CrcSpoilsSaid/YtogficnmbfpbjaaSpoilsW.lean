/-
  The walk of CrcSpoils: it answers true at every text, place and four masks; nothing that was there is changed.
-/
import Derived.Test.YtogficnmbfpbjaaSumsW
import Derived.RegionTactic
import Derived.Deep.RegionHeld3
import Derived.IntWalk

namespace Go.Proofs.Ytogficnmbfpbjaa
open Go.RowKit

/-- A text with the first k of some masks laid over it from a place on. -/
def spoilL (l : List UInt8) (a : Nat) (ms : List UInt8) : Nat → List UInt8
  | 0 => l
  | k + 1 => (spoilL l a ms k).set (a + k) (l.getD (a + k) 0 ^^^ ms.getD k 0)

def chg (ms : List UInt8) (k : Nat) : Bool := (ms.take k).any (· != 0)

theorem spoilL_len (l : List UInt8) (a : Nat) (ms : List UInt8) (k : Nat) : (spoilL l a ms k).length = l.length := by
  induction k with
  | zero => rfl
  | succ k ih => simp [spoilL, ih]

theorem spoilL_at (l : List UInt8) (a : Nat) (ms : List UInt8) (k : Nat) : ∀ j, a + k ≤ j → (spoilL l a ms k)[j]? = l[j]? := by
  induction k with
  | zero => intro j _; rfl
  | succ k ih => intro j hj; simp only [spoilL]; rw [List.getElem?_set_ne (by omega)]; exact ih j (by omega)

theorem zip_set (l m : List Nat) : ∀ (j v : Nat), List.zipWith (· ^^^ ·) l (m.set j v) = (List.zipWith (· ^^^ ·) l m).set j (l.getD j 0 ^^^ v) := by
  induction l generalizing m with
  | nil => intro j v; simp
  | cons x l ih => cases m with
    | nil => intro j v; simp
    | cons y m => intro j v; cases j with
      | zero => simp
      | succ j => simp [ih m j v]

theorem xor_self_list (l : List Nat) : List.zipWith (· ^^^ ·) l l = List.replicate l.length 0 := by
  induction l with
  | nil => rfl
  | cons x l ih => rw [List.zipWith_cons_cons, ih, Nat.xor_self]; rfl

theorem burst_zero (n a : Nat) (h : a ≤ n) : Crcm.burst n a [] = List.replicate n 0 := by
  unfold Crcm.burst
  simp only [List.append_nil, List.length_nil, Nat.sub_zero, List.replicate_append_replicate]
  congr 1; omega

theorem burst_set (n a : Nat) (m : List Nat) (v : Nat) (h : a + m.length < n) : (Crcm.burst n a m).set (a + m.length) v = Crcm.burst n a (m ++ [v]) := by
  unfold Crcm.burst
  rw [List.set_append_right _ _ (by simp)]
  have e : a + m.length - (List.replicate a 0 ++ m).length = 0 := by simp
  have e2 : n - a - m.length = (n - a - (m ++ [v]).length) + 1 := by simp; omega
  rw [e, e2, List.replicate_succ, List.set_cons_zero]
  simp

theorem nats_getD (l : List UInt8) (j : Nat) : (nats l).getD j 0 = (l.getD j 0).toNat := by
  unfold nats
  simp only [List.getD_eq_getElem?_getD, List.getElem?_map]
  cases l[j]? <;> rfl

/-- What a spoilt text and the text part by. -/
theorem spoil_burst (l : List UInt8) (a : Nat) (ms : List UInt8) : ∀ k, k ≤ ms.length → a + k ≤ l.length → List.zipWith (· ^^^ ·) (nats l) (nats (spoilL l a ms k)) = Crcm.burst l.length a (nats (ms.take k)) := by
  intro k
  induction k with
  | zero => intro _ h; simp only [spoilL, List.take_zero]; rw [xor_self_list, show nats [] = [] from rfl, burst_zero _ _ (by omega)]; simp [nats]
  | succ k ih =>
    intro h1 h2
    simp only [spoilL]
    have e : nats ((spoilL l a ms k).set (a + k) (l.getD (a + k) 0 ^^^ ms.getD k 0)) = (nats (spoilL l a ms k)).set (a + k) ((l.getD (a + k) 0 ^^^ ms.getD k 0).toNat) := by simp [nats, List.map_set]
    rw [e, zip_set, ih (by omega) (by omega), nats_getD, UInt8.toNat_xor, ← Nat.xor_assoc, Nat.xor_self, Nat.zero_xor]
    have e3 : (nats (ms.take k)).length = k := by simp [nats]; omega
    have e4 := burst_set l.length a (nats (ms.take k)) (ms.getD k 0).toNat (by omega)
    rw [e3] at e4
    rw [e4, List.take_succ_eq_append_getElem (by omega)]
    congr 1
    have e5 : ms.getD k 0 = ms[k] := by simp [List.getD_eq_getElem?_getD, show k < ms.length by omega]
    unfold nats
    rw [List.map_append, e5]; rfl

theorem chg_succ (ms : List UInt8) (k : Nat) (h : k < ms.length) : chg ms (k + 1) = (chg ms k || ms.getD k 0 != 0) := by
  unfold chg
  rw [List.take_succ_eq_append_getElem h]
  have e5 : ms.getD k 0 = ms[k] := by simp [List.getD_eq_getElem?_getD, h]
  rw [List.any_append, e5]
  simp only [List.any_cons, List.any_nil, Bool.or_false]

theorem spoil_none (l : List UInt8) (a : Nat) (ms : List UInt8) : ∀ k, k ≤ ms.length → chg ms k = false → spoilL l a ms k = l := by
  intro k
  induction k with
  | zero => intro _ _; rfl
  | succ k ih =>
    intro h1 h2
    rw [chg_succ ms k h1] at h2
    rw [Bool.or_eq_false_iff] at h2
    have h3 : ms.getD k 0 = 0 := by
      have h4 := h2.2
      rw [bne_eq_false_iff_eq] at h4
      exact h4
    simp only [spoilL]
    rw [ih (by omega) h2.1, h3, UInt8.xor_zero]
    apply List.ext_getElem?
    intro j
    by_cases hj : a + k = j
    · subst hj
      by_cases hl : a + k < l.length
      · rw [List.getElem?_set_self hl]; simp [hl]
      · rw [List.getElem?_eq_none (by simp; omega), List.getElem?_eq_none (by omega)]
    · rw [List.getElem?_set_ne hj]

theorem nats_sealL (l : List UInt8) : nats (sealL l) = Crcm.sealed (nats l) := by
  unfold nats sealL Crcm.sealed le4u
  rw [List.map_append, List.map_map]
  congr 1
  have hb := Crcm.le4_bytes (Crcm.sum (List.map UInt8.toNat l))
  conv => rhs; rw [← List.map_id (Crcm.le4 _)]
  apply List.map_congr_left
  intro x hx
  show (UInt8.ofNat x).toNat = x
  have := hb x hx
  rw [UInt8.toNat_ofNat']; omega

theorem nats_inj {l m : List UInt8} (h : nats l = nats m) : l = m := by
  unfold nats at h
  exact (List.map_inj_right (fun a b hab => UInt8.toNat_inj.1 hab)).1 h

/-- THE THEOREM: a sealed text over which masks that are not all nought are laid is no sealed text. -/
theorem spoilt (l m : List UInt8) (a : Nat) (ms : List UInt8) (k : Nat) (h4 : k ≤ 4) (hk : k ≤ ms.length) (ha : a + k ≤ (sealL l).length) (hc : chg ms k = true) : sealL m ≠ spoilL (sealL l) a ms k := by
  intro he
  have hb := spoil_burst (sealL l) a ms k hk ha
  rw [← he, nats_sealL, nats_sealL] at hb
  have hlen : (Crcm.sealed (nats l)).length = (Crcm.sealed (nats m)).length := by
    rw [← nats_sealL, ← nats_sealL]
    have := spoilL_len (sealL l) a ms k
    rw [← he] at this
    simp only [nats, List.length_map]; omega
  have := Crcm.burst_none (nats_bytes l) (nats_bytes m) _ a _ (nats_bytes (ms.take k)) (by simp [nats]; omega) hlen hb
  unfold chg at hc
  rw [List.any_eq_true] at hc
  obtain ⟨x, hx, hne⟩ := hc
  have h0 := this x.toNat (by unfold nats; exact List.mem_map_of_mem hx)
  have : x = 0 := by
    have e : x.toNat = (0 : UInt8).toNat := h0
    exact UInt8.toNat_inj.1 e
  simp [this] at hne


/-- The world in the law's loop behind k rounds: the row of the spoilt text, the box of the masks. -/
structure Mis (l : List UInt8) (a : Nat) (ms : List UInt8) (w : World) (R cap k : Nat) (wr : World) : Prop where
  row : ownsB wr (w.heap.size + 1) 5 (.slice (some ⟨R, 0, none⟩) l.length cap) ((spoilL l a ms k).map byteVal)
  bel : Below w.heap.size w wr
  masks : ∀ j, j < 4 → wr.cell? ⟨w.heap.size, j, none⟩ = some (byteVal (ms.getD j 0))
  size : R < wr.heap.size
  first : w.heap.size < R

theorem Mis.kept {l ms : List UInt8} {a R cap k : Nat} {w wr w1 : World} (h : Mis l a ms w R cap k wr) (hb : Below wr.heap.size wr w1) : Mis l a ms w R cap k w1 := by
  have hs := h.size
  have hz := hb.size
  have hf := h.first
  refine ⟨h.row.kept hb fun q hq => by simp [Value.ownBlock] at hq; omega, h.bel.trans (hb.mono h.bel.size), fun j hj => ?_, by omega, hf⟩
  rw [hb.cell (by show w.heap.size < _; omega)]; exact h.masks j hj

theorem Mis.cells {l ms : List UInt8} {a R cap k : Nat} {w wr : World} (h : Mis l a ms w R cap k wr) (h4 : k < 4) (ha : a + k < l.length) :
    wr.cell? ⟨R, a + k, none⟩ = some (.int .u8 ((l.getD (a + k) 0).toNat : Int)) ∧ wr.frozen? ⟨R, a + k, none⟩ = false ∧ wr.cell? ⟨w.heap.size, k, none⟩ = some (.int .u8 ((ms.getD k 0).toNat : Int)) := by
  have hl : ((spoilL l a ms k).map byteVal).length = l.length := by rw [List.length_map, spoilL_len]
  refine ⟨?_, h.row.frozenAt _ (by omega), h.masks k h4⟩
  rw [h.row.cellAt _ (by omega), List.getElem_map]
  have e := spoilL_at l a ms k (a + k) (Nat.le_refl _)
  rw [List.getElem?_eq_getElem ha, List.getElem?_eq_getElem (by rw [spoilL_len]; exact ha)] at e
  simp only [Option.some.injEq] at e
  rw [e]
  simp [byteVal, List.getD_eq_getElem?_getD, ha]

theorem Mis.next {l ms : List UInt8} {a R cap k : Nat} {w wr : World} (h : Mis l a ms w R cap k wr) :
    Mis l a ms w R cap (k + 1) ((wr.setCell ⟨R, a + k, none⟩ (.int .u8 (bits BinOp.xor IntKind.u8 ((l.getD (a + k) 0).toNat : Int) ((ms.getD k 0).toNat : Int)))).drew) := by
  have hf := h.first
  refine ⟨?_, (h.bel.setCell (by show w.heap.size ≤ R; omega) _).drew, fun j hj => ?_, by simpa [World.setCell] using h.size, hf⟩
  · have := (h.row.stored (a + k) (.int .u8 (bits BinOp.xor IntKind.u8 ((l.getD (a + k) 0).toNat : Int) ((ms.getD k 0).toNat : Int)))).drew
    rw [byteVal_xor, ← List.map_set] at this
    rw [byteVal_xor]
    exact this
  · rw [World.cell?_drew, World.cell?_of_block (w := wr) (Below.heap_setCell _ _ _ _ (by show w.heap.size ≠ R; omega))]; exact h.masks j hj

theorem mis_start (w W2 W3 : World) (T : ByteArray) (a cap : Nat) (m0 m1 m2 m3 : UInt8)
    (HO : ownsB W3 W2.heap.size 5 (.slice (some ⟨W2.heap.size, 0, none⟩) T.size cap) (T.data.toList.map byteVal)) (HB : Below W2.heap.size W2 W3) (HZ : W3.heap.size = W2.heap.size + 1)
    (HB2 : Below (w.alloc (.cells #[.int .u8 (m0.toNat : Int), .int .u8 (m1.toNat : Int), .int .u8 (m2.toNat : Int), .int .u8 (m3.toNat : Int)] 32)).heap.size (w.alloc (.cells #[.int .u8 (m0.toNat : Int), .int .u8 (m1.toNat : Int), .int .u8 (m2.toNat : Int), .int .u8 (m3.toNat : Int)] 32)) W2) :
    Mis T.data.toList a [m0, m1, m2, m3] w W2.heap.size cap 0 W3 := by
  have h2 := HB2.size
  simp at h2
  have h1 : Below w.heap.size w W3 := ((Below.alloc (Below.refl _ _) (Nat.le_refl _) _).trans (HB2.mono (by simp))).trans (HB.mono (by omega))
  refine ⟨?_, h1, fun j hj => ?_, by omega, by omega⟩
  · obtain ⟨g, cp, cur, fz, hv, hb, hrest⟩ := HO
    rw [size_list]
    refine ⟨g, cp, cur, fz, by simpa [spoilL] using hv, ?_, by simpa [spoilL] using hrest⟩
    omega
  · rw [HB.cell (by show w.heap.size < _; omega), HB2.cell (by simp)]
    match j, hj with
    | 0, _ => simp [byteVal]
    | 1, _ => simp [byteVal]
    | 2, _ => simp [byteVal]
    | 3, _ => simp [byteVal]

theorem byte_ne (y : UInt8) : (((y.toNat : Nat) : Int) != 0) = (y != 0) := by
  by_cases h : y = 0
  · subst h; rfl
  · have h1 : y.toNat ≠ 0 := fun e => h (UInt8.toNat_inj.1 (by simpa using e))
    have h2 : ((y.toNat : Nat) : Int) ≠ 0 := by omega
    rw [bne_iff_ne.2 h, bne_iff_ne.2 h2]

theorem spoil_cases (s T : ByteArray) (a : Nat) (m0 m1 m2 m3 : UInt8) (k : Nat) (h4 : k ≤ 4) (ha : a + k ≤ T.size) (hT : T = sealB s) :
    (chg [m0, m1, m2, m3] k = true ∧ openV ⟨(spoilL T.data.toList a [m0, m1, m2, m3] k).toArray⟩ = .tuple #[.string ⟨#[]⟩, .int .i64 4]) ∨ (chg [m0, m1, m2, m3] k = false ∧ openV ⟨(spoilL T.data.toList a [m0, m1, m2, m3] k).toArray⟩ = .tuple #[.string s, .int .i64 0]) := by
  have hTl : T.data.toList = sealL s.data.toList := by rw [hT]; simp [sealB]
  have hz : T.data.toList.length = T.size := size_list T
  cases hc : chg [m0, m1, m2, m3] k with
  | false =>
    refine .inr ⟨rfl, ?_⟩
    rw [spoil_none _ _ _ k (by simpa using h4) hc]
    have : (ByteArray.mk T.data.toList.toArray) = sealB s := by rw [hT]
    rw [this, openV_seal]
  | true =>
    refine .inl ⟨rfl, ?_⟩
    have hne := fun m => spoilt s.data.toList m a [m0, m1, m2, m3] k h4 (by simpa using h4) (by rw [← hTl, hz]; exact ha) hc
    rw [← hTl] at hne
    unfold openV openT openE
    have hl : (spoilL T.data.toList a [m0, m1, m2, m3] k).length = s.size + 4 := by rw [spoilL_len, hTl, sealL_len, size_list]
    simp only [hl]
    rw [if_neg (fun h => hne _ h.2), if_neg (by omega), if_neg (hne _)]

set_option maxHeartbeats 2000000 in
theorem spoils_any (s : ByteArray) (at_ : Int) (m0 m1 m2 m3 : UInt8) (hs : s.size ≤ maxLen) (ha : -9223372036854775808 ≤ at_) (hab : at_ ≤ 9223372036854775807) (w : World) :
    Calls Try.prog 5 #[.string s, .int .i64 at_, .agg #[.int .u8 (m0.toNat : Int), .int .u8 (m1.toNat : Int), .int .u8 (m2.toNat : Int), .int .u8 (m3.toNat : Int)]] w fun e w' => e = .returned (.bool true) ∧ Below w.heap.size w w' := by
  unfold maxLen at hs
  by_cases h : 300 < s.size
  · go_enter Try.func5, Try.ntmps5
    go_wp2_with fail
    refine (live_any _).mono ?_
    rintro e w1 ⟨rfl, hb1⟩
    go_wp2_with fail
    go_ret
    exact ⟨rfl, (Below.alloc (Below.refl _ _) (Nat.le_refl _) _).trans (hb1.mono (by simp))⟩
  · have hTs := sealB_size s
    obtain ⟨T, hT⟩ : ∃ T, T = sealB s := ⟨_, rfl⟩
    rw [← hT] at hTs
    have hn : (((T.size : Nat) : Int) != (s.size : Int) + 4) = false := by simp; omega
    have hTz : T.size ≤ maxLen := by unfold maxLen; omega
    have hTb : T.size ≤ 304 := by omega
    have HT := Lib.hid hT
    clear hT hTs
    by_cases hneg : at_ < 0
    · go_enter Try.func5, Try.ntmps5
      go_wp2_with fail
      refine (seal_any _ (by omega) _).mono ?_
      rintro e w1 ⟨rfl, hb1⟩
      rw [← HT.out]
      go_wp2_with fail
      refine (live_any _).mono ?_
      rintro e w2 ⟨rfl, hb2⟩
      go_wp2_with fail
      go_ret
      have h1 := (Below.alloc (Below.refl _ _) (Nat.le_refl _) _).trans (hb1.mono (by simp))
      exact ⟨rfl, h1.trans (hb2.mono h1.size)⟩
    · obtain ⟨a, rfl⟩ := Int.eq_ofNat_of_zero_le (show 0 ≤ at_ by omega)
      by_cases hge : T.size ≤ a
      · go_enter Try.func5, Try.ntmps5
        go_wp2_with fail
        refine (seal_any _ (by omega) _).mono ?_
        rintro e w1 ⟨rfl, hb1⟩
        rw [← HT.out]
        go_wp2_with fail
        refine (live_any _).mono ?_
        rintro e w2 ⟨rfl, hb2⟩
        go_wp2_with fail
        go_ret
        have h1 := (Below.alloc (Below.refl _ _) (Nat.le_refl _) _).trans (hb1.mono (by simp))
        exact ⟨rfl, h1.trans (hb2.mono h1.size)⟩
      · have d1 : decide ((a : Int) < 0) = false := by simp
        have d2 : decide ((T.size : Int) ≤ (a : Int)) = false := by simp; omega
        go_enter Try.func5, Try.ntmps5
        go_wp2_with fail
        refine (seal_any _ (by omega) _).mono ?_
        rintro e W2 ⟨rfl, hb2⟩
        rw [← HT.out]
        obtain ⟨W3, cap, hconv, hown, hbel, hsz⟩ := bytes_row (P := Try.prog) W2 9 33 5 T Try.underlying9 Try.underlying33 Try.underlying5 hTz
        have HO := Lib.hid hown
        have HB := Lib.hid hbel
        have HZ := Lib.hid hsz
        have HB2 := Lib.hid hb2
        clear hown hbel hsz hb2
        go_wp2_with fail
        go_loopw [9, 10] (fun c i wr => ∃ k : Nat, k ≤ 4 ∧ a + k ≤ T.size ∧ i = .int .i64 k ∧ c = .bool (chg [m0, m1, m2, m3] k) ∧ Mis T.data.toList a [m0, m1, m2, m3] w W2.heap.size cap k wr) (fun _ i _ => 4 - (intOf i).toNat)
        case atStart => exact ⟨0, by omega, by omega, rfl, rfl, mis_start w W2 W3 T a cap m0 m1 m2 m3 HO.out HB.out HZ.out HB2.out⟩
        case round =>
          obtain ⟨k, hk4, hka, rfl, rfl, hmis⟩ := hrel
          have HM := Lib.hid hmis
          clear hmis
          have esz : T.data.toList.length = T.size := size_list T
          by_cases hgo : k < 4 ∧ a + k < T.size
          · obtain ⟨hk, hak⟩ := hgo
            obtain ⟨hc1, hc2, hc3⟩ := HM.out.cells hk (by omega)
            have i1 : (0 : Int) ≤ (k : Int) := by omega
            have i2 : (k : Int) < 4 := by omega
            have i3 : (0 : Int) ≤ (a : Int) + (k : Int) := by omega
            have i4 : (a : Int) + (k : Int) < (T.size : Int) := by omega
            have i5 : ((a : Int) + (k : Int)).toNat = a + k := by omega
            have i6 : IntKind.i64.wrap ((a : Int) + (k : Int)) = (a : Int) + (k : Int) := IntWalk.i64_in _ (by omega)
            have hN := HM.out.next
            obtain ⟨x, hx⟩ : ∃ x : UInt8, x = T.data.toList.getD (a + k) 0 := ⟨_, rfl⟩
            obtain ⟨y, hy⟩ : ∃ y : UInt8, y = [m0, m1, m2, m3].getD k 0 := ⟨_, rfl⟩
            obtain ⟨c, hc⟩ : ∃ c : Bool, c = chg [m0, m1, m2, m3] k := ⟨_, rfl⟩
            have hcs := chg_succ [m0, m1, m2, m3] k (by simpa using hk)
            rw [← hx, ← hy] at hN
            rw [← hx] at hc1
            rw [← hy] at hc3
            rw [← hc, ← hy] at hcs
            rw [← hc]
            have hc3s : ∀ v, (wr.setCell ⟨W2.heap.size, a + k, none⟩ v).cell? ⟨w.heap.size, k, none⟩ = some (.int .u8 (y.toNat : Int)) := fun v => by
              have hf := HM.out.first
              rw [World.cell?_of_block (w := wr) (Below.heap_setCell _ _ _ _ (by show w.heap.size ≠ W2.heap.size; omega))]; exact hc3
            have HN := Lib.hid hN
            have HCS := Lib.hid hcs
            have hyb := y.toNat_lt
            clear hN hcs hx hy hc HM
            go_wp2_with fail
            go_region
            cases c
            · go_wp2
              go_roundw
              case rel => exact ⟨k + 1, by omega, by omega, by go_num, by rw [HCS.out, byte_ne]; rfl, HN.out⟩
              case measure => simp [intOf]; omega
            · go_wp2
              go_roundw
              case rel => exact ⟨k + 1, by omega, by omega, by go_num, by rw [HCS.out]; rfl, HN.out⟩
              case measure => simp [intOf]; omega
          · obtain ⟨V, hV⟩ : ∃ V : ByteArray, V = ⟨(spoilL T.data.toList a [m0, m1, m2, m3] k).toArray⟩ := ⟨_, rfl⟩
            have hVs : V.size ≤ 304 := by
              rw [hV]; show (spoilL T.data.toList a [m0, m1, m2, m3] k).toArray.size ≤ _
              simp only [List.size_toArray, spoilL_len]; omega
            have hrow := HM.out.row
            have hbw := HM.out.bel
            have hback : (convert 33 9 (.slice (some ⟨W2.heap.size, 0, none⟩) T.size cap)).run Try.prog wr = .ok (.string V) wr := by
              rw [hV]
              rw [esz] at hrow
              exact bytes_back (P := Try.prog) wr 33 9 5 _ Try.underlying33 Try.underlying5 Try.underlying9 hrow
            have hcase : (chg [m0, m1, m2, m3] k = true ∧ openV V = .tuple #[.string ⟨#[]⟩, .int .i64 4]) ∨ (chg [m0, m1, m2, m3] k = false ∧ openV V = .tuple #[.string s, .int .i64 0]) := by
              rw [hV]; exact spoil_cases s T a m0 m1 m2 m3 k hk4 hka HT.out
            have HBW := Lib.hid hbw
            clear hrow hbw hV HM esz
            rcases hcase with ⟨hc, ho⟩ | ⟨hc, ho⟩
            all_goals
              rw [hc]
              have HOV := Lib.hid ho
              clear hc ho
              by_cases hk : k < 4
              all_goals
                have hend : ¬ ((a : Int) + (k : Int) < (T.size : Int)) ∨ ¬ ((k : Int) < 4) := by omega
                go_wp2_with fail
                refine (open_any _ (by omega) _).mono ?_
                rintro e w4 ⟨rfl, hb4⟩
                rw [HOV.out]
                go_wp2_with fail
                refine (live_any _).mono ?_
                rintro e w5 ⟨rfl, hb5⟩
                go_wp2_with fail
                go_ret
                have h4 := HBW.out.trans (hb4.mono HBW.out.size)
                exact ⟨rfl, h4.trans (hb5.mono h4.size)⟩


theorem byte_of {m : Int} (h : IntKind.u8.min ≤ m) (h' : m ≤ IntKind.u8.max) : ∃ M : UInt8, m = (M.toNat : Int) := by
  have hb := u8_bd h h'
  refine ⟨UInt8.ofNat m.toNat, ?_⟩
  rw [UInt8.toNat_ofNat']
  omega

theorem spoils_row (s : ByteArray) (at_ m0 m1 m2 m3 : Int) (hs : s.size ≤ maxLen) (ha : IntKind.i64.min ≤ at_) (hab : at_ ≤ IntKind.i64.max)
    (h0 : IntKind.u8.min ≤ m0) (h0b : m0 ≤ IntKind.u8.max) (h1 : IntKind.u8.min ≤ m1) (h1b : m1 ≤ IntKind.u8.max) (h2 : IntKind.u8.min ≤ m2) (h2b : m2 ≤ IntKind.u8.max) (h3 : IntKind.u8.min ≤ m3) (h3b : m3 ≤ IntKind.u8.max) (w : World) :
    Calls Try.prog 5 #[.string s, .int .i64 at_, .agg #[.int .u8 m0, .int .u8 m1, .int .u8 m2, .int .u8 m3]] w fun e w' => e = .returned (.bool true) ∧ Below w.heap.size w w' := by
  obtain ⟨M0, rfl⟩ := byte_of h0 h0b
  obtain ⟨M1, rfl⟩ := byte_of h1 h1b
  obtain ⟨M2, rfl⟩ := byte_of h2 h2b
  obtain ⟨M3, rfl⟩ := byte_of h3 h3b
  have b := i64_bd ha hab
  exact spoils_any s at_ M0 M1 M2 M3 hs b.1 b.2 w

end Go.Proofs.Ytogficnmbfpbjaa
