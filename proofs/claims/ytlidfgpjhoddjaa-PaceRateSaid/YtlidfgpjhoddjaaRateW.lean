/-
  The walk of PaceRate: it answers true at every config and list of waits; nothing that was there is changed.
-/
import Derived.Test.YtlidfgpjhoddjaaMoreW
import Derived.Deep.QuietTactic
import Derived.BigQuiet
namespace Go.Proofs.Ytlidfgpjhoddjaa
open Go.RowKit

/-- What is so of the takes: how many there were from each one on, and the tokens left, stay below what came. -/
structure PInv (u a K N : Int) (l : List Int) : Prop where
  now : ∀ i, i < l.length → ((l.length : Int) - i) + K ≤ u + a * (N - l.getD i 0)
  all : ∀ i k, i ≤ k → k < l.length → (k : Int) - i + 1 ≤ u + a * (l.getD k 0 - l.getD i 0)
  bd : ∀ i, i < l.length → 0 ≤ l.getD i 0 ∧ l.getD i 0 ≤ N

theorem lev_le {u a K N z : Int} (_hK : K ≤ u) (ha : 0 ≤ a) (hz : 0 ≤ z) : levI u a K N (N + z) ≤ K + a * z := by
  unfold levI
  have hp : 0 ≤ a * z := Int.mul_nonneg ha hz
  split
  · omega
  · have e : (N + z - N) * a = a * z := by rw [Int.mul_comm]; congr 1; omega
    rw [e]; omega

theorem split_mul (a N z x : Int) : a * (N + z - x) = a * (N - x) + a * z := by
  have e : N + z - x = (N - x) + z := by omega
  rw [e, Int.mul_add]

theorem PInv.none {u a K N z K' : Int} {l : List Int} (h : PInv u a K N l) (hz : 0 ≤ z) (hK : K' ≤ K + a * z) : PInv u a K' (N + z) l := by
  refine ⟨fun i hi => ?_, h.all, fun i hi => ?_⟩
  · have := h.now i hi
    rw [split_mul]; omega
  · have := h.bd i hi; omega

theorem PInv.took {u a K N z L : Int} {l : List Int} (h : PInv u a K N l) (hz : 0 ≤ z) (hN : 0 ≤ N) (h1 : 1 ≤ L) (hu : L ≤ u) (hK : L ≤ K + a * z) : PInv u a (L - 1) (N + z) (l ++ [N + z]) := by
  have old : ∀ i, i < l.length → (l ++ [N + z]).getD i 0 = l.getD i 0 := fun i hi => by
    simp only [List.getD_eq_getElem?_getD]; rw [List.getElem?_append_left hi]
  have new : (l ++ [N + z]).getD l.length 0 = N + z := by simp [List.getD_eq_getElem?_getD]
  have hlen : (l ++ [N + z]).length = l.length + 1 := by simp
  refine ⟨fun i hi => ?_, fun i k hik hk => ?_, fun i hi => ?_⟩
  · rw [hlen]
    by_cases hi' : i < l.length
    · rw [old i hi', split_mul]
      have := h.now i hi'
      have e : ((l.length + 1 : Nat) : Int) = (l.length : Int) + 1 := by omega
      rw [e]; omega
    · have : i = l.length := by omega
      subst this
      rw [new, Int.sub_self, Int.mul_zero]
      omega
  · by_cases hk' : k < l.length
    · rw [old i (by omega), old k hk']; exact h.all i k hik hk'
    · have : k = l.length := by omega
      subst this
      rw [new]
      by_cases hi' : i < l.length
      · rw [old i hi', split_mul]
        have := h.now i hi'
        omega
      · have : i = l.length := by omega
        subst this
        rw [new, show N + z - (N + z) = 0 by omega, Int.mul_zero]; omega
  · by_cases hi' : i < l.length
    · rw [old i hi']; have := h.bd i hi'; omega
    · have : i = l.length := by omega
      subst this
      rw [new]; omega

/-- The world in the law's loops: the config's box, the bucket's box, the ticks at which was taken. -/
structure RS (r u a p K N : Int) (w : World) (b5 : Nat) (v : Value) (l : List Int) (wr : World) : Prop where
  c0 : wr.cell? ⟨w.heap.size, 0, none⟩ = some (.int .i64 r)
  c1 : wr.cell? ⟨w.heap.size, 1, none⟩ = some (.int .i64 u)
  c2 : wr.cell? ⟨w.heap.size, 2, none⟩ = some (.int .i64 a)
  c3 : wr.cell? ⟨w.heap.size, 3, none⟩ = some (.int .i64 p)
  x0 : wr.cell? ⟨b5, 0, none⟩ = some (.int .i64 K)
  x1 : wr.cell? ⟨b5, 1, none⟩ = some (.int .i64 N)
  f0 : wr.frozen? ⟨b5, 0, none⟩ = false
  f1 : wr.frozen? ⟨b5, 1, none⟩ = false
  row : wr.ownsRow (b5 + 1) 3 1 v l.length (l.map (Value.int .i64))
  bel : Below w.heap.size w wr
  s5 : w.heap.size < b5
  s8 : b5 < wr.heap.size

theorem grown_of_below {w w1 : World} (hb : Below w.heap.size w w1) : w.grownBy w1 none := ⟨hb.os, hb.tape, hb.output, hb.size, fun k hk _ => hb.block k hk⟩

theorem RS.kept {r u a p K N : Int} {w wr w1 : World} {b5 : Nat} {v : Value} {l : List Int} (h : RS r u a p K N w b5 v l wr) (hb : Below wr.heap.size wr w1) : RS r u a p K N w b5 v l w1 := by
  have kp := call_keep hb
  obtain ⟨c0, c1, c2, c3, x0, x1, f0, f1, row, bel, s5, s8⟩ := h
  have hz := hb.size
  refine ⟨kp _ _ c0, kp _ _ c1, kp _ _ c2, kp _ _ c3, kp _ _ x0, kp _ _ x1, ?_, ?_, row.kept (grown_of_below hb) (by cases v.ownBlock <;> simp), bel.trans (hb.mono bel.size), s5, by omega⟩
  · rw [hb.frozen (by show b5 < _; omega)]; exact f0
  · rw [hb.frozen (by show b5 < _; omega)]; exact f1

theorem RS.drew {r u a p K N : Int} {w wr : World} {b5 : Nat} {v : Value} {l : List Int} (h : RS r u a p K N w b5 v l wr) : RS r u a p K N w b5 v l wr.drew := h.kept (Below.drew (Below.refl _ _))

theorem RS.laid {r u a p K N : Int} {w wr : World} {b5 : Nat} {v : Value} {l : List Int} (h : RS r u a p K N w b5 v l wr) (o : Obj) : RS r u a p K N w b5 v l (wr.alloc o) := h.kept (Below.alloc (Below.refl _ _) (Nat.le_refl _) o)

theorem RS.grown {r u a p K N : Int} {w wr w1 : World} {b5 : Nat} {v v' : Value} {l l' : List Int} (h : RS r u a p K N w b5 v l wr) (hg : wr.grownBy w1 v.ownBlock) (hrow : w1.ownsRow (b5 + 1) 3 1 v' l'.length (l'.map (Value.int .i64))) : RS r u a p K N w b5 v' l' w1 := by
  obtain ⟨c0, c1, c2, c3, x0, x1, f0, f1, row, bel, s5, s8⟩ := h
  have hlt := row.lt
  have hz := hg.size
  have hne : ∀ k, k ≤ b5 → some k ≠ v.ownBlock := fun k hk e => by have := (hlt k e.symm).1; omega
  have far : ∀ {b i : Nat} {v : Value}, b ≤ b5 → wr.cell? ⟨b, i, none⟩ = some v → w1.cell? ⟨b, i, none⟩ = some v := fun hb hc => hg.cell hc (hne _ hb)
  refine ⟨far (by omega) c0, far (by omega) c1, far (by omega) c2, far (by omega) c3, far (Nat.le_refl _) x0, far (Nat.le_refl _) x1, ?_, ?_, hrow, bel.grown hg bel.size (fun k hk => by have := (hlt k hk).1; omega), s5, by omega⟩
  · rw [World.frozen?_of_block (hg.block b5 s8 (hne b5 (Nat.le_refl _)))]; exact f0
  · rw [World.frozen?_of_block (hg.block b5 s8 (hne b5 (Nat.le_refl _)))]; exact f1

theorem RS.stored {r u a p K N K' N' : Int} {w wr : World} {b5 : Nat} {v : Value} {l : List Int} (h : RS r u a p K N w b5 v l wr) :
    RS r u a p K' N' w b5 v l ((wr.setCell ⟨b5, 0, none⟩ (.int .i64 K')).setCell ⟨b5, 1, none⟩ (.int .i64 N')) := by
  obtain ⟨c0, c1, c2, c3, x0, x1, f0, f1, row, bel, s5, s8⟩ := h
  have far : ∀ {b i : Nat} {v : Value}, b ≠ b5 → wr.cell? ⟨b, i, none⟩ = some v → ((wr.setCell ⟨b5, 0, none⟩ (.int .i64 K')).setCell ⟨b5, 1, none⟩ (.int .i64 N')).cell? ⟨b, i, none⟩ = some v :=
    fun h5 hc => cell_set_far h5 (cell_set_far h5 hc)
  refine ⟨far (by omega) c0, far (by omega) c1, far (by omega) c2, far (by omega) c3, cell_set_off (by decide) (cell_set_same x0), cell_set_same (cell_set_off (by decide) x1), frozen_set (frozen_set f0), frozen_set (frozen_set f1), ?_, (bel.setCell (by show w.heap.size ≤ b5; omega) _).setCell (by show w.heap.size ≤ b5; omega) _, s5, by simpa [World.setCell] using s8⟩
  exact ownsRow_setCell_below (ownsRow_setCell_below row (by show b5 < b5 + 1; omega) _) (by show b5 < b5 + 1; omega) _

theorem Try.info3 : (Try.prog.info? 3).map (fun i => (i.zero, i.size, i.bytes)) = some (some (.int .i64 0), 1, 8) := by kernel_rfl

/-- A round of plain numbers. -/
theorem rate_round {r u a p K N z : Int} {l : List Int} (h : oneB r u a p K N = true) (hp : PInv u a K N l) (hz : 0 ≤ z) (h1 : N + z + 1 ≤ 1099511627776) :
    (∃ L, takeV r u a p K N (N + z) = .tuple #[.agg #[.int .i64 (L - 1), .int .i64 (N + z)], .bool true] ∧ oneB r u a p (L - 1) (N + z) = true ∧ PInv u a (L - 1) (N + z) (l ++ [N + z])) ∨
    (∃ x y, takeV r u a p K N (N + z) = .tuple #[.agg #[.int .i64 0, .int .i64 (N + z)], .bool false] ∧ oneB r u a p 0 (N + z) = true ∧ PInv u a 0 (N + z) l ∧ takeV r u a p 0 (N + z) (N + z + 1) = .tuple #[.agg #[.int .i64 x, .int .i64 y], .bool true]) := by
  have hq := one_parts h
  have hf := fits_of (n := N + z) h (by omega) (by omega)
  have hb := lev_bd hf
  have hle := lev_le (N := N) hq.2.2.2.2.2.1 (by omega : 0 ≤ a) hz
  have hat : atI N (N + z) = N + z := by unfold atI; split <;> omega
  rcases take_cases h (by omega : 0 ≤ N + z) (by omega) with ⟨hz0, ht⟩ | ⟨hz0, ht⟩
  · right
    rw [hat] at ht
    have ho : oneB r u a p 0 (N + z) = true := one_kept h (by omega) (by omega) (by omega) (by omega)
    have hl : levI u a 0 (N + z) (N + z + 1) ≠ 0 := by
      unfold levI
      rw [if_neg (by omega)]
      have e : (N + z + 1 - (N + z)) * a = a := by rw [show N + z + 1 - (N + z) = 1 by omega, Int.one_mul]
      rw [e]; omega
    exact ⟨_, _, ht, ho, hp.none hz (by omega), (takeV_some2 (fits_of ho (by omega) h1) hl rfl).symm⟩
  · left
    rw [hat] at ht
    exact ⟨_, ht, one_kept h (by omega) (by omega) (by omega) (by omega), hp.took hz (by omega) hz0 hb.2 hle⟩

theorem rs_start {r u a p K N : Int} {w w2 : World} (c0 : w2.cell? ⟨w.heap.size, 0, none⟩ = some (.int .i64 r)) (c1 : w2.cell? ⟨w.heap.size, 1, none⟩ = some (.int .i64 u)) (c2 : w2.cell? ⟨w.heap.size, 2, none⟩ = some (.int .i64 a)) (c3 : w2.cell? ⟨w.heap.size, 3, none⟩ = some (.int .i64 p))
    (hB : Below w.heap.size w w2) (hs : w.heap.size < w2.heap.size) :
    RS r u a p K N w w2.heap.size (.slice none 0 0) [] (w2.alloc (.cells #[.int .i64 K, .int .i64 N] 25)) := by
  have kp1 := call_keep (Below.alloc (Below.refl _ _) (Nat.le_refl _) (.cells #[.int .i64 K, .int .i64 N] 25) (w := w2))
  exact ⟨kp1 _ _ c0, kp1 _ _ c1, kp1 _ _ c2, kp1 _ _ c3, by simp, by simp, by simp, by simp, World.ownsRow_nil _ _ _ _, hB.alloc hB.size _, hs, by simp⟩

theorem may_parts {r u a p : Int} (h : mayB r u a p = true) : 1 ≤ u ∧ u ≤ 64 ∧ 1 ≤ a ∧ a ≤ 16 := by
  simp only [mayB, inB, Bool.and_eq_true, decide_eq_true_eq] at h
  omega

/-- The config's box alone. -/
theorem box_of {r u a p : Int} {w w1 : World} (h : Below (w.heap.size + 1) (w.alloc (.cells #[.int .i64 r, .int .i64 u, .int .i64 a, .int .i64 p] 23)) w1) :
    w1.cell? ⟨w.heap.size, 0, none⟩ = some (.int .i64 r) ∧ w1.cell? ⟨w.heap.size, 1, none⟩ = some (.int .i64 u) ∧ w1.cell? ⟨w.heap.size, 2, none⟩ = some (.int .i64 a) ∧ w1.cell? ⟨w.heap.size, 3, none⟩ = some (.int .i64 p) ∧ Below w.heap.size w w1 ∧ w.heap.size < w1.heap.size := by
  obtain ⟨kp, nw, hb, sz⟩ := laid_keep (w := w) (C := #[.int .i64 r, .int .i64 u, .int .i64 a, .int .i64 p]) (T := 23) (by simpa using h)
  exact ⟨nw 0 _ rfl, nw 1 _ rfl, nw 2 _ rfl, nw 3 _ rfl, hb, sz⟩

theorem slice_form {w : World} {lo : Nat} {v : Value} {l : List Int} (h : w.ownsRow lo 3 1 v l.length (l.map (Value.int .i64))) :
    ∃ a c, v = .slice a l.length c ∧ (0 < l.length → ∃ g, a = some ⟨g, 0, none⟩) := by
  obtain ⟨-, ⟨rfl, h0⟩ | ⟨g, cap, cur, rfl, -⟩⟩ := h
  · exact ⟨_, _, by rw [h0], fun h1 => by omega⟩
  · exact ⟨_, _, rfl, fun _ => ⟨g, rfl⟩⟩

theorem prod_bd {a d : Int} (h0 : 0 ≤ a) (h1 : a ≤ 16) (h2 : -67108864 ≤ d) (h3 : d ≤ 67108864) : -1073741824 ≤ a * d ∧ a * d ≤ 1073741824 := by
  by_cases hd : 0 ≤ d
  · have := Int.mul_le_mul_of_nonneg_right h1 hd
    have := Int.mul_nonneg h0 hd
    omega
  · have h4 := Int.mul_le_mul_of_nonneg_right h1 (by omega : 0 ≤ -d)
    have h5 := Int.mul_nonneg h0 (by omega : 0 ≤ -d)
    rw [Int.mul_neg] at h4 h5
    omega

theorem row_cell {w : World} {lo g m c : Nat} {l : List Int} (h : w.ownsRow lo 3 1 (.slice (some ⟨g, 0, none⟩) m c) l.length (l.map (Value.int .i64))) (q : Nat) (hq : q < l.length) :
    w.cell? ⟨g, q, none⟩ = some (.int .i64 (l.getD q 0)) := by
  have := h.cells (g := g) rfl q (.int .i64 (l.getD q 0)) (by simp [List.getD_eq_getElem?_getD, List.getElem?_eq_getElem hq])
  rw [show (⟨g, q, none⟩ : Addr) = (⟨g, 0, none⟩ : Addr).add q from by unfold Addr.add; split <;> simp_all]; exact this

set_option maxRecDepth 100000 in
set_option maxHeartbeats 16000000 in
theorem rate_main (r u a p : Int) (ad : Option Addr) (len cap : Nat) (zs : List Int) (w : World) (hlen : len ≤ 60) (hm : mayB r u a p = true) (hrow : Hid (IsRow w ad len zs)) :
    Calls Try.prog 4 #[.agg #[.int .i64 r, .int .i64 u, .int .i64 a, .int .i64 p], .slice ad len cap] w fun e w' => e = .returned (.bool true) ∧ Below w.heap.size w w' := by
  have d1 : decide (60 < (len : Int)) = false := by simp; omega
  have hq := may_parts hm
  have hu1 := hq.1
  have hu2 := hq.2.1
  have ha1 := hq.2.2.1
  have ha2 := hq.2.2.2
  clear hq
  have H0 : Hid (oneB r u a p u 0 = true) := by show _ = true; simp [oneB, hm, inB]; omega
  have HN : Hid (newV r u a p 0 = .tuple #[.agg #[.int .i64 u, .int .i64 0], .int .i64 0]) := by show _ = _; unfold newV; rw [hm]; simp [inB]
  obtain ⟨i0, hi, hz0, hz1, hz2⟩ := info_parts Try.info3
  go_enter Try.func4, Try.ntmps4
  go_wp2_with fail
  refine (refMay_any _ _ _ _ _).mono ?_
  rintro e w1 ⟨rfl, hb⟩
  obtain ⟨c0, c1, c2, c3, HB, sz0⟩ := box_of (by simpa using hb)
  clear hb
  go_wp2_with fail
  refine (new_any _ _ _ _ _ _).mono ?_
  rintro e w2 ⟨rfl, hb⟩
  rw [HN.out]
  have kp := call_keep hb
  replace c0 := kp _ _ c0
  replace c1 := kp _ _ c1
  replace c2 := kp _ _ c2
  replace c3 := kp _ _ c3
  replace sz0 := Nat.lt_of_lt_of_le sz0 hb.size
  replace HB := HB.trans (hb.mono HB.size)
  clear kp hb
  go_wp2_with fail
  have HM := Lib.hid (rs_start (K := u) (N := 0) c0 c1 c2 c3 HB sz0)
  clear c0 c1 c2 c3 HB sz0
  go_loopw [7, 8, 9] (fun nw v i wr => ∃ (k : Nat) (N K : Int) (l : List Int), k ≤ len ∧ l.length ≤ k ∧ i = .int .i64 k ∧ nw = .int .i64 N ∧ 0 ≤ N ∧ N ≤ 1048576 * k ∧ oneB r u a p K N = true ∧ PInv u a K N l ∧ RS r u a p K N w w2.heap.size v l wr) (fun _ _ i _ => len - (intOf i).toNat)
  case atStart => exact ⟨0, 0, u, [], by omega, by simp, rfl, rfl, by omega, by omega, H0.out, ⟨fun i hi => by simp at hi, fun i k _ hk => by simp at hk, fun i hi => by simp at hi⟩, HM.out⟩
  case round =>
    obtain ⟨k, N, K, l, hk, hll, rfl, rfl, hN0, hN1, ha, hp, hrs⟩ := hrel
    have HS := Lib.hid hrs
    have HA := Lib.hid ha
    have HP := Lib.hid hp
    clear hrs ha hp
    by_cases hlt : k < len
    · obtain ⟨b, off, rfl, hcell⟩ := row_some hrow.out (by omega)
      have hck := hcell k hlt
      obtain ⟨z, hz⟩ : ∃ z, z = zs.getD k 0 := ⟨_, rfl⟩
      rw [← hz] at hck
      have hbl : b < w.heap.size := World.block_lt_of_cell? w _ hck
      have hcr : wr.cell? ⟨b, off + k, none⟩ = some (.int .i64 z) := by rw [HS.out.bel.cell (by show b < _; exact hbl)]; exact hck
      clear hcell hck hz
      by_cases hzn : z < 0
      · go_wp2_with fail
        refine (live_any _).mono ?_
        rintro e w3 ⟨rfl, hb2⟩
        go_wp2_with fail
        go_ret
        exact ⟨rfl, HS.out.bel.trans (hb2.mono HS.out.bel.size)⟩
      · by_cases hzb : 1048576 < z
        · go_wp2_with fail
          refine (live_any _).mono ?_
          rintro e w3 ⟨rfl, hb2⟩
          go_wp2_with fail
          go_ret
          exact ⟨rfl, HS.out.bel.trans (hb2.mono HS.out.bel.size)⟩
        · have hNz : N + z ≤ 1048576 * (k + 1) := by omega
          obtain ⟨c0, c1, c2, c3, x0, x1, f0, f1, -, -, s5, s8⟩ := HS.out
          clear f0 f1
          rcases rate_round HA.out HP.out (show 0 ≤ z by omega) (by omega) with ⟨L, ht, ho, hpi⟩ | ⟨x, y, ht, ho, hpi, ht2⟩
          · have HT := Lib.hid ht
            have HO := Lib.hid ho
            have HPI := Lib.hid hpi
            clear ht ho hpi
            go_wp2_with fail
            refine (take_any _ _ _ _ _ _ _ _).mono ?_
            rintro e w3 ⟨rfl, hb3⟩
            rw [HT.out]
            have HS3 := Lib.hid (HS.out.kept hb3)
            clear hb3 c0 c1 c2 c3 x0 x1 s8 hcr
            have HS4 := Lib.hid ((HS3.out.laid (.cells #[.int .i64 (L - 1), .int .i64 (N + z)] 25)).laid (.cells #[.int .i64 (N + z)] 3))
            have h5 := HS3.out.s8
            go_wp2_with (at_builtin; refine wpList_append_own _ rfl _ _ 35 rfl (w2.heap.size + 1) 3 i0 (.int .i64 0) 1 8 Try.underlying35 hi hz0 hz1 hz2 rfl (by omega) _ _ _ rfl HS4.out.row ⟨w3.heap.size + 1, 0, none⟩ 1 1 [.int .i64 (N + z)] rfl rfl ?c1 ?c2 ?c3 ?c4 ?c5 ?_)
            case c1 => rw [show w3.heap.size + 1 = (w3.alloc (.cells #[.int .i64 (L - 1), .int .i64 (N + z)] 25)).heap.size by simp]; exact cell_one_new _ _ _
            case c2 => intro q hq; simp at hq; subst hq; rfl
            case c3 => unfold maxLen; omega
            case c4 => omega
            case c5 => simp; omega
            intro v' w4 hown hg _
            have hne : some w3.heap.size ≠ u8.ownBlock := fun e => by have := (HS3.out.row.lt _ e.symm).2; omega
            have e0 := hg.cell (a := ⟨w3.heap.size, 0, none⟩) (v := .int .i64 (L - 1)) (by simp) hne
            have e1 := hg.cell (a := ⟨w3.heap.size, 1, none⟩) (v := .int .i64 (N + z)) (by simp) hne
            have HS5 := Lib.hid (HS4.out.grown hg (l' := l ++ [N + z]) (by simpa using hown))
            obtain ⟨-, -, -, -, x0, x1, f0, f1, -, -, -, s8⟩ := HS5.out
            clear hown hg hne
            go_wp2_with fail
            go_roundw
            case rel => exact ⟨k + 1, N + z, L - 1, l ++ [N + z], by omega, by simp; omega, by go_num, rfl, by omega, by omega, HO.out, HPI.out, HS5.out.stored⟩
            case measure => simp [intOf]; omega
          · have HT := Lib.hid ht
            have HO := Lib.hid ho
            have HPI := Lib.hid hpi
            have HT2 := Lib.hid ht2
            clear ht ho hpi ht2
            go_wp2_with fail
            refine (take_any _ _ _ _ _ _ _ _).mono ?_
            rintro e w3 ⟨rfl, hb3⟩
            rw [HT.out]
            have HS3 := Lib.hid (HS.out.kept hb3)
            clear hb3 c0 c1 c2 c3 x0 x1 s8 hcr
            obtain ⟨c0, c1, c2, c3, x0, x1, f0, f1, -, -, -, s8⟩ := HS3.out
            have sw3 : w.heap.size < w3.heap.size := by omega
            go_wp2_with fail
            refine (take_any _ _ _ _ _ _ _ _).mono ?_
            rintro e w4 ⟨rfl, hb4⟩
            rw [HT2.out]
            obtain ⟨kp, nw, hbn, sz4⟩ := laid_keep hb4
            have e0 := nw 0 _ rfl
            have e1 := nw 1 _ rfl
            have HS4 := Lib.hid (HS3.out.kept hbn)
            clear kp nw hb4 hbn c0 c1 c2 c3 x0 x1 f0 f1 s8
            obtain ⟨-, -, -, -, x0, x1, f0, f1, -, -, -, s8⟩ := HS4.out
            go_wp2_with fail
            go_roundw
            case rel => exact ⟨k + 1, N + z, 0, l, by omega, by omega, by go_num, rfl, by omega, by omega, HO.out, HPI.out, HS4.out.stored.laid _⟩
            case measure => simp [intOf]; omega
    · go_wp2_with fail
      have hl60 : l.length ≤ 60 := by omega
      obtain ⟨sa, sc, rfl, hsa⟩ := slice_form HS.out.row
      go_loopw [14] (fun i wq => ∃ q : Nat, q ≤ l.length ∧ i = .int .i64 q ∧ RS r u a p K N w w2.heap.size (.slice sa l.length sc) l wq) (fun i _ => l.length - (intOf i).toNat)
      case atStart => exact ⟨0, by omega, rfl, HS.out⟩
      case round =>
        obtain ⟨q, hq1, rfl, hrs⟩ := hrel
        have HQ := Lib.hid hrs
        clear hrs
        by_cases hql : q < l.length
        · have hqm : (q : Int) < (l.length : Int) := by omega
          go_wp2_with fail
          go_loopw [15] (fun i wj => ∃ j : Nat, q ≤ j ∧ j ≤ l.length ∧ i = .int .i64 j ∧ RS r u a p K N w w2.heap.size (.slice sa l.length sc) l wj) (fun i _ => l.length - (intOf i).toNat)
          case atStart => exact ⟨q, by omega, by omega, rfl, HQ.out⟩
          case round =>
            obtain ⟨j, hj0, hj1, rfl, hrs⟩ := hrel
            by_cases hjl : j < l.length
            · have hjm : (j : Int) < (l.length : Int) := by omega
              obtain ⟨A, hA⟩ : ∃ A, A = l.getD q 0 := ⟨_, rfl⟩
              obtain ⟨B, hB⟩ : ∃ B, B = l.getD j 0 := ⟨_, rfl⟩
              have hall := HP.out.all q j hj0 hjl
              have bA := HP.out.bd q hql
              have bB := HP.out.bd j hjl
              rw [← hA] at hall bA
              rw [← hB] at hall bB
              obtain ⟨g, rfl⟩ := hsa (by omega)
              have kA := row_cell hrs.row q hql
              have kB := row_cell hrs.row j hjl
              rw [← hA] at kA
              rw [← hB] at kB
              have m1 : -1073741824 ≤ a * (B - A) ∧ a * (B - A) ≤ 1073741824 := prod_bd (by omega) (by omega) (by omega) (by omega)
              have hd : decide (u + a * (B - A) < (j : Int) - q + 1) = false := by simp; omega
              have i1 : IntKind.i64.wrap (B - A) = B - A := IntWalk.i64_in _ (by omega)
              have i2 : IntKind.i64.wrap (a * (B - A)) = a * (B - A) := IntWalk.i64_in _ (by omega)
              have i3 : IntKind.i64.wrap (u + a * (B - A)) = u + a * (B - A) := IntWalk.i64_in _ (by omega)
              have i4 : IntKind.i64.wrap ((j : Int) - (q : Int)) = (j : Int) - (q : Int) := IntWalk.i64_in _ (by omega)
              have i5 : IntKind.i64.wrap ((j : Int) - (q : Int) + 1) = (j : Int) - (q : Int) + 1 := IntWalk.i64_in _ (by omega)
              clear hA hB hall
              have HS := hrs.drew
              clear hrs
              go_wp2_with fail
              go_region_held3 (fun w' => w'.cell? ⟨w.heap.size, 1, none⟩ = some (.int .i64 u) ∧ w'.cell? ⟨w.heap.size, 2, none⟩ = some (.int .i64 a) ∧ w'.cell? ⟨g, q, none⟩ = some (.int .i64 A) ∧ w'.cell? ⟨g, j, none⟩ = some (.int .i64 B)) (first | exact ⟨HS.c1, HS.c2, kA, kB⟩) (fail)
              go_wp2_with fail
              go_roundw
              case rel => exact ⟨j + 1, by omega, by omega, by go_num, HS⟩
              case measure => simp [intOf]; omega
            · go_wp2_with fail
              go_roundw
              case rel => exact ⟨q + 1, by omega, by go_num, hrs⟩
              case measure => simp [intOf]; omega
        · go_wp2_with fail
          refine (live_any _).mono ?_
          rintro e w3 ⟨rfl, hb3⟩
          go_wp2_with fail
          go_ret
          exact ⟨rfl, HQ.out.bel.trans (hb3.mono HQ.out.bel.size)⟩

set_option maxRecDepth 100000 in
set_option maxHeartbeats 4000000 in
theorem rate_any (r u a p : Int) (ad : Option Addr) (len cap : Nat) (zs : List Int) (w : World) (hlm : len ≤ 9223372036854775807) (hrow : Hid (IsRow w ad len zs)) :
    Calls Try.prog 4 #[.agg #[.int .i64 r, .int .i64 u, .int .i64 a, .int .i64 p], .slice ad len cap] w fun e w' => e = .returned (.bool true) ∧ Below w.heap.size w w' := by
  by_cases hlen : len ≤ 60
  · cases hm : mayB r u a p with
    | false =>
      have d1 : decide (60 < (len : Int)) = false := by simp; omega
      go_enter Try.func4, Try.ntmps4
      go_wp2_with fail
      refine (refMay_any _ _ _ _ _).mono ?_
      rintro e w1 ⟨rfl, hb⟩
      obtain ⟨c0, c1, c2, c3, HB, sz0⟩ := box_of (by simpa using hb)
      clear hb
      go_wp2_with fail
      refine (live_any _).mono ?_
      rintro e w2 ⟨rfl, hb2⟩
      go_wp2_with fail
      go_ret
      exact ⟨rfl, HB.trans (hb2.mono HB.size)⟩
    | true => exact rate_main r u a p ad len cap zs w hlen hm hrow
  · have d1 : (60 : Int) < (len : Int) := by omega
    go_enter Try.func4, Try.ntmps4
    go_wp2_with fail
    refine (live_any _).mono ?_
    rintro e w2 ⟨rfl, hb2⟩
    go_wp2_with fail
    go_ret
    exact ⟨rfl, (Below.alloc (Below.refl _ _) (Nat.le_refl _) _).trans (hb2.mono (by simp))⟩

theorem rate_row {w : World} (r u a p : Int) (ad : Option Addr) (len cap : Nat) (zs : List Int) (_ : IntKind.i64.min ≤ r) (_ : r ≤ IntKind.i64.max) (_ : IntKind.i64.min ≤ u) (_ : u ≤ IntKind.i64.max) (_ : IntKind.i64.min ≤ a) (_ : a ≤ IntKind.i64.max) (_ : IntKind.i64.min ≤ p) (_ : p ≤ IntKind.i64.max)
    (hlm : len ≤ 9223372036854775807) (hrow : Hid (IsRow w ad len zs)) (_ : World) :
    Calls Try.prog 4 #[.agg #[.int .i64 r, .int .i64 u, .int .i64 a, .int .i64 p], .slice ad len cap] w fun e w' => e = .returned (.bool true) ∧ Below w.heap.size w w' :=
  rate_any r u a p ad len cap zs w hlm hrow

end Go.Proofs.Ytlidfgpjhoddjaa
