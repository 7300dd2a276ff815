/-
  The walk of PaceMore: it answers true at every config, two buckets and list of waits; nothing that was there is changed.
-/
import Derived.Test.YtlidfgpjhoddjaaMayW
import Derived.Deep.RegionHeld3

namespace Go.Proofs.Ytlidfgpjhoddjaa
open Go.RowKit

/-- What is known of a slice of whole numbers that came in. -/
def IsRow (w : World) (a : Option Addr) (len : Nat) (zs : List Int) : Prop :=
  len = 0 ∨ ∃ b off, a = some ⟨b, off, none⟩ ∧ ∀ i, i < len → w.cell? ⟨b, off + i, none⟩ = some (.int .i64 (zs.getD i 0))

theorem boxes_ofT {r u a p k t : Int} {T T2 : TypeId} {w w1 : World} (h : Below (w.heap.size + 1 + 1) ((w.alloc (.cells #[.int .i64 r, .int .i64 u, .int .i64 a, .int .i64 p] T)).alloc (.cells #[.int .i64 k, .int .i64 t] T2)) w1) : Boxes r u a p k t w w1 := by
  have hs := h.size
  simp at hs
  refine ⟨?_, ?_, ?_, ?_, ?_, ?_, (Below.alloc (Below.alloc (Below.refl _ _) (Nat.le_refl _) _) (by simp) _).trans (h.mono (by omega)), by omega⟩
  · rw [h.cell (by show w.heap.size < _; omega)]; simp
  · rw [h.cell (by show w.heap.size < _; omega)]; simp
  · rw [h.cell (by show w.heap.size < _; omega)]; simp
  · rw [h.cell (by show w.heap.size < _; omega)]; simp
  · rw [h.cell (by show w.heap.size + 1 < _; omega)]; simp
  · rw [h.cell (by show w.heap.size + 1 < _; omega)]; simp

theorem row_some {w : World} {a : Option Addr} {len : Nat} {zs : List Int} (h : IsRow w a len zs) (hl : 0 < len) : ∃ b off, a = some ⟨b, off, none⟩ ∧ ∀ i, i < len → w.cell? ⟨b, off + i, none⟩ = some (.int .i64 (zs.getD i 0)) := by
  rcases h with h | h
  · omega
  · exact h

/-- The world in the law's loop: the config's box, and the two buckets' boxes. -/
structure MS (r u a p ka kb N : Int) (w : World) (b7 b8 : Nat) (wr : World) : Prop where
  c0 : wr.cell? ⟨w.heap.size, 0, none⟩ = some (.int .i64 r)
  c1 : wr.cell? ⟨w.heap.size, 1, none⟩ = some (.int .i64 u)
  c2 : wr.cell? ⟨w.heap.size, 2, none⟩ = some (.int .i64 a)
  c3 : wr.cell? ⟨w.heap.size, 3, none⟩ = some (.int .i64 p)
  x0 : wr.cell? ⟨b7, 0, none⟩ = some (.int .i64 ka)
  x1 : wr.cell? ⟨b7, 1, none⟩ = some (.int .i64 N)
  y0 : wr.cell? ⟨b8, 0, none⟩ = some (.int .i64 kb)
  y1 : wr.cell? ⟨b8, 1, none⟩ = some (.int .i64 N)
  f0 : wr.frozen? ⟨b7, 0, none⟩ = false
  f1 : wr.frozen? ⟨b7, 1, none⟩ = false
  g0 : wr.frozen? ⟨b8, 0, none⟩ = false
  g1 : wr.frozen? ⟨b8, 1, none⟩ = false
  bel : Below w.heap.size w wr
  s7 : w.heap.size < b7
  s78 : b7 < b8
  s8 : b8 < wr.heap.size

theorem MS.kept {r u a p ka kb N : Int} {w wr w1 : World} {b7 b8 : Nat} (h : MS r u a p ka kb N w b7 b8 wr) (hb : Below wr.heap.size wr w1) : MS r u a p ka kb N w b7 b8 w1 := by
  have kp := call_keep hb
  obtain ⟨c0, c1, c2, c3, x0, x1, y0, y1, f0, f1, g0, g1, bel, s7, s78, s8⟩ := h
  have hz := hb.size
  refine ⟨kp _ _ c0, kp _ _ c1, kp _ _ c2, kp _ _ c3, kp _ _ x0, kp _ _ x1, kp _ _ y0, kp _ _ y1, ?_, ?_, ?_, ?_, bel.trans (hb.mono bel.size), s7, s78, by omega⟩
  · rw [hb.frozen (by show b7 < _; omega)]; exact f0
  · rw [hb.frozen (by show b7 < _; omega)]; exact f1
  · rw [hb.frozen (by show b8 < _; omega)]; exact g0
  · rw [hb.frozen (by show b8 < _; omega)]; exact g1

theorem MS.drew {r u a p ka kb N : Int} {w wr : World} {b7 b8 : Nat} (h : MS r u a p ka kb N w b7 b8 wr) : MS r u a p ka kb N w b7 b8 wr.drew := h.kept (Below.drew (Below.refl _ _))

theorem MS.laid {r u a p ka kb N : Int} {w wr : World} {b7 b8 : Nat} (h : MS r u a p ka kb N w b7 b8 wr) (o : Obj) : MS r u a p ka kb N w b7 b8 (wr.alloc o) := h.kept (Below.alloc (Below.refl _ _) (Nat.le_refl _) o)

theorem frozen_set {w : World} {a b : Addr} {v : Value} (h : w.frozen? b = false) : (w.setCell a v).frozen? b = false := by rw [← h]; simp

theorem cell_set_far {w : World} {a b : Addr} {v u : Value} (hne : b.block ≠ a.block) (h : w.cell? b = some u) : (w.setCell a v).cell? b = some u := by
  rw [World.cell?_of_block (w := w) (Below.heap_setCell _ _ _ _ hne)]; exact h

theorem cell_set_same {w : World} {a : Addr} {v u : Value} (h : w.cell? a = some u) : (w.setCell a v).cell? a = some v := World.cell?_setCell_same _ _ _ h

theorem cell_set_off {w : World} {b i j : Nat} {v u : Value} (hne : i ≠ j) (h : w.cell? ⟨b, i, none⟩ = some u) : (w.setCell ⟨b, j, none⟩ v).cell? ⟨b, i, none⟩ = some u := by
  rw [World.cell?_setCell_other _ _ _ _ (by intro e; cases e; exact hne rfl)]; exact h

theorem MS.stored {r u a p ka kb N ka' kb' N' : Int} {w wr : World} {b7 b8 : Nat} (h : MS r u a p ka kb N w b7 b8 wr) :
    MS r u a p ka' kb' N' w b7 b8 ((((wr.setCell ⟨b7, 0, none⟩ (.int .i64 ka')).setCell ⟨b7, 1, none⟩ (.int .i64 N')).setCell ⟨b8, 0, none⟩ (.int .i64 kb')).setCell ⟨b8, 1, none⟩ (.int .i64 N')) := by
  obtain ⟨c0, c1, c2, c3, x0, x1, y0, y1, f0, f1, g0, g1, bel, s7, s78, s8⟩ := h
  have far : ∀ {b i : Nat} {v : Value}, b ≠ b7 → b ≠ b8 → wr.cell? ⟨b, i, none⟩ = some v → ((((wr.setCell ⟨b7, 0, none⟩ (.int .i64 ka')).setCell ⟨b7, 1, none⟩ (.int .i64 N')).setCell ⟨b8, 0, none⟩ (.int .i64 kb')).setCell ⟨b8, 1, none⟩ (.int .i64 N')).cell? ⟨b, i, none⟩ = some v :=
    fun h7 h8 hc => cell_set_far h8 (cell_set_far h8 (cell_set_far h7 (cell_set_far h7 hc)))
  refine ⟨far (by omega) (by omega) c0, far (by omega) (by omega) c1, far (by omega) (by omega) c2, far (by omega) (by omega) c3, ?_, ?_, ?_, ?_, frozen_set (frozen_set (frozen_set (frozen_set f0))), frozen_set (frozen_set (frozen_set (frozen_set f1))), frozen_set (frozen_set (frozen_set (frozen_set g0))), frozen_set (frozen_set (frozen_set (frozen_set g1))), ?_, s7, s78, by simpa [World.setCell] using s8⟩
  · exact cell_set_far (by show b7 ≠ b8; omega) (cell_set_far (by show b7 ≠ b8; omega) (cell_set_off (by decide) (cell_set_same x0)))
  · exact cell_set_far (by show b7 ≠ b8; omega) (cell_set_far (by show b7 ≠ b8; omega) (cell_set_same (cell_set_off (by decide) x1)))
  · exact cell_set_off (by decide) (cell_set_same (cell_set_far (by show b8 ≠ b7; omega) (cell_set_far (by show b8 ≠ b7; omega) y0)))
  · exact cell_set_same (cell_set_off (by decide) (cell_set_far (by show b8 ≠ b7; omega) (cell_set_far (by show b8 ≠ b7; omega) y1)))
  · exact (((bel.setCell (by show w.heap.size ≤ b7; omega) _).setCell (by show w.heap.size ≤ b7; omega) _).setCell (by show w.heap.size ≤ b8; omega) _).setCell (by show w.heap.size ≤ b8; omega) _

theorem lev_more {u a k k' t n : Int} (h : k ≤ k') : levI u a k t n ≤ levI u a k' t n := by
  unfold levI
  split <;> omega

/-- A round of plain numbers: both buckets are taken from. -/
theorem more_round {r u a p ka kb N N' : Int} (ha : oneB r u a p ka N = true) (hb : oneB r u a p kb N = true) (hk : ka ≤ kb) (h0 : N ≤ N') (h1 : N' ≤ 1099511627776) :
    ∃ xa xb la lb wa wb, ∃ da db : Bool, takeV r u a p ka N N' = .tuple #[.agg #[.int .i64 xa, .int .i64 N'], .bool da] ∧ takeV r u a p kb N N' = .tuple #[.agg #[.int .i64 xb, .int .i64 N'], .bool db] ∧
      levelI r u a p ka N N' = la ∧ levelI r u a p kb N N' = lb ∧ waitI r u a p ka N N' = wa ∧ waitI r u a p kb N N' = wb ∧ la ≤ lb ∧ wb ≤ wa ∧ (da && !db) = false ∧
      oneB r u a p xa N' = true ∧ oneB r u a p xb N' = true ∧ xa ≤ xb := by
  have pa := one_parts ha
  have pb := one_parts hb
  have fa := fits_of (n := N') ha (by omega) h1
  have fb := fits_of (n := N') hb (by omega) h1
  have ba := lev_bd fa
  have bb := lev_bd fb
  have hl : levI u a ka N N' ≤ levI u a kb N N' := lev_more hk
  have hat : atI N N' = N' := by unfold atI; split <;> omega
  refine ⟨takeK r u a p ka N N', takeK r u a p kb N N', _, _, _, _, takeB r u a p ka N N', takeB r u a p kb N N', ?_, ?_, rfl, rfl, rfl, rfl, ?_, ?_, ?_, ?_, ?_, ?_⟩
  · unfold takeV takeT; rw [if_pos fa, hat]
  · unfold takeV takeT; rw [if_pos fb, hat]
  · unfold levelI; rw [if_pos fa, if_pos fb]; exact hl
  · unfold waitI; rw [if_pos fa, if_pos fb]; split <;> split <;> omega
  · unfold takeB; rw [fa, fb]
    by_cases hz : levI u a kb N N' = 0
    · have : levI u a ka N N' = 0 := by omega
      rw [hz, this]; rfl
    · rw [beq_eq_false_iff_ne.2 hz]; simp
  · refine one_kept ha ?_ ?_ (by omega) h1 <;> unfold takeK <;> rw [if_pos fa] <;> split <;> omega
  · refine one_kept hb ?_ ?_ (by omega) h1 <;> unfold takeK <;> rw [if_pos fb] <;> split <;> omega
  · unfold takeK; rw [if_pos fa, if_pos fb]; split <;> split <;> omega

theorem ms_start {r u a p t0 t1 : Int} {w w1 : World} (c0 : w1.cell? ⟨w.heap.size, 0, none⟩ = some (.int .i64 r)) (c1 : w1.cell? ⟨w.heap.size, 1, none⟩ = some (.int .i64 u)) (c2 : w1.cell? ⟨w.heap.size, 2, none⟩ = some (.int .i64 a)) (c3 : w1.cell? ⟨w.heap.size, 3, none⟩ = some (.int .i64 p))
    (hB : Below w.heap.size w w1) (hs : w.heap.size < w1.heap.size) :
    MS r u a p t0 t1 0 w w1.heap.size (w1.heap.size + 1) ((w1.alloc (.cells #[.int .i64 t0, .int .i64 0] 25)).alloc (.cells #[.int .i64 t1, .int .i64 0] 25)) := by
  have kp1 := call_keep (Below.alloc (Below.refl _ _) (Nat.le_refl _) (.cells #[.int .i64 t0, .int .i64 0] 25) (w := w1))
  have kp2 := call_keep (Below.alloc (Below.refl _ _) (Nat.le_refl _) (.cells #[.int .i64 t1, .int .i64 0] 25) (w := w1.alloc (.cells #[.int .i64 t0, .int .i64 0] 25)))
  refine ⟨kp2 _ _ (kp1 _ _ c0), kp2 _ _ (kp1 _ _ c1), kp2 _ _ (kp1 _ _ c2), kp2 _ _ (kp1 _ _ c3), by simp, by simp, by simp, by simp, by simp, by simp, by simp, by simp, (hB.alloc hB.size _).alloc (by simp; omega) _, hs, by omega, by simp⟩

set_option maxRecDepth 100000 in
set_option maxHeartbeats 16000000 in
theorem more_main (r u a p t0 t1 : Int) (ad : Option Addr) (len cap : Nat) (zs : List Int) (w : World) (hlen : len ≤ 40) (hm : mayB r u a p = true) (h0 : 0 ≤ t0) (h1 : t0 ≤ t1) (h2 : t1 ≤ u) (hrow : Hid (IsRow w ad len zs)) :
    Calls Try.prog 7 #[.agg #[.int .i64 r, .int .i64 u, .int .i64 a, .int .i64 p], .agg #[.int .i64 t0, .int .i64 t1], .slice ad len cap] w fun e w' => e = .returned (.bool true) ∧ Below w.heap.size w w' := by
  have d1 : decide (40 < (len : Int)) = false := by simp; omega
  have d2 : decide (t0 < 0) = false := by simp; omega
  have d3 : decide (t1 < t0) = false := by simp; omega
  have d4 : decide (u < t1) = false := by simp; omega
  have H0 : Hid (oneB r u a p t0 0 = true) := by show _ = true; simp [oneB, hm, inB]; omega
  have H1 : Hid (oneB r u a p t1 0 = true) := by show _ = true; simp [oneB, hm, inB]; omega
  go_enter Try.func7, Try.ntmps7
  go_wp2_with fail
  refine (refMay_any _ _ _ _ _).mono ?_
  rintro e w1 ⟨rfl, hb⟩
  obtain ⟨c0, c1, c2, c3, b0, b1, HB, sz0⟩ := boxes_ofT (by simpa using hb)
  have szz : w.heap.size < w1.heap.size := by omega
  clear hb
  go_wp2_with fail
  have HM := Lib.hid (ms_start (t0 := t0) (t1 := t1) c0 c1 c2 c3 HB szz)
  clear c0 c1 c2 c3 b0 b1 HB sz0 szz
  go_loopw [9, 10] (fun nw i wr => ∃ (k : Nat) (N ka kb : Int), k ≤ len ∧ i = .int .i64 k ∧ nw = .int .i64 N ∧ 0 ≤ N ∧ N ≤ 1048576 * k ∧ oneB r u a p ka N = true ∧ oneB r u a p kb N = true ∧ ka ≤ kb ∧ MS r u a p ka kb N w w1.heap.size (w1.heap.size + 1) wr) (fun _ i _ => len - (intOf i).toNat)
  case atStart => exact ⟨0, 0, t0, t1, by omega, rfl, rfl, by omega, by omega, H0.out, H1.out, h1, HM.out⟩
  case round =>
    obtain ⟨k, N, ka, kb, hk, rfl, rfl, hN0, hN1, ha, hb, hkk, hms⟩ := hrel
    have HMS := Lib.hid hms
    have HA := Lib.hid ha
    have HBB := Lib.hid hb
    clear hms ha hb
    by_cases hlt : k < len
    · obtain ⟨b, off, rfl, hcell⟩ := row_some hrow.out (by omega)
      have hck := hcell k hlt
      obtain ⟨z, hz⟩ : ∃ z, z = zs.getD k 0 := ⟨_, rfl⟩
      rw [← hz] at hck
      have hbl : b < w.heap.size := World.block_lt_of_cell? w _ hck
      have hcr : wr.cell? ⟨b, off + k, none⟩ = some (.int .i64 z) := by rw [HMS.out.bel.cell (by show b < _; exact hbl)]; exact hck
      clear hcell hck hz
      by_cases hz0 : z < 0
      · go_wp2_with fail
        refine (live_any _).mono ?_
        rintro e w2 ⟨rfl, hb2⟩
        go_wp2_with fail
        go_ret
        exact ⟨rfl, HMS.out.bel.trans (hb2.mono HMS.out.bel.size)⟩
      · by_cases hz1 : 1048576 < z
        · go_wp2_with fail
          refine (live_any _).mono ?_
          rintro e w2 ⟨rfl, hb2⟩
          go_wp2_with fail
          go_ret
          exact ⟨rfl, HMS.out.bel.trans (hb2.mono HMS.out.bel.size)⟩
        · have hNz : N + z ≤ 1048576 * (k + 1) := by omega
          obtain ⟨xa, xb, la, lb, wa, wb, da, db, t1', t2', l1, l2, v1, v2, hll, hww, hdd, o1, o2, hxx⟩ := more_round HA.out HBB.out hkk (show N ≤ N + z by omega) (by omega)
          have T1 := Lib.hid t1'
          have T2 := Lib.hid t2'
          have L1 := Lib.hid l1
          have L2 := Lib.hid l2
          have V1 := Lib.hid v1
          have V2 := Lib.hid v2
          have O1 := Lib.hid o1
          have O2 := Lib.hid o2
          clear t1' t2' l1 l2 v1 v2 o1 o2
          have HS := HMS.out.drew
          clear HMS
          have hd1 : decide (lb < la) = false := by simp; omega
          have hd2 : decide (wa < wb) = false := by simp; omega
          have hcase : da = false ∨ (da = true ∧ db = true) := by
            cases da
            · exact .inl rfl
            · cases db
              · simp at hdd
              · exact .inr ⟨rfl, rfl⟩
          clear hdd
          rcases hcase with rfl | ⟨rfl, rfl⟩
          all_goals
              go_wp2_with fail
              go_region_held3 (fun w' => w'.cell? ⟨w.heap.size, 0, none⟩ = some (.int .i64 r) ∧ w'.cell? ⟨w.heap.size, 1, none⟩ = some (.int .i64 u) ∧ w'.cell? ⟨w.heap.size, 2, none⟩ = some (.int .i64 a) ∧ w'.cell? ⟨w.heap.size, 3, none⟩ = some (.int .i64 p) ∧
                  w'.cell? ⟨w1.heap.size, 0, none⟩ = some (.int .i64 ka) ∧ w'.cell? ⟨w1.heap.size, 1, none⟩ = some (.int .i64 N) ∧ w'.cell? ⟨w1.heap.size + 1, 0, none⟩ = some (.int .i64 kb) ∧ w'.cell? ⟨w1.heap.size + 1, 1, none⟩ = some (.int .i64 N)) (first | exact ⟨HS.c0, HS.c1, HS.c2, HS.c3, HS.x0, HS.x1, HS.y0, HS.y1⟩)
                (first | (go_at_call 14; refine (level_any _ _ _ _ _ _ _ _).mono ?_; rintro e w9 ⟨rfl, hb9⟩; (first | rw [L1.out] | rw [L2.out]); replace HS := HS.kept hb9; clear hb9) | (go_at_call 16; refine (wait_any _ _ _ _ _ _ _ _).mono ?_; rintro e w9 ⟨rfl, hb9⟩; (first | rw [V1.out] | rw [V2.out]); replace HS := HS.kept hb9; clear hb9))
              go_wp2_with fail
              refine (take_any _ _ _ _ _ _ _ _).mono ?_
              rintro e w2 ⟨rfl, hb2⟩
              rw [T1.out]
              replace HS := HS.kept hb2
              clear hb2
              have hcb := hcr
              clear hcr
              obtain ⟨c0, c1, c2, c3, x0, x1, y0, y1, f0, f1, g0, g1, bel, s7, s78, s8⟩ := HS
              have HS2 := Lib.hid (show MS r u a p ka kb N w w1.heap.size (w1.heap.size + 1) w2 from ⟨c0, c1, c2, c3, x0, x1, y0, y1, f0, f1, g0, g1, bel, s7, s78, s8⟩)
              have sw2 : w.heap.size < w2.heap.size := by omega
              have sv2 : w1.heap.size < w2.heap.size := by omega
              clear f0 f1 g0 g1 bel
              go_wp2_with fail
              refine (take_any _ _ _ _ _ _ _ _).mono ?_
              rintro e w3 ⟨rfl, hb3⟩
              rw [T2.out]
              obtain ⟨kp, nw, hbn, sz3⟩ := laid_keep hb3
              have HS3 := HS2.out.kept hbn
              have d0 := nw 0 _ rfl
              have d1' := nw 1 _ rfl
              have sz2 : w1.heap.size + 1 < w2.heap.size := s8
              clear kp nw hb3 hbn c0 c1 c2 c3 x0 x1 y0 y1 s8 HS2
              obtain ⟨c0, c1, c2, c3, x0, x1, y0, y1, f0, f1, g0, g1, bel, _, _, s8⟩ := HS3
              have HS4 := Lib.hid (show MS r u a p ka kb N w w1.heap.size (w1.heap.size + 1) w3 from ⟨c0, c1, c2, c3, x0, x1, y0, y1, f0, f1, g0, g1, bel, s7, s78, s8⟩)
              have sw3 : w.heap.size < w3.heap.size := by omega
              have sv3 : w1.heap.size < w3.heap.size := by omega
              have st3 : w1.heap.size + 1 < w3.heap.size := by omega
              clear bel c0 c1 c2 c3
              go_wp2_with fail
              go_roundw
              case rel => exact ⟨k + 1, N + z, xa, xb, by omega, by go_num, rfl, by omega, by omega, O1.out, O2.out, hxx, HS4.out.stored.laid _⟩
              case measure => simp [intOf]; omega
    · go_wp2_with fail
      refine (live_any _).mono ?_
      rintro e w2 ⟨rfl, hb2⟩
      go_wp2_with fail
      go_ret
      exact ⟨rfl, HMS.out.bel.trans (hb2.mono HMS.out.bel.size)⟩

set_option maxRecDepth 100000 in
set_option maxHeartbeats 4000000 in
theorem more_any (r u a p t0 t1 : Int) (ad : Option Addr) (len cap : Nat) (zs : List Int) (w : World) (hlm : len ≤ 9223372036854775807) (hrow : Hid (IsRow w ad len zs)) :
    Calls Try.prog 7 #[.agg #[.int .i64 r, .int .i64 u, .int .i64 a, .int .i64 p], .agg #[.int .i64 t0, .int .i64 t1], .slice ad len cap] w fun e w' => e = .returned (.bool true) ∧ Below w.heap.size w w' := by
  by_cases hlen : len ≤ 40
  · cases hm : mayB r u a p with
    | false =>
      have d1 : decide (40 < (len : Int)) = false := by simp; omega
      go_enter Try.func7, Try.ntmps7
      go_wp2_with fail
      refine (refMay_any _ _ _ _ _).mono ?_
      rintro e w1 ⟨rfl, hb⟩
      obtain ⟨c0, c1, c2, c3, b0, b1, HB, sz0⟩ := boxes_ofT (by simpa using hb)
      clear hb
      go_wp2_with fail
      refine (live_any _).mono ?_
      rintro e w2 ⟨rfl, hb2⟩
      go_wp2_with fail
      go_ret
      exact ⟨rfl, HB.trans (hb2.mono HB.size)⟩
    | true =>
      by_cases hok : 0 ≤ t0 ∧ t0 ≤ t1 ∧ t1 ≤ u
      · exact more_main r u a p t0 t1 ad len cap zs w hlen hm hok.1 hok.2.1 hok.2.2 hrow
      · have d1 : decide (40 < (len : Int)) = false := by simp; omega
        go_enter Try.func7, Try.ntmps7
        go_wp2_with fail
        refine (refMay_any _ _ _ _ _).mono ?_
        rintro e w1 ⟨rfl, hb⟩
        obtain ⟨c0, c1, c2, c3, b0, b1, HB, sz0⟩ := boxes_ofT (by simpa using hb)
        clear hb
        by_cases k0 : t0 < 0
        · go_wp2_with fail
          refine (live_any _).mono ?_
          rintro e w2 ⟨rfl, hb2⟩
          go_wp2_with fail
          go_ret
          exact ⟨rfl, HB.trans (hb2.mono HB.size)⟩
        · by_cases k1 : t1 < t0
          · go_wp2_with fail
            refine (live_any _).mono ?_
            rintro e w2 ⟨rfl, hb2⟩
            go_wp2_with fail
            go_ret
            exact ⟨rfl, HB.trans (hb2.mono HB.size)⟩
          · have k2 : u < t1 := by omega
            go_wp2_with fail
            refine (live_any _).mono ?_
            rintro e w2 ⟨rfl, hb2⟩
            go_wp2_with fail
            go_ret
            exact ⟨rfl, HB.trans (hb2.mono HB.size)⟩
  · have d1 : (40 : Int) < (len : Int) := by omega
    go_enter Try.func7, Try.ntmps7
    go_wp2_with fail
    refine (live_any _).mono ?_
    rintro e w2 ⟨rfl, hb2⟩
    go_wp2_with fail
    go_ret
    exact ⟨rfl, ((Below.alloc (Below.refl _ _) (Nat.le_refl _) _).alloc (by simp) _).trans (hb2.mono (by simp; omega))⟩

theorem more_row {w : World} (r u a p t0 t1 : Int) (ad : Option Addr) (len cap : Nat) (zs : List Int) (_ : IntKind.i64.min ≤ r) (_ : r ≤ IntKind.i64.max) (_ : IntKind.i64.min ≤ u) (_ : u ≤ IntKind.i64.max) (_ : IntKind.i64.min ≤ a) (_ : a ≤ IntKind.i64.max) (_ : IntKind.i64.min ≤ p) (_ : p ≤ IntKind.i64.max)
    (_ : IntKind.i64.min ≤ t0) (_ : t0 ≤ IntKind.i64.max) (_ : IntKind.i64.min ≤ t1) (_ : t1 ≤ IntKind.i64.max) (hlm : len ≤ 9223372036854775807) (hrow : Hid (IsRow w ad len zs)) (_ : World) :
    Calls Try.prog 7 #[.agg #[.int .i64 r, .int .i64 u, .int .i64 a, .int .i64 p], .agg #[.int .i64 t0, .int .i64 t1], .slice ad len cap] w fun e w' => e = .returned (.bool true) ∧ Below w.heap.size w w' :=
  more_any r u a p t0 t1 ad len cap zs w hlm hrow

end Go.Proofs.Ytlidfgpjhoddjaa
