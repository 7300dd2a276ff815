/-
  What Take of pace and of its reference computes, for all numbers.
-/
import Derived.Test.YtlidfgpjhoddjaaLevel

namespace Go.Proofs.Ytlidfgpjhoddjaa
open Go.RowKit

def takeB (r u a p k t n : Int) : Bool := fitsB r u a p k t n && !(levI u a k t n == 0)
def takeK (r u a p k t n : Int) : Int := if fitsB r u a p k t n = true then (if levI u a k t n = 0 then 0 else levI u a k t n - 1) else k
def takeT (r u a p k t n : Int) : Int := if fitsB r u a p k t n = true then atI t n else t
/-- What Take tells. -/
def takeV (r u a p k t n : Int) : Value := .tuple #[.agg #[.int .i64 (takeK r u a p k t n), .int .i64 (takeT r u a p k t n)], .bool (takeB r u a p k t n)]

theorem takeV_no {r u a p k t n : Int} (h : ¬ fitsB r u a p k t n = true) : Value.tuple #[.agg #[.int .i64 k, .int .i64 t], .bool false] = takeV r u a p k t n := by
  unfold takeV takeK takeT takeB
  rw [if_neg h, if_neg h]
  have h' : fitsB r u a p k t n = false := by simpa using h
  rw [h']; rfl

theorem takeV_zero {r u a p k t n : Int} (h : fitsB r u a p k t n = true) (hl : levI u a k t n = 0) : Value.tuple #[.agg #[.int .i64 (levI u a k t n), .int .i64 (atI t n)], .bool false] = takeV r u a p k t n := by
  unfold takeV takeK takeT takeB
  rw [if_pos h, if_pos h, if_pos hl, h, hl]; rfl

theorem takeV_some {r u a p k t n : Int} (h : fitsB r u a p k t n = true) (hl : levI u a k t n ≠ 0) : Value.tuple #[.agg #[.int .i64 (levI u a k t n - 1), .int .i64 (atI t n)], .bool true] = takeV r u a p k t n := by
  unfold takeV takeK takeT takeB
  rw [if_pos h, if_pos h, if_neg hl, h, beq_eq_false_iff_ne.2 hl]; rfl

theorem at_low {t n : Int} (h : n < t) : t = atI t n := by unfold atI; rw [if_neg (by omega)]
theorem at_high {t n : Int} (h : t ≤ n) : n = atI t n := by unfold atI; split <;> omega
theorem takeV_zero2 {r u a p k t n x : Int} (h : fitsB r u a p k t n = true) (hl : levI u a k t n = 0) (hx : x = atI t n) : Value.tuple #[.agg #[.int .i64 0, .int .i64 x], .bool false] = takeV r u a p k t n := by
  rw [← takeV_zero h hl, hl, hx]
theorem takeV_some2 {r u a p k t n x : Int} (h : fitsB r u a p k t n = true) (hl : levI u a k t n ≠ 0) (hx : x = atI t n) : Value.tuple #[.agg #[.int .i64 (levI u a k t n - 1), .int .i64 x], .bool true] = takeV r u a p k t n := by
  rw [← takeV_some h hl, hx]

theorem res_kept {w w2 w4 : World} {x y : Value} (hsz : w.heap.size + 1 + 1 < w2.heap.size)
    (z0 : w2.cell? ⟨w.heap.size + 1 + 1, 0, none⟩ = some (.int .i64 0)) (z1 : w2.cell? ⟨w.heap.size + 1 + 1, 1, none⟩ = some (.int .i64 0))
    (g0 : w2.frozen? ⟨w.heap.size + 1 + 1, 0, none⟩ = false) (g1 : w2.frozen? ⟨w.heap.size + 1 + 1, 1, none⟩ = false) (hB : Below w.heap.size w w2)
    (h : Below ((w2.setCell ⟨w.heap.size + 1, 0, none⟩ x).setCell ⟨w.heap.size + 1, 1, none⟩ y).heap.size ((w2.setCell ⟨w.heap.size + 1, 0, none⟩ x).setCell ⟨w.heap.size + 1, 1, none⟩ y) w4) :
    w4.cell? ⟨w.heap.size + 1 + 1, 0, none⟩ = some (.int .i64 0) ∧ w4.cell? ⟨w.heap.size + 1 + 1, 1, none⟩ = some (.int .i64 0) ∧ w4.frozen? ⟨w.heap.size + 1 + 1, 0, none⟩ = false ∧ w4.frozen? ⟨w.heap.size + 1 + 1, 1, none⟩ = false ∧ Below w.heap.size w w4 ∧ w.heap.size + 1 + 1 < w4.heap.size := by
  have hs : ((w2.setCell ⟨w.heap.size + 1, 0, none⟩ x).setCell ⟨w.heap.size + 1, 1, none⟩ y).heap.size = w2.heap.size := by simp [World.setCell]
  have hb : ((w2.setCell ⟨w.heap.size + 1, 0, none⟩ x).setCell ⟨w.heap.size + 1, 1, none⟩ y).heap[w.heap.size + 1 + 1]? = w2.heap[w.heap.size + 1 + 1]? := by
    rw [Below.heap_setCell _ _ _ _ (by show w.heap.size + 1 + 1 ≠ w.heap.size + 1; omega), Below.heap_setCell _ _ _ _ (by show w.heap.size + 1 + 1 ≠ w.heap.size + 1; omega)]
  have hk := h.block (w.heap.size + 1 + 1) (by omega)
  rw [hb] at hk
  have hz := h.size
  refine ⟨?_, ?_, ?_, ?_, ((hB.setCell (by show w.heap.size ≤ w.heap.size + 1; omega) _).setCell (by show w.heap.size ≤ w.heap.size + 1; omega) _).trans (h.mono (by have := hB.size; omega)), by omega⟩
  · rw [World.cell?_of_block (w := w2) hk]; exact z0
  · rw [World.cell?_of_block (w := w2) hk]; exact z1
  · rw [World.frozen?_of_block (w := w2) hk]; exact g0
  · rw [World.frozen?_of_block (w := w2) hk]; exact g1

set_option maxHeartbeats 1000000 in
theorem take_any (r u a p k t n : Int) (w : World) :
    Calls Try.prog 10 #[.agg #[.int .i64 r, .int .i64 u, .int .i64 a, .int .i64 p], .agg #[.int .i64 k, .int .i64 t], .int .i64 n] w fun e w' => e = .returned (takeV r u a p k t n) ∧ Below w.heap.size w w' := by
  by_cases hf : fitsB r u a p k t n = true
  · have hlb := lev_bd hf
    have hab := at_bd hf
    have hpb := fits_parts hf
    have hub := hpb.2.1
    have hl0 := hlb.1
    have hl1 := hlb.2
    have ha0 := hab.1
    have ha1 := hab.2
    clear hlb hab hpb
    have HF := Lib.hid hf
    by_cases hz : levI u a k t n = 0
    · have hzb : (levI u a k t n == 0) = true := by simpa using hz
      have HZ := Lib.hid hz
      clear hz
      go_enter Try.func10, Try.ntmps10
      go_wp2_with fail
      refine (fits_any _ _ _ _ _ _ _ _).mono ?_
      rintro e w1 ⟨rfl, hb⟩
      obtain ⟨hbx, -⟩ := boxes3 (by simpa using hb)
      obtain ⟨c0, c1, c2, c3, b0, b1, bel, hsz⟩ := hbx
      clear bel
      go_wp2_with fail
      refine (later_fits HF.out _).mono ?_
      rintro e w2 ⟨rfl, hb2⟩
      clear c0 c1 c2 c3 b0 b1
      obtain ⟨hbx2, z0, z1, f0, f1, g0, g1, hsz2⟩ := boxes3 (by simpa using hb.trans (hb2.mono hb.size))
      obtain ⟨c0, c1, c2, c3, b0, b1, bel, _⟩ := hbx2
      have HB := Lib.hid bel
      clear bel hb hb2
      go_wp2_with fail
      refine bodyPost_ret (v := .tuple #[.agg #[.int .i64 (levI u a k t n), .int .i64 (atI t n)], .bool false]) (by simp [results, Try.results10, go_sem, z0, z1]) rfl ⟨ret_val (takeV_zero HF.out HZ.out), ?_⟩
      exact (((HB.out.setCell (by simp) _).setCell (by simp) _).setCell (by simp; omega) _).setCell (by simp; omega) _
    · have hzb : (levI u a k t n == 0) = false := by simpa using hz
      have HZ := Lib.hid hz
      have hl2 : 1 ≤ levI u a k t n := by omega
      obtain ⟨K, hK⟩ := Int.eq_ofNat_of_zero_le hl0
      obtain ⟨T, hT⟩ := Int.eq_ofNat_of_zero_le ha0
      have hsub := fun W => sub_c K T (by rw [H53]; omega) (by rw [H53]; omega) (by omega) W
      have hpt := fun W => point_any K T (by rw [H53]; omega) (by rw [H53]; omega) W
      have hbk := fun W => bucket_any (K - 1) T (by rw [H53]; omega) (by rw [H53]; omega) W
      rw [← hK, ← hT] at hpt
      have eK : ((K - 1 : Nat) : Int) = levI u a k t n - 1 := by omega
      rw [eK, ← hT] at hbk
      have HPT := Lib.hid hpt
      have HBK := Lib.hid hbk
      clear hz hK hT eK hpt hbk
      go_enter Try.func10, Try.ntmps10
      go_wp2_with fail
      refine (fits_any _ _ _ _ _ _ _ _).mono ?_
      rintro e w1 ⟨rfl, hb⟩
      obtain ⟨hbx, -⟩ := boxes3 (by simpa using hb)
      obtain ⟨c0, c1, c2, c3, b0, b1, bel, hsz⟩ := hbx
      clear bel
      go_wp2_with fail
      refine (later_fits HF.out _).mono ?_
      rintro e w2 ⟨rfl, hb2⟩
      clear c0 c1 c2 c3 b0 b1
      obtain ⟨hbx2, z0, z1, f0, f1, g0, g1, hsz2⟩ := boxes3 (by simpa using hb.trans (hb2.mono hb.size))
      obtain ⟨c0, c1, c2, c3, b0, b1, bel, _⟩ := hbx2
      have HB := Lib.hid bel
      clear bel hb hb2
      go_wp2_with fail
      refine (HPT.out _).mono ?_
      rintro e w3 ⟨rfl, hb3⟩
      go_wp2_with fail
      refine (HBK.out _).mono ?_
      rintro e w4 ⟨rfl, hb4⟩
      have hb5 := hb3.trans (hb4.mono hb3.size)
      obtain ⟨y0, y1, x0, x1, hbel, hsz4⟩ := res_kept hsz2 z0 z1 g0 g1 HB.out hb5
      have HB2 := Lib.hid hbel
      clear hbel hb3 hb4 hb5 z0 z1 f0 f1 g0 g1 c0 c1 c2 c3 b0 b1
      go_wp2_with fail
      refine bodyPost_ret (v := .tuple #[.agg #[.int .i64 (levI u a k t n - 1), .int .i64 (atI t n)], .bool true]) (by simp [results, Try.results10, go_sem, y0, y1]) rfl ⟨ret_val (takeV_some HF.out HZ.out), ?_⟩
      exact (HB2.out.setCell (by simp; omega) _).setCell (by simp; omega) _
  · have HF := Lib.hid hf
    have hf' : fitsB r u a p k t n = false := by simpa using hf
    clear hf
    go_enter Try.func10, Try.ntmps10
    go_wp2_with fail
    refine (fits_any _ _ _ _ _ _ _ _).mono ?_
    rintro e w1 ⟨rfl, hb⟩
    obtain ⟨hbx, z0, z1, f0, f1, g0, g1, hsz2⟩ := boxes3 (by simpa using hb)
    obtain ⟨c0, c1, c2, c3, b0, b1, bel, hsz⟩ := hbx
    have HB := Lib.hid bel
    clear bel hb
    go_wp2_with fail
    refine bodyPost_ret (v := .tuple #[.agg #[.int .i64 k, .int .i64 t], .bool false]) (by simp [results, Try.results10, go_sem, z0, z1]) rfl ⟨ret_val (takeV_no HF.out), ?_⟩
    exact (HB.out.setCell (by simp; omega) _).setCell (by simp; omega) _

set_option maxHeartbeats 1000000 in
theorem refTake_any (r u a p k t n : Int) (w : World) :
    Calls Try.prog 11 #[.agg #[.int .i64 r, .int .i64 u, .int .i64 a, .int .i64 p], .agg #[.int .i64 k, .int .i64 t], .int .i64 n] w fun e w' => e = .returned (takeV r u a p k t n) ∧ Below w.heap.size w w' := by
  by_cases h1 : oneB r u a p k t = true
  · by_cases h2 : inB n 0 1099511627776 = true
    · have hf : fitsB r u a p k t n = true := by simp [fitsB, h1, h2]
      have hlb := lev_bd hf
      have hpb := fits_parts hf
      have hub := hpb.2.1
      have hl0 := hlb.1
      have hl1 := hlb.2
      have HL : Hid (levelI r u a p k t n = levI u a k t n) := by show _ = _; unfold levelI; rw [if_pos hf]
      have HF := Lib.hid hf
      clear hlb hpb hf
      by_cases hz : levI u a k t n = 0
      · have hzb : (levI u a k t n == 0) = true := by simpa using hz
        have HZ := Lib.hid hz
        clear hz
        go_enter Try.func11, Try.ntmps11
        go_wp2_with fail
        refine (one_any _ _ _ _ _ _ _).mono ?_
        rintro e w1 ⟨rfl, hb⟩
        obtain ⟨hbx, -⟩ := boxes3 (by simpa using hb)
        obtain ⟨c0, c1, c2, c3, b0, b1, bel, hsz⟩ := hbx
        clear bel
        go_wp2_with fail
        refine (refTime_any _ _).mono ?_
        rintro e w' ⟨rfl, rfl⟩
        go_wp2_with fail
        refine (refLevel_any _ _ _ _ _ _ _ _).mono ?_
        rintro e w2 ⟨rfl, hb2⟩
        rw [HL.out]
        clear c0 c1 c2 c3 b0 b1
        obtain ⟨hbx2, z0, z1, f0, f1, g0, g1, hsz2⟩ := boxes3 (by simpa using hb.trans (hb2.mono hb.size))
        obtain ⟨c0, c1, c2, c3, b0, b1, bel, _⟩ := hbx2
        have HB := Lib.hid bel
        clear bel hb hb2
        go_wp2_with fail
        · refine bodyPost_ret (v := .tuple #[.agg #[.int .i64 0, .int .i64 t], .bool false]) (by simp [results, Try.results11, go_sem, z0, z1]) rfl ⟨ret_val (takeV_zero2 HF.out HZ.out (at_low (by assumption))), ?_⟩
          exact (HB.out.setCell (by simp; omega) _).setCell (by simp; omega) _
        · refine bodyPost_ret (v := .tuple #[.agg #[.int .i64 0, .int .i64 n], .bool false]) (by simp [results, Try.results11, go_sem, z0, z1]) rfl ⟨ret_val (takeV_zero2 HF.out HZ.out (at_high (by assumption))), ?_⟩
          exact (HB.out.setCell (by simp; omega) _).setCell (by simp; omega) _
      · have hzb : (levI u a k t n == 0) = false := by simpa using hz
        have HZ := Lib.hid hz
        have hl2 : 1 ≤ levI u a k t n := by omega
        clear hz
        go_enter Try.func11, Try.ntmps11
        go_wp2_with fail
        refine (one_any _ _ _ _ _ _ _).mono ?_
        rintro e w1 ⟨rfl, hb⟩
        obtain ⟨hbx, -⟩ := boxes3 (by simpa using hb)
        obtain ⟨c0, c1, c2, c3, b0, b1, bel, hsz⟩ := hbx
        clear bel
        go_wp2_with fail
        refine (refTime_any _ _).mono ?_
        rintro e w' ⟨rfl, rfl⟩
        go_wp2_with fail
        refine (refLevel_any _ _ _ _ _ _ _ _).mono ?_
        rintro e w2 ⟨rfl, hb2⟩
        rw [HL.out]
        clear c0 c1 c2 c3 b0 b1
        obtain ⟨hbx2, z0, z1, f0, f1, g0, g1, hsz2⟩ := boxes3 (by simpa using hb.trans (hb2.mono hb.size))
        obtain ⟨c0, c1, c2, c3, b0, b1, bel, _⟩ := hbx2
        have HB := Lib.hid bel
        clear bel hb hb2
        go_wp2_with fail
        · refine bodyPost_ret (v := .tuple #[.agg #[.int .i64 (levI u a k t n - 1), .int .i64 t], .bool true]) (by simp [results, Try.results11, go_sem, z0, z1]) rfl ⟨ret_val (takeV_some2 HF.out HZ.out (at_low (by assumption))), ?_⟩
          exact (HB.out.setCell (by simp; omega) _).setCell (by simp; omega) _
        · refine bodyPost_ret (v := .tuple #[.agg #[.int .i64 (levI u a k t n - 1), .int .i64 n], .bool true]) (by simp [results, Try.results11, go_sem, z0, z1]) rfl ⟨ret_val (takeV_some2 HF.out HZ.out (at_high (by assumption))), ?_⟩
          exact (HB.out.setCell (by simp; omega) _).setCell (by simp; omega) _
    · have hf : ¬ fitsB r u a p k t n = true := by simp [fitsB, h2]
      have HF := Lib.hid hf
      have h2' : inB n 0 1099511627776 = false := by simpa using h2
      clear hf h2
      go_enter Try.func11, Try.ntmps11
      go_wp2_with fail
      refine (one_any _ _ _ _ _ _ _).mono ?_
      rintro e w1 ⟨rfl, hb⟩
      obtain ⟨hbx, z0, z1, f0, f1, g0, g1, hsz2⟩ := boxes3 (by simpa using hb)
      obtain ⟨c0, c1, c2, c3, b0, b1, bel, hsz⟩ := hbx
      have HB := Lib.hid bel
      clear bel hb
      go_wp2_with fail
      refine (refTime_any _ _).mono ?_
      rintro e w' ⟨rfl, rfl⟩
      go_wp2_with fail
      refine bodyPost_ret (v := .tuple #[.agg #[.int .i64 k, .int .i64 t], .bool false]) (by simp [results, Try.results11, go_sem, z0, z1]) rfl ⟨ret_val (takeV_no HF.out), ?_⟩
      exact (HB.out.setCell (by simp; omega) _).setCell (by simp; omega) _
  · have hf : ¬ fitsB r u a p k t n = true := by simp [fitsB, h1]
    have HF := Lib.hid hf
    have h1' : oneB r u a p k t = false := by simpa using h1
    clear hf h1
    go_enter Try.func11, Try.ntmps11
    go_wp2_with fail
    refine (one_any _ _ _ _ _ _ _).mono ?_
    rintro e w1 ⟨rfl, hb⟩
    obtain ⟨hbx, z0, z1, f0, f1, g0, g1, hsz2⟩ := boxes3 (by simpa using hb)
    obtain ⟨c0, c1, c2, c3, b0, b1, bel, hsz⟩ := hbx
    have HB := Lib.hid bel
    clear bel hb
    go_wp2_with fail
    refine bodyPost_ret (v := .tuple #[.agg #[.int .i64 k, .int .i64 t], .bool false]) (by simp [results, Try.results11, go_sem, z0, z1]) rfl ⟨ret_val (takeV_no HF.out), ?_⟩
    exact (HB.out.setCell (by simp; omega) _).setCell (by simp; omega) _

end Go.Proofs.Ytlidfgpjhoddjaa
