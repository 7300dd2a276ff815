/-
  The reference's Act answers as Act does.
-/
import Derived.Test.YtjelnndiahkoeaaSidesW
namespace Go.Proofs.Ytjelnndiahkoeaa
open Go.RowKit

theorem act_out {x y : It} {k : Int} (h : fitsI x y = false ∨ k < 1 ∨ 6 < k) : act x y k = (x, y, 1) := by
  unfold act
  rw [if_pos (by rcases h with h | h | h; exact .inr h; exact .inl (.inl h); exact .inl (.inr h))]

theorem ab_four (t f o i b t' f' o' i' b' : Bool) (w : World) : AB t f o i b t' f' o' i' b' w (((((w.alloc (.cells #[.bool t, .bool f, .bool o, .bool i, .bool b] 23)).alloc (.cells #[.bool t', .bool f', .bool o', .bool i', .bool b'] 23)).alloc (.cells #[.bool false, .bool false, .bool false, .bool false, .bool false] 23)).alloc (.cells #[.bool false, .bool false, .bool false, .bool false, .bool false] 23))) := by
  have s2 : ((w.alloc (.cells #[.bool t, .bool f, .bool o, .bool i, .bool b] 23)).alloc (.cells #[.bool t', .bool f', .bool o', .bool i', .bool b'] 23)).heap.size = w.heap.size + 2 := by simp
  have s1 : (w.alloc (.cells #[.bool t, .bool f, .bool o, .bool i, .bool b] 23)).heap.size = w.heap.size + 1 := by simp
  have s3 : (((w.alloc (.cells #[.bool t, .bool f, .bool o, .bool i, .bool b] 23)).alloc (.cells #[.bool t', .bool f', .bool o', .bool i', .bool b'] 23)).alloc (.cells #[.bool false, .bool false, .bool false, .bool false, .bool false] 23)).heap.size = w.heap.size + 3 := by simp
  constructor
  case bel => exact (((Below.alloc (Below.refl _ _) (Nat.le_refl _) _).alloc (by simp) _).alloc (by simp; omega) _).alloc (by simp; omega) _
  case sz => simp
  case a0 => exact ak _ (ak _ (ak _ (nb _ rfl _ _ 0 _ rfl)))
  case b0 => exact ak _ (ak _ (nb _ s1 _ _ 0 _ rfl))
  case z0 => exact ak _ (nb _ s2 _ _ 0 _ rfl)
  case y0 => exact nb _ s3 _ _ 0 _ rfl
  case p0 => exact af _ (by rw [s3]; show w.heap.size + 2 < _; omega) (nf _ s2 _ _ 0)
  case q0 => exact nf _ s3 _ _ 0
  case a1 => exact ak _ (ak _ (ak _ (nb _ rfl _ _ 1 _ rfl)))
  case b1 => exact ak _ (ak _ (nb _ s1 _ _ 1 _ rfl))
  case z1 => exact ak _ (nb _ s2 _ _ 1 _ rfl)
  case y1 => exact nb _ s3 _ _ 1 _ rfl
  case p1 => exact af _ (by rw [s3]; show w.heap.size + 2 < _; omega) (nf _ s2 _ _ 1)
  case q1 => exact nf _ s3 _ _ 1
  case a2 => exact ak _ (ak _ (ak _ (nb _ rfl _ _ 2 _ rfl)))
  case b2 => exact ak _ (ak _ (nb _ s1 _ _ 2 _ rfl))
  case z2 => exact ak _ (nb _ s2 _ _ 2 _ rfl)
  case y2 => exact nb _ s3 _ _ 2 _ rfl
  case p2 => exact af _ (by rw [s3]; show w.heap.size + 2 < _; omega) (nf _ s2 _ _ 2)
  case q2 => exact nf _ s3 _ _ 2
  case a3 => exact ak _ (ak _ (ak _ (nb _ rfl _ _ 3 _ rfl)))
  case b3 => exact ak _ (ak _ (nb _ s1 _ _ 3 _ rfl))
  case z3 => exact ak _ (nb _ s2 _ _ 3 _ rfl)
  case y3 => exact nb _ s3 _ _ 3 _ rfl
  case p3 => exact af _ (by rw [s3]; show w.heap.size + 2 < _; omega) (nf _ s2 _ _ 3)
  case q3 => exact nf _ s3 _ _ 3
  case a4 => exact ak _ (ak _ (ak _ (nb _ rfl _ _ 4 _ rfl)))
  case b4 => exact ak _ (ak _ (nb _ s1 _ _ 4 _ rfl))
  case z4 => exact ak _ (nb _ s2 _ _ 4 _ rfl)
  case y4 => exact nb _ s3 _ _ 4 _ rfl
  case p4 => exact af _ (by rw [s3]; show w.heap.size + 2 < _; omega) (nf _ s2 _ _ 4)
  case q4 => exact nf _ s3 _ _ 4

set_option maxRecDepth 100000 in
set_option maxHeartbeats 8000000 in
theorem ref_no (k : Int) (t f o i b t' f' o' i' b' : Bool) (w : World) (hk : fitsB t f o i b t' f' o' i' b' = false ∨ k < 1 ∨ 6 < k) :
    Calls Try.prog 18 #[.agg #[.bool t, .bool f, .bool o, .bool i, .bool b], .agg #[.bool t', .bool f', .bool o', .bool i', .bool b'], .int .i64 k] w fun e w' => ∃ (x y : It) (c : Int), act ⟨t, f, o, i, b⟩ ⟨t', f', o', i', b'⟩ k = (x, y, c) ∧ e = .returned (.tuple #[.agg #[.bool x.t, .bool x.f, .bool x.o, .bool x.i, .bool x.b], .agg #[.bool y.t, .bool y.f, .bool y.o, .bool y.i, .bool y.b], .int .i64 c]) ∧ Below w.heap.size w w' := by
  have H4 := Lib.hid (ab_four t f o i b t' f' o' i' b' w)
  have HK := Lib.hid hk
  go_enter Try.func18, Try.ntmps18
  go_wp2_with fail
  refine (refMay_any _ _ _ _ _ _ _ _ _ _ _).mono ?_
  rintro e w1 ⟨rfl, hb⟩
  have H5 := Lib.hid (H4.out.kept hb (by simp) (Nat.le_refl _))
  clear hb H4
  obtain ⟨a0, a1, a2, a3, a4, b0, b1, b2, b3, b4, z0, z1, z2, z3, z4, y0, y1, y2, y3, y4, p0, p1, p2, p3, p4, q0, q1, q2, q3, q4, bel, sz⟩ := H5.out
  have HB := Lib.hid bel
  clear bel
  rcases (show fitsB t f o i b t' f' o' i' b' = false ∨ (fitsB t f o i b t' f' o' i' b' = true ∧ k < 1) ∨ (fitsB t f o i b t' f' o' i' b' = true ∧ ¬ k < 1 ∧ 6 < k) by
    rcases hk with h | h | h
    · exact .inl h
    · cases fitsB t f o i b t' f' o' i' b' <;> simp [h]
    · cases fitsB t f o i b t' f' o' i' b' <;> simp; omega) with h | ⟨h, h2⟩ | ⟨h, h2, h3⟩
  all_goals
    clear hk
    rw [h]
    go_wp2_with fail
    go_region
    obtain ⟨e0, e1, e2, e3, e4, e5, e6, e7, e8, e9⟩ := res_stored (W := w1) (b6 := w.heap.size + 1 + 1) (b7 := w.heap.size + 1 + 1 + 1) (by omega) (.bool t) (.bool f) (.bool o) (.bool i) (.bool b) (.bool t') (.bool f') (.bool o') (.bool i') (.bool b') z0 z1 z2 z3 z4 y0 y1 y2 y3 y4
    have eB := Lib.hid (res_below (b6 := w.heap.size + 1 + 1) (b7 := w.heap.size + 1 + 1 + 1) HB.out (by omega) (by omega) (.bool t) (.bool f) (.bool o) (.bool i) (.bool b) (.bool t') (.bool f') (.bool o') (.bool i') (.bool b'))
    clear a0 a1 a2 a3 a4 b0 b1 b2 b3 b4 z0 z1 z2 z3 z4 y0 y1 y2 y3 y4 p0 p1 p2 p3 p4 q0 q1 q2 q3 q4 HB
    generalize ((((((((((w1.setCell ⟨w.heap.size + 1 + 1, 0, none⟩ (.bool t)).setCell ⟨w.heap.size + 1 + 1, 1, none⟩ (.bool f)).setCell ⟨w.heap.size + 1 + 1, 2, none⟩ (.bool o)).setCell ⟨w.heap.size + 1 + 1, 3, none⟩ (.bool i)).setCell ⟨w.heap.size + 1 + 1, 4, none⟩ (.bool b)).setCell ⟨w.heap.size + 1 + 1 + 1, 0, none⟩ (.bool t')).setCell ⟨w.heap.size + 1 + 1 + 1, 1, none⟩ (.bool f')).setCell ⟨w.heap.size + 1 + 1 + 1, 2, none⟩ (.bool o')).setCell ⟨w.heap.size + 1 + 1 + 1, 3, none⟩ (.bool i')).setCell ⟨w.heap.size + 1 + 1 + 1, 4, none⟩ (.bool b')) = WF at e0 e1 e2 e3 e4 e5 e6 e7 e8 e9 eB ⊢
    go_wp2_with fail
    refine bodyPost_ret (v := .tuple #[.agg #[.bool t, .bool f, .bool o, .bool i, .bool b], .agg #[.bool t', .bool f', .bool o', .bool i', .bool b'], .int .i64 1]) (by simp [results, Try.results18, go_sem, e0, e1, e2, e3, e4, e5, e6, e7, e8, e9]) rfl ⟨⟨t, f, o, i, b⟩, ⟨t', f', o', i', b'⟩, 1, act_out HK.out, rfl, ?_⟩
    exact Below.drew eB.out

theorem two_new (t f o i b t' f' o' i' b' : Bool) (w1 : World) :
    C5 t f o i b w1.heap.size ((w1.alloc (.cells #[.bool t, .bool f, .bool o, .bool i, .bool b] 23)).alloc (.cells #[.bool t', .bool f', .bool o', .bool i', .bool b'] 23)) ∧
      C5 t' f' o' i' b' (w1.heap.size + 1) ((w1.alloc (.cells #[.bool t, .bool f, .bool o, .bool i, .bool b] 23)).alloc (.cells #[.bool t', .bool f', .bool o', .bool i', .bool b'] 23)) := by
  obtain ⟨h1, h2, -⟩ := box2 (t := t) (f := f) (o := o) (i := i) (b := b) (t' := t') (f' := f') (o' := o') (i' := i') (b' := b') (w := w1) (Below.refl _ _)
  exact ⟨h1, h2⟩

set_option maxRecDepth 100000 in
set_option maxHeartbeats 8000000 in
theorem ref1_0 (t' f' o' i' b' : Bool) (w : World) (hf : fitsB f' t' i' o' true t' f' o' i' b' = true) :
    Calls Try.prog 18 #[.agg #[.bool f', .bool t', .bool i', .bool o', .bool true], .agg #[.bool t', .bool f', .bool o', .bool i', .bool b'], .int .i64 1] w fun e w' => e = .returned (.tuple #[.agg #[.bool f', .bool t', .bool i', .bool o', .bool true], .agg #[.bool t', .bool f', .bool o', .bool i', .bool b'], .int .i64 8]) ∧ Below w.heap.size w w' := by
  have H4 := Lib.hid (ab_four f' t' i' o' true t' f' o' i' b' w)
  go_enter Try.func18, Try.ntmps18
  go_wp2_with fail
  refine (refMay_any _ _ _ _ _ _ _ _ _ _ _).mono ?_
  rintro e w1 ⟨rfl, hb⟩
  have H5 := Lib.hid (H4.out.kept hb (by simp) (Nat.le_refl _))
  clear hb H4
  obtain ⟨a0, a1, a2, a3, a4, b0, b1, b2, b3, b4, z0, z1, z2, z3, z4, y0, y1, y2, y3, y4, p0, p1, p2, p3, p4, q0, q1, q2, q3, q4, bel, sz⟩ := H5.out
  clear bel
  have sz0 : w.heap.size < w1.heap.size := by omega
  have sz1 : w.heap.size + 1 < w1.heap.size := by omega
  have sz2 : w.heap.size + 2 < w1.heap.size := by omega
  rw [hf]
  clear hf
  go_wp2_with fail
  have H7 := Lib.hid ((H5.out.kept (Below.alloc (Below.refl _ _) (Nat.le_refl _) (.cells #[.bool f', .bool t', .bool i', .bool o', .bool true] 23)) sz (Nat.le_refl _)).kept (Below.alloc (Below.refl _ _) (Nat.le_refl _) (.cells #[.bool t', .bool f', .bool o', .bool i', .bool b'] 23)) (by simp; omega) (Nat.le_refl _))
  have HN := Lib.hid (two_new f' t' i' o' true t' f' o' i' b' w1)
  have szz := sz2
  clear a0 a1 a2 a3 a4 b0 b1 b2 b3 b4 z0 z1 z2 z3 z4 y0 y1 y2 y3 y4 p0 p1 p2 p3 p4 q0 q1 q2 q3 q4 sz0 sz1 sz2 sz H5
  generalize ((w1.alloc (.cells #[.bool f', .bool t', .bool i', .bool o', .bool true] 23)).alloc (.cells #[.bool t', .bool f', .bool o', .bool i', .bool b'] 23)) = W7 at H7 HN ⊢
  obtain ⟨a0, a1, a2, a3, a4, b0, b1, b2, b3, b4, z0, z1, z2, z3, z4, y0, y1, y2, y3, y4, p0, p1, p2, p3, p4, q0, q1, q2, q3, q4, bel, sz⟩ := H7.out
  obtain ⟨⟨c0, c1, c2, c3, c4, cl⟩, ⟨d0, d1, d2, d3, d4, dl⟩⟩ := HN.out
  have HB := Lib.hid bel
  clear bel
  have n1 : w1.heap.size + 1 ≠ w.heap.size + 1 + 1 := by omega
  have n2 : w.heap.size + 1 + 1 ≠ w1.heap.size + 1 := by omega
  have n3 : w1.heap.size ≠ w.heap.size + 1 + 1 := by omega
  have n4 : w.heap.size + 1 + 1 ≠ w1.heap.size := by omega
  clear HN szz
  generalize w1.heap.size + 1 = Q at d0 d1 d2 d3 d4 dl n1 n2 ⊢
  generalize w1.heap.size = P at c0 c1 c2 c3 c4 cl n3 n4 ⊢
  go_region
  obtain ⟨e0, e1, e2, e3, e4, e5, e6, e7, e8, e9⟩ := res_stored (W := W7) (b6 := w.heap.size + 1 + 1) (b7 := w.heap.size + 1 + 1 + 1) (by omega) (.bool f') (.bool t') (.bool i') (.bool o') (.bool true) (.bool t') (.bool f') (.bool o') (.bool i') (.bool b') z0 z1 z2 z3 z4 y0 y1 y2 y3 y4
  have eB := Lib.hid (res_below (b6 := w.heap.size + 1 + 1) (b7 := w.heap.size + 1 + 1 + 1) HB.out (by omega) (by omega) (.bool f') (.bool t') (.bool i') (.bool o') (.bool true) (.bool t') (.bool f') (.bool o') (.bool i') (.bool b'))
  clear a0 a1 a2 a3 a4 b0 b1 b2 b3 b4 z0 z1 z2 z3 z4 y0 y1 y2 y3 y4 p0 p1 p2 p3 p4 q0 q1 q2 q3 q4 c0 c1 c2 c3 c4 cl d0 d1 d2 d3 d4 dl HB
  generalize ((((((((((W7.setCell ⟨w.heap.size + 1 + 1, 0, none⟩ (.bool f')).setCell ⟨w.heap.size + 1 + 1, 1, none⟩ (.bool t')).setCell ⟨w.heap.size + 1 + 1, 2, none⟩ (.bool i')).setCell ⟨w.heap.size + 1 + 1, 3, none⟩ (.bool o')).setCell ⟨w.heap.size + 1 + 1, 4, none⟩ (.bool true)).setCell ⟨w.heap.size + 1 + 1 + 1, 0, none⟩ (.bool t')).setCell ⟨w.heap.size + 1 + 1 + 1, 1, none⟩ (.bool f')).setCell ⟨w.heap.size + 1 + 1 + 1, 2, none⟩ (.bool o')).setCell ⟨w.heap.size + 1 + 1 + 1, 3, none⟩ (.bool i')).setCell ⟨w.heap.size + 1 + 1 + 1, 4, none⟩ (.bool b')) = WF at e0 e1 e2 e3 e4 e5 e6 e7 e8 e9 eB ⊢
  go_wp2_with fail
  refine bodyPost_ret (v := .tuple #[.agg #[.bool f', .bool t', .bool i', .bool o', .bool true], .agg #[.bool t', .bool f', .bool o', .bool i', .bool b'], .int .i64 8]) (by simp [results, Try.results18, go_sem, e0, e1, e2, e3, e4, e5, e6, e7, e8, e9]) rfl ⟨rfl, ?_⟩
  exact Below.drew eB.out

set_option maxRecDepth 100000 in
set_option maxHeartbeats 8000000 in
theorem ref1_1 (t' f' o' i' : Bool) (w : World) (hf : fitsB f' t' i' o' false t' f' o' i' true = true) :
    Calls Try.prog 18 #[.agg #[.bool f', .bool t', .bool i', .bool o', .bool false], .agg #[.bool t', .bool f', .bool o', .bool i', .bool true], .int .i64 1] w fun e w' => e = .returned (.tuple #[.agg #[.bool f', .bool t', .bool i', .bool o', .bool false], .agg #[.bool t', .bool f', .bool o', .bool i', .bool true], .int .i64 8]) ∧ Below w.heap.size w w' := by
  have H4 := Lib.hid (ab_four f' t' i' o' false t' f' o' i' true w)
  go_enter Try.func18, Try.ntmps18
  go_wp2_with fail
  refine (refMay_any _ _ _ _ _ _ _ _ _ _ _).mono ?_
  rintro e w1 ⟨rfl, hb⟩
  have H5 := Lib.hid (H4.out.kept hb (by simp) (Nat.le_refl _))
  clear hb H4
  obtain ⟨a0, a1, a2, a3, a4, b0, b1, b2, b3, b4, z0, z1, z2, z3, z4, y0, y1, y2, y3, y4, p0, p1, p2, p3, p4, q0, q1, q2, q3, q4, bel, sz⟩ := H5.out
  clear bel
  have sz0 : w.heap.size < w1.heap.size := by omega
  have sz1 : w.heap.size + 1 < w1.heap.size := by omega
  have sz2 : w.heap.size + 2 < w1.heap.size := by omega
  rw [hf]
  clear hf
  go_wp2_with fail
  have H7 := Lib.hid ((H5.out.kept (Below.alloc (Below.refl _ _) (Nat.le_refl _) (.cells #[.bool f', .bool t', .bool i', .bool o', .bool false] 23)) sz (Nat.le_refl _)).kept (Below.alloc (Below.refl _ _) (Nat.le_refl _) (.cells #[.bool t', .bool f', .bool o', .bool i', .bool true] 23)) (by simp; omega) (Nat.le_refl _))
  have HN := Lib.hid (two_new f' t' i' o' false t' f' o' i' true w1)
  have szz := sz2
  clear a0 a1 a2 a3 a4 b0 b1 b2 b3 b4 z0 z1 z2 z3 z4 y0 y1 y2 y3 y4 p0 p1 p2 p3 p4 q0 q1 q2 q3 q4 sz0 sz1 sz2 sz H5
  generalize ((w1.alloc (.cells #[.bool f', .bool t', .bool i', .bool o', .bool false] 23)).alloc (.cells #[.bool t', .bool f', .bool o', .bool i', .bool true] 23)) = W7 at H7 HN ⊢
  obtain ⟨a0, a1, a2, a3, a4, b0, b1, b2, b3, b4, z0, z1, z2, z3, z4, y0, y1, y2, y3, y4, p0, p1, p2, p3, p4, q0, q1, q2, q3, q4, bel, sz⟩ := H7.out
  obtain ⟨⟨c0, c1, c2, c3, c4, cl⟩, ⟨d0, d1, d2, d3, d4, dl⟩⟩ := HN.out
  have HB := Lib.hid bel
  clear bel
  have n1 : w1.heap.size + 1 ≠ w.heap.size + 1 + 1 := by omega
  have n2 : w.heap.size + 1 + 1 ≠ w1.heap.size + 1 := by omega
  have n3 : w1.heap.size ≠ w.heap.size + 1 + 1 := by omega
  have n4 : w.heap.size + 1 + 1 ≠ w1.heap.size := by omega
  clear HN szz
  generalize w1.heap.size + 1 = Q at d0 d1 d2 d3 d4 dl n1 n2 ⊢
  generalize w1.heap.size = P at c0 c1 c2 c3 c4 cl n3 n4 ⊢
  go_region
  obtain ⟨e0, e1, e2, e3, e4, e5, e6, e7, e8, e9⟩ := res_stored (W := W7) (b6 := w.heap.size + 1 + 1) (b7 := w.heap.size + 1 + 1 + 1) (by omega) (.bool f') (.bool t') (.bool i') (.bool o') (.bool false) (.bool t') (.bool f') (.bool o') (.bool i') (.bool true) z0 z1 z2 z3 z4 y0 y1 y2 y3 y4
  have eB := Lib.hid (res_below (b6 := w.heap.size + 1 + 1) (b7 := w.heap.size + 1 + 1 + 1) HB.out (by omega) (by omega) (.bool f') (.bool t') (.bool i') (.bool o') (.bool false) (.bool t') (.bool f') (.bool o') (.bool i') (.bool true))
  clear a0 a1 a2 a3 a4 b0 b1 b2 b3 b4 z0 z1 z2 z3 z4 y0 y1 y2 y3 y4 p0 p1 p2 p3 p4 q0 q1 q2 q3 q4 c0 c1 c2 c3 c4 cl d0 d1 d2 d3 d4 dl HB
  generalize ((((((((((W7.setCell ⟨w.heap.size + 1 + 1, 0, none⟩ (.bool f')).setCell ⟨w.heap.size + 1 + 1, 1, none⟩ (.bool t')).setCell ⟨w.heap.size + 1 + 1, 2, none⟩ (.bool i')).setCell ⟨w.heap.size + 1 + 1, 3, none⟩ (.bool o')).setCell ⟨w.heap.size + 1 + 1, 4, none⟩ (.bool false)).setCell ⟨w.heap.size + 1 + 1 + 1, 0, none⟩ (.bool t')).setCell ⟨w.heap.size + 1 + 1 + 1, 1, none⟩ (.bool f')).setCell ⟨w.heap.size + 1 + 1 + 1, 2, none⟩ (.bool o')).setCell ⟨w.heap.size + 1 + 1 + 1, 3, none⟩ (.bool i')).setCell ⟨w.heap.size + 1 + 1 + 1, 4, none⟩ (.bool true)) = WF at e0 e1 e2 e3 e4 e5 e6 e7 e8 e9 eB ⊢
  go_wp2_with fail
  refine bodyPost_ret (v := .tuple #[.agg #[.bool f', .bool t', .bool i', .bool o', .bool false], .agg #[.bool t', .bool f', .bool o', .bool i', .bool true], .int .i64 8]) (by simp [results, Try.results18, go_sem, e0, e1, e2, e3, e4, e5, e6, e7, e8, e9]) rfl ⟨rfl, ?_⟩
  exact Below.drew eB.out

set_option maxRecDepth 100000 in
set_option maxHeartbeats 8000000 in
theorem ref1_2 (t' o' i' : Bool) (w : World) (hf : fitsB true t' i' o' false t' true o' i' false = true) :
    Calls Try.prog 18 #[.agg #[.bool true, .bool t', .bool i', .bool o', .bool false], .agg #[.bool t', .bool true, .bool o', .bool i', .bool false], .int .i64 1] w fun e w' => e = .returned (.tuple #[.agg #[.bool true, .bool t', .bool i', .bool o', .bool false], .agg #[.bool t', .bool true, .bool o', .bool i', .bool false], .int .i64 7]) ∧ Below w.heap.size w w' := by
  have H4 := Lib.hid (ab_four true t' i' o' false t' true o' i' false w)
  go_enter Try.func18, Try.ntmps18
  go_wp2_with fail
  refine (refMay_any _ _ _ _ _ _ _ _ _ _ _).mono ?_
  rintro e w1 ⟨rfl, hb⟩
  have H5 := Lib.hid (H4.out.kept hb (by simp) (Nat.le_refl _))
  clear hb H4
  obtain ⟨a0, a1, a2, a3, a4, b0, b1, b2, b3, b4, z0, z1, z2, z3, z4, y0, y1, y2, y3, y4, p0, p1, p2, p3, p4, q0, q1, q2, q3, q4, bel, sz⟩ := H5.out
  clear bel
  have sz0 : w.heap.size < w1.heap.size := by omega
  have sz1 : w.heap.size + 1 < w1.heap.size := by omega
  have sz2 : w.heap.size + 2 < w1.heap.size := by omega
  rw [hf]
  clear hf
  go_wp2_with fail
  have H7 := Lib.hid ((H5.out.kept (Below.alloc (Below.refl _ _) (Nat.le_refl _) (.cells #[.bool true, .bool t', .bool i', .bool o', .bool false] 23)) sz (Nat.le_refl _)).kept (Below.alloc (Below.refl _ _) (Nat.le_refl _) (.cells #[.bool t', .bool true, .bool o', .bool i', .bool false] 23)) (by simp; omega) (Nat.le_refl _))
  have HN := Lib.hid (two_new true t' i' o' false t' true o' i' false w1)
  have szz := sz2
  clear a0 a1 a2 a3 a4 b0 b1 b2 b3 b4 z0 z1 z2 z3 z4 y0 y1 y2 y3 y4 p0 p1 p2 p3 p4 q0 q1 q2 q3 q4 sz0 sz1 sz2 sz H5
  generalize ((w1.alloc (.cells #[.bool true, .bool t', .bool i', .bool o', .bool false] 23)).alloc (.cells #[.bool t', .bool true, .bool o', .bool i', .bool false] 23)) = W7 at H7 HN ⊢
  obtain ⟨a0, a1, a2, a3, a4, b0, b1, b2, b3, b4, z0, z1, z2, z3, z4, y0, y1, y2, y3, y4, p0, p1, p2, p3, p4, q0, q1, q2, q3, q4, bel, sz⟩ := H7.out
  obtain ⟨⟨c0, c1, c2, c3, c4, cl⟩, ⟨d0, d1, d2, d3, d4, dl⟩⟩ := HN.out
  have HB := Lib.hid bel
  clear bel
  have n1 : w1.heap.size + 1 ≠ w.heap.size + 1 + 1 := by omega
  have n2 : w.heap.size + 1 + 1 ≠ w1.heap.size + 1 := by omega
  have n3 : w1.heap.size ≠ w.heap.size + 1 + 1 := by omega
  have n4 : w.heap.size + 1 + 1 ≠ w1.heap.size := by omega
  clear HN szz
  generalize w1.heap.size + 1 = Q at d0 d1 d2 d3 d4 dl n1 n2 ⊢
  generalize w1.heap.size = P at c0 c1 c2 c3 c4 cl n3 n4 ⊢
  go_region
  obtain ⟨e0, e1, e2, e3, e4, e5, e6, e7, e8, e9⟩ := res_stored (W := W7) (b6 := w.heap.size + 1 + 1) (b7 := w.heap.size + 1 + 1 + 1) (by omega) (.bool true) (.bool t') (.bool i') (.bool o') (.bool false) (.bool t') (.bool true) (.bool o') (.bool i') (.bool false) z0 z1 z2 z3 z4 y0 y1 y2 y3 y4
  have eB := Lib.hid (res_below (b6 := w.heap.size + 1 + 1) (b7 := w.heap.size + 1 + 1 + 1) HB.out (by omega) (by omega) (.bool true) (.bool t') (.bool i') (.bool o') (.bool false) (.bool t') (.bool true) (.bool o') (.bool i') (.bool false))
  clear a0 a1 a2 a3 a4 b0 b1 b2 b3 b4 z0 z1 z2 z3 z4 y0 y1 y2 y3 y4 p0 p1 p2 p3 p4 q0 q1 q2 q3 q4 c0 c1 c2 c3 c4 cl d0 d1 d2 d3 d4 dl HB
  generalize ((((((((((W7.setCell ⟨w.heap.size + 1 + 1, 0, none⟩ (.bool true)).setCell ⟨w.heap.size + 1 + 1, 1, none⟩ (.bool t')).setCell ⟨w.heap.size + 1 + 1, 2, none⟩ (.bool i')).setCell ⟨w.heap.size + 1 + 1, 3, none⟩ (.bool o')).setCell ⟨w.heap.size + 1 + 1, 4, none⟩ (.bool false)).setCell ⟨w.heap.size + 1 + 1 + 1, 0, none⟩ (.bool t')).setCell ⟨w.heap.size + 1 + 1 + 1, 1, none⟩ (.bool true)).setCell ⟨w.heap.size + 1 + 1 + 1, 2, none⟩ (.bool o')).setCell ⟨w.heap.size + 1 + 1 + 1, 3, none⟩ (.bool i')).setCell ⟨w.heap.size + 1 + 1 + 1, 4, none⟩ (.bool false)) = WF at e0 e1 e2 e3 e4 e5 e6 e7 e8 e9 eB ⊢
  go_wp2_with fail
  refine bodyPost_ret (v := .tuple #[.agg #[.bool true, .bool t', .bool i', .bool o', .bool false], .agg #[.bool t', .bool true, .bool o', .bool i', .bool false], .int .i64 7]) (by simp [results, Try.results18, go_sem, e0, e1, e2, e3, e4, e5, e6, e7, e8, e9]) rfl ⟨rfl, ?_⟩
  exact Below.drew eB.out

set_option maxRecDepth 100000 in
set_option maxHeartbeats 8000000 in
theorem ref1_3 (t' o' : Bool) (w : World) (hf : fitsB false t' true o' false t' false o' true false = true) :
    Calls Try.prog 18 #[.agg #[.bool false, .bool t', .bool true, .bool o', .bool false], .agg #[.bool t', .bool false, .bool o', .bool true, .bool false], .int .i64 1] w fun e w' => e = .returned (.tuple #[.agg #[.bool false, .bool t', .bool true, .bool o', .bool false], .agg #[.bool t', .bool false, .bool o', .bool true, .bool false], .int .i64 7]) ∧ Below w.heap.size w w' := by
  have H4 := Lib.hid (ab_four false t' true o' false t' false o' true false w)
  go_enter Try.func18, Try.ntmps18
  go_wp2_with fail
  refine (refMay_any _ _ _ _ _ _ _ _ _ _ _).mono ?_
  rintro e w1 ⟨rfl, hb⟩
  have H5 := Lib.hid (H4.out.kept hb (by simp) (Nat.le_refl _))
  clear hb H4
  obtain ⟨a0, a1, a2, a3, a4, b0, b1, b2, b3, b4, z0, z1, z2, z3, z4, y0, y1, y2, y3, y4, p0, p1, p2, p3, p4, q0, q1, q2, q3, q4, bel, sz⟩ := H5.out
  clear bel
  have sz0 : w.heap.size < w1.heap.size := by omega
  have sz1 : w.heap.size + 1 < w1.heap.size := by omega
  have sz2 : w.heap.size + 2 < w1.heap.size := by omega
  rw [hf]
  clear hf
  go_wp2_with fail
  have H7 := Lib.hid ((H5.out.kept (Below.alloc (Below.refl _ _) (Nat.le_refl _) (.cells #[.bool false, .bool t', .bool true, .bool o', .bool false] 23)) sz (Nat.le_refl _)).kept (Below.alloc (Below.refl _ _) (Nat.le_refl _) (.cells #[.bool t', .bool false, .bool o', .bool true, .bool false] 23)) (by simp; omega) (Nat.le_refl _))
  have HN := Lib.hid (two_new false t' true o' false t' false o' true false w1)
  have szz := sz2
  clear a0 a1 a2 a3 a4 b0 b1 b2 b3 b4 z0 z1 z2 z3 z4 y0 y1 y2 y3 y4 p0 p1 p2 p3 p4 q0 q1 q2 q3 q4 sz0 sz1 sz2 sz H5
  generalize ((w1.alloc (.cells #[.bool false, .bool t', .bool true, .bool o', .bool false] 23)).alloc (.cells #[.bool t', .bool false, .bool o', .bool true, .bool false] 23)) = W7 at H7 HN ⊢
  obtain ⟨a0, a1, a2, a3, a4, b0, b1, b2, b3, b4, z0, z1, z2, z3, z4, y0, y1, y2, y3, y4, p0, p1, p2, p3, p4, q0, q1, q2, q3, q4, bel, sz⟩ := H7.out
  obtain ⟨⟨c0, c1, c2, c3, c4, cl⟩, ⟨d0, d1, d2, d3, d4, dl⟩⟩ := HN.out
  have HB := Lib.hid bel
  clear bel
  have n1 : w1.heap.size + 1 ≠ w.heap.size + 1 + 1 := by omega
  have n2 : w.heap.size + 1 + 1 ≠ w1.heap.size + 1 := by omega
  have n3 : w1.heap.size ≠ w.heap.size + 1 + 1 := by omega
  have n4 : w.heap.size + 1 + 1 ≠ w1.heap.size := by omega
  clear HN szz
  generalize w1.heap.size + 1 = Q at d0 d1 d2 d3 d4 dl n1 n2 ⊢
  generalize w1.heap.size = P at c0 c1 c2 c3 c4 cl n3 n4 ⊢
  go_region
  obtain ⟨e0, e1, e2, e3, e4, e5, e6, e7, e8, e9⟩ := res_stored (W := W7) (b6 := w.heap.size + 1 + 1) (b7 := w.heap.size + 1 + 1 + 1) (by omega) (.bool false) (.bool t') (.bool true) (.bool o') (.bool false) (.bool t') (.bool false) (.bool o') (.bool true) (.bool false) z0 z1 z2 z3 z4 y0 y1 y2 y3 y4
  have eB := Lib.hid (res_below (b6 := w.heap.size + 1 + 1) (b7 := w.heap.size + 1 + 1 + 1) HB.out (by omega) (by omega) (.bool false) (.bool t') (.bool true) (.bool o') (.bool false) (.bool t') (.bool false) (.bool o') (.bool true) (.bool false))
  clear a0 a1 a2 a3 a4 b0 b1 b2 b3 b4 z0 z1 z2 z3 z4 y0 y1 y2 y3 y4 p0 p1 p2 p3 p4 q0 q1 q2 q3 q4 c0 c1 c2 c3 c4 cl d0 d1 d2 d3 d4 dl HB
  generalize ((((((((((W7.setCell ⟨w.heap.size + 1 + 1, 0, none⟩ (.bool false)).setCell ⟨w.heap.size + 1 + 1, 1, none⟩ (.bool t')).setCell ⟨w.heap.size + 1 + 1, 2, none⟩ (.bool true)).setCell ⟨w.heap.size + 1 + 1, 3, none⟩ (.bool o')).setCell ⟨w.heap.size + 1 + 1, 4, none⟩ (.bool false)).setCell ⟨w.heap.size + 1 + 1 + 1, 0, none⟩ (.bool t')).setCell ⟨w.heap.size + 1 + 1 + 1, 1, none⟩ (.bool false)).setCell ⟨w.heap.size + 1 + 1 + 1, 2, none⟩ (.bool o')).setCell ⟨w.heap.size + 1 + 1 + 1, 3, none⟩ (.bool true)).setCell ⟨w.heap.size + 1 + 1 + 1, 4, none⟩ (.bool false)) = WF at e0 e1 e2 e3 e4 e5 e6 e7 e8 e9 eB ⊢
  go_wp2_with fail
  refine bodyPost_ret (v := .tuple #[.agg #[.bool false, .bool t', .bool true, .bool o', .bool false], .agg #[.bool t', .bool false, .bool o', .bool true, .bool false], .int .i64 7]) (by simp [results, Try.results18, go_sem, e0, e1, e2, e3, e4, e5, e6, e7, e8, e9]) rfl ⟨rfl, ?_⟩
  exact Below.drew eB.out

set_option maxRecDepth 100000 in
set_option maxHeartbeats 8000000 in
theorem ref1_4 (t' o' : Bool) (w : World) (hf : fitsB false t' false o' false t' false o' false false = true) :
    Calls Try.prog 18 #[.agg #[.bool false, .bool t', .bool false, .bool o', .bool false], .agg #[.bool t', .bool false, .bool o', .bool false, .bool false], .int .i64 1] w fun e w' => e = .returned (.tuple #[.agg #[.bool false, .bool t', .bool true, .bool o', .bool false], .agg #[.bool t', .bool false, .bool o', .bool true, .bool false], .int .i64 0]) ∧ Below w.heap.size w w' := by
  have H4 := Lib.hid (ab_four false t' false o' false t' false o' false false w)
  go_enter Try.func18, Try.ntmps18
  go_wp2_with fail
  refine (refMay_any _ _ _ _ _ _ _ _ _ _ _).mono ?_
  rintro e w1 ⟨rfl, hb⟩
  have H5 := Lib.hid (H4.out.kept hb (by simp) (Nat.le_refl _))
  clear hb H4
  obtain ⟨a0, a1, a2, a3, a4, b0, b1, b2, b3, b4, z0, z1, z2, z3, z4, y0, y1, y2, y3, y4, p0, p1, p2, p3, p4, q0, q1, q2, q3, q4, bel, sz⟩ := H5.out
  clear bel
  have sz0 : w.heap.size < w1.heap.size := by omega
  have sz1 : w.heap.size + 1 < w1.heap.size := by omega
  have sz2 : w.heap.size + 2 < w1.heap.size := by omega
  rw [hf]
  clear hf
  go_wp2_with fail
  have H7 := Lib.hid ((H5.out.kept (Below.alloc (Below.refl _ _) (Nat.le_refl _) (.cells #[.bool false, .bool t', .bool true, .bool o', .bool false] 23)) sz (Nat.le_refl _)).kept (Below.alloc (Below.refl _ _) (Nat.le_refl _) (.cells #[.bool t', .bool false, .bool o', .bool true, .bool false] 23)) (by simp; omega) (Nat.le_refl _))
  have HN := Lib.hid (two_new false t' true o' false t' false o' true false w1)
  have szz := sz2
  clear a0 a1 a2 a3 a4 b0 b1 b2 b3 b4 z0 z1 z2 z3 z4 y0 y1 y2 y3 y4 p0 p1 p2 p3 p4 q0 q1 q2 q3 q4 sz0 sz1 sz2 sz H5
  generalize ((w1.alloc (.cells #[.bool false, .bool t', .bool true, .bool o', .bool false] 23)).alloc (.cells #[.bool t', .bool false, .bool o', .bool true, .bool false] 23)) = W7 at H7 HN ⊢
  obtain ⟨a0, a1, a2, a3, a4, b0, b1, b2, b3, b4, z0, z1, z2, z3, z4, y0, y1, y2, y3, y4, p0, p1, p2, p3, p4, q0, q1, q2, q3, q4, bel, sz⟩ := H7.out
  obtain ⟨⟨c0, c1, c2, c3, c4, cl⟩, ⟨d0, d1, d2, d3, d4, dl⟩⟩ := HN.out
  have HB := Lib.hid bel
  clear bel
  have n1 : w1.heap.size + 1 ≠ w.heap.size + 1 + 1 := by omega
  have n2 : w.heap.size + 1 + 1 ≠ w1.heap.size + 1 := by omega
  have n3 : w1.heap.size ≠ w.heap.size + 1 + 1 := by omega
  have n4 : w.heap.size + 1 + 1 ≠ w1.heap.size := by omega
  clear HN szz
  generalize w1.heap.size + 1 = Q at d0 d1 d2 d3 d4 dl n1 n2 ⊢
  generalize w1.heap.size = P at c0 c1 c2 c3 c4 cl n3 n4 ⊢
  go_region
  obtain ⟨e0, e1, e2, e3, e4, e5, e6, e7, e8, e9⟩ := res_stored (W := W7) (b6 := w.heap.size + 1 + 1) (b7 := w.heap.size + 1 + 1 + 1) (by omega) (.bool false) (.bool t') (.bool true) (.bool o') (.bool false) (.bool t') (.bool false) (.bool o') (.bool true) (.bool false) z0 z1 z2 z3 z4 y0 y1 y2 y3 y4
  have eB := Lib.hid (res_below (b6 := w.heap.size + 1 + 1) (b7 := w.heap.size + 1 + 1 + 1) HB.out (by omega) (by omega) (.bool false) (.bool t') (.bool true) (.bool o') (.bool false) (.bool t') (.bool false) (.bool o') (.bool true) (.bool false))
  clear a0 a1 a2 a3 a4 b0 b1 b2 b3 b4 z0 z1 z2 z3 z4 y0 y1 y2 y3 y4 p0 p1 p2 p3 p4 q0 q1 q2 q3 q4 c0 c1 c2 c3 c4 cl d0 d1 d2 d3 d4 dl HB
  generalize ((((((((((W7.setCell ⟨w.heap.size + 1 + 1, 0, none⟩ (.bool false)).setCell ⟨w.heap.size + 1 + 1, 1, none⟩ (.bool t')).setCell ⟨w.heap.size + 1 + 1, 2, none⟩ (.bool true)).setCell ⟨w.heap.size + 1 + 1, 3, none⟩ (.bool o')).setCell ⟨w.heap.size + 1 + 1, 4, none⟩ (.bool false)).setCell ⟨w.heap.size + 1 + 1 + 1, 0, none⟩ (.bool t')).setCell ⟨w.heap.size + 1 + 1 + 1, 1, none⟩ (.bool false)).setCell ⟨w.heap.size + 1 + 1 + 1, 2, none⟩ (.bool o')).setCell ⟨w.heap.size + 1 + 1 + 1, 3, none⟩ (.bool true)).setCell ⟨w.heap.size + 1 + 1 + 1, 4, none⟩ (.bool false)) = WF at e0 e1 e2 e3 e4 e5 e6 e7 e8 e9 eB ⊢
  go_wp2_with fail
  refine bodyPost_ret (v := .tuple #[.agg #[.bool false, .bool t', .bool true, .bool o', .bool false], .agg #[.bool t', .bool false, .bool o', .bool true, .bool false], .int .i64 0]) (by simp [results, Try.results18, go_sem, e0, e1, e2, e3, e4, e5, e6, e7, e8, e9]) rfl ⟨rfl, ?_⟩
  exact Below.drew eB.out

set_option maxHeartbeats 1000000 in
theorem ref1 (t f o i b t' f' o' i' b' : Bool) (w : World) (hf : fitsB t f o i b t' f' o' i' b' = true) :
    Calls Try.prog 18 #[.agg #[.bool t, .bool f, .bool o, .bool i, .bool b], .agg #[.bool t', .bool f', .bool o', .bool i', .bool b'], .int .i64 1] w fun e w' => ∃ (x y : It) (c : Int), act ⟨t, f, o, i, b⟩ ⟨t', f', o', i', b'⟩ 1 = (x, y, c) ∧ e = .returned (.tuple #[.agg #[.bool x.t, .bool x.f, .bool x.o, .bool x.i, .bool x.b], .agg #[.bool y.t, .bool y.f, .bool y.o, .bool y.i, .bool y.b], .int .i64 c]) ∧ Below w.heap.size w w' := by
  have HF := hf
  obtain ⟨rfl, rfl, rfl, rfl⟩ := fits_parts hf
  clear HF
  cases b with
  | true =>
    exact (ref1_0 t' f' o' i' b' w hf).mono fun e w' h => ⟨⟨f', t', i', o', true⟩, ⟨t', f', o', i', b'⟩, 8, by simp [act, fitsI, hf, doIt], h.1, h.2⟩
  | false =>
    cases b' with
    | true =>
      exact (ref1_1 t' f' o' i' w hf).mono fun e w' h => ⟨⟨f', t', i', o', false⟩, ⟨t', f', o', i', true⟩, 8, by simp [act, fitsI, hf, doIt], h.1, h.2⟩
    | false =>
      cases f' with
      | true =>
        exact (ref1_2 t' o' i' w hf).mono fun e w' h => ⟨⟨true, t', i', o', false⟩, ⟨t', true, o', i', false⟩, 7, by simp [act, fitsI, hf, doIt], h.1, h.2⟩
      | false =>
        cases i' with
        | true =>
          exact (ref1_3 t' o' w hf).mono fun e w' h => ⟨⟨false, t', true, o', false⟩, ⟨t', false, o', true, false⟩, 7, by simp [act, fitsI, hf, doIt], h.1, h.2⟩
        | false =>
          exact (ref1_4 t' o' w hf).mono fun e w' h => ⟨⟨false, t', true, o', false⟩, ⟨t', false, o', true, false⟩, 0, by simp [act, fitsI, hf, doIt], h.1, h.2⟩

set_option maxRecDepth 100000 in
set_option maxHeartbeats 8000000 in
theorem ref2_0 (t' f' o' i' b' : Bool) (w : World) (hf : fitsB f' t' i' o' true t' f' o' i' b' = true) :
    Calls Try.prog 18 #[.agg #[.bool f', .bool t', .bool i', .bool o', .bool true], .agg #[.bool t', .bool f', .bool o', .bool i', .bool b'], .int .i64 2] w fun e w' => e = .returned (.tuple #[.agg #[.bool f', .bool t', .bool i', .bool o', .bool true], .agg #[.bool t', .bool f', .bool o', .bool i', .bool b'], .int .i64 8]) ∧ Below w.heap.size w w' := by
  have H4 := Lib.hid (ab_four f' t' i' o' true t' f' o' i' b' w)
  go_enter Try.func18, Try.ntmps18
  go_wp2_with fail
  refine (refMay_any _ _ _ _ _ _ _ _ _ _ _).mono ?_
  rintro e w1 ⟨rfl, hb⟩
  have H5 := Lib.hid (H4.out.kept hb (by simp) (Nat.le_refl _))
  clear hb H4
  obtain ⟨a0, a1, a2, a3, a4, b0, b1, b2, b3, b4, z0, z1, z2, z3, z4, y0, y1, y2, y3, y4, p0, p1, p2, p3, p4, q0, q1, q2, q3, q4, bel, sz⟩ := H5.out
  clear bel
  have sz0 : w.heap.size < w1.heap.size := by omega
  have sz1 : w.heap.size + 1 < w1.heap.size := by omega
  have sz2 : w.heap.size + 2 < w1.heap.size := by omega
  rw [hf]
  clear hf
  go_wp2_with fail
  have H7 := Lib.hid ((H5.out.kept (Below.alloc (Below.refl _ _) (Nat.le_refl _) (.cells #[.bool f', .bool t', .bool i', .bool o', .bool true] 23)) sz (Nat.le_refl _)).kept (Below.alloc (Below.refl _ _) (Nat.le_refl _) (.cells #[.bool t', .bool f', .bool o', .bool i', .bool b'] 23)) (by simp; omega) (Nat.le_refl _))
  have HN := Lib.hid (two_new f' t' i' o' true t' f' o' i' b' w1)
  have szz := sz2
  clear a0 a1 a2 a3 a4 b0 b1 b2 b3 b4 z0 z1 z2 z3 z4 y0 y1 y2 y3 y4 p0 p1 p2 p3 p4 q0 q1 q2 q3 q4 sz0 sz1 sz2 sz H5
  generalize ((w1.alloc (.cells #[.bool f', .bool t', .bool i', .bool o', .bool true] 23)).alloc (.cells #[.bool t', .bool f', .bool o', .bool i', .bool b'] 23)) = W7 at H7 HN ⊢
  obtain ⟨a0, a1, a2, a3, a4, b0, b1, b2, b3, b4, z0, z1, z2, z3, z4, y0, y1, y2, y3, y4, p0, p1, p2, p3, p4, q0, q1, q2, q3, q4, bel, sz⟩ := H7.out
  obtain ⟨⟨c0, c1, c2, c3, c4, cl⟩, ⟨d0, d1, d2, d3, d4, dl⟩⟩ := HN.out
  have HB := Lib.hid bel
  clear bel
  have n1 : w1.heap.size + 1 ≠ w.heap.size + 1 + 1 := by omega
  have n2 : w.heap.size + 1 + 1 ≠ w1.heap.size + 1 := by omega
  have n3 : w1.heap.size ≠ w.heap.size + 1 + 1 := by omega
  have n4 : w.heap.size + 1 + 1 ≠ w1.heap.size := by omega
  clear HN szz
  generalize w1.heap.size + 1 = Q at d0 d1 d2 d3 d4 dl n1 n2 ⊢
  generalize w1.heap.size = P at c0 c1 c2 c3 c4 cl n3 n4 ⊢
  go_region
  obtain ⟨e0, e1, e2, e3, e4, e5, e6, e7, e8, e9⟩ := res_stored (W := W7) (b6 := w.heap.size + 1 + 1) (b7 := w.heap.size + 1 + 1 + 1) (by omega) (.bool f') (.bool t') (.bool i') (.bool o') (.bool true) (.bool t') (.bool f') (.bool o') (.bool i') (.bool b') z0 z1 z2 z3 z4 y0 y1 y2 y3 y4
  have eB := Lib.hid (res_below (b6 := w.heap.size + 1 + 1) (b7 := w.heap.size + 1 + 1 + 1) HB.out (by omega) (by omega) (.bool f') (.bool t') (.bool i') (.bool o') (.bool true) (.bool t') (.bool f') (.bool o') (.bool i') (.bool b'))
  clear a0 a1 a2 a3 a4 b0 b1 b2 b3 b4 z0 z1 z2 z3 z4 y0 y1 y2 y3 y4 p0 p1 p2 p3 p4 q0 q1 q2 q3 q4 c0 c1 c2 c3 c4 cl d0 d1 d2 d3 d4 dl HB
  generalize ((((((((((W7.setCell ⟨w.heap.size + 1 + 1, 0, none⟩ (.bool f')).setCell ⟨w.heap.size + 1 + 1, 1, none⟩ (.bool t')).setCell ⟨w.heap.size + 1 + 1, 2, none⟩ (.bool i')).setCell ⟨w.heap.size + 1 + 1, 3, none⟩ (.bool o')).setCell ⟨w.heap.size + 1 + 1, 4, none⟩ (.bool true)).setCell ⟨w.heap.size + 1 + 1 + 1, 0, none⟩ (.bool t')).setCell ⟨w.heap.size + 1 + 1 + 1, 1, none⟩ (.bool f')).setCell ⟨w.heap.size + 1 + 1 + 1, 2, none⟩ (.bool o')).setCell ⟨w.heap.size + 1 + 1 + 1, 3, none⟩ (.bool i')).setCell ⟨w.heap.size + 1 + 1 + 1, 4, none⟩ (.bool b')) = WF at e0 e1 e2 e3 e4 e5 e6 e7 e8 e9 eB ⊢
  go_wp2_with fail
  refine bodyPost_ret (v := .tuple #[.agg #[.bool f', .bool t', .bool i', .bool o', .bool true], .agg #[.bool t', .bool f', .bool o', .bool i', .bool b'], .int .i64 8]) (by simp [results, Try.results18, go_sem, e0, e1, e2, e3, e4, e5, e6, e7, e8, e9]) rfl ⟨rfl, ?_⟩
  exact Below.drew eB.out

set_option maxRecDepth 100000 in
set_option maxHeartbeats 8000000 in
theorem ref2_1 (t' f' o' i' : Bool) (w : World) (hf : fitsB f' t' i' o' false t' f' o' i' true = true) :
    Calls Try.prog 18 #[.agg #[.bool f', .bool t', .bool i', .bool o', .bool false], .agg #[.bool t', .bool f', .bool o', .bool i', .bool true], .int .i64 2] w fun e w' => e = .returned (.tuple #[.agg #[.bool f', .bool t', .bool i', .bool o', .bool false], .agg #[.bool t', .bool f', .bool o', .bool i', .bool true], .int .i64 8]) ∧ Below w.heap.size w w' := by
  have H4 := Lib.hid (ab_four f' t' i' o' false t' f' o' i' true w)
  go_enter Try.func18, Try.ntmps18
  go_wp2_with fail
  refine (refMay_any _ _ _ _ _ _ _ _ _ _ _).mono ?_
  rintro e w1 ⟨rfl, hb⟩
  have H5 := Lib.hid (H4.out.kept hb (by simp) (Nat.le_refl _))
  clear hb H4
  obtain ⟨a0, a1, a2, a3, a4, b0, b1, b2, b3, b4, z0, z1, z2, z3, z4, y0, y1, y2, y3, y4, p0, p1, p2, p3, p4, q0, q1, q2, q3, q4, bel, sz⟩ := H5.out
  clear bel
  have sz0 : w.heap.size < w1.heap.size := by omega
  have sz1 : w.heap.size + 1 < w1.heap.size := by omega
  have sz2 : w.heap.size + 2 < w1.heap.size := by omega
  rw [hf]
  clear hf
  go_wp2_with fail
  have H7 := Lib.hid ((H5.out.kept (Below.alloc (Below.refl _ _) (Nat.le_refl _) (.cells #[.bool f', .bool t', .bool i', .bool o', .bool false] 23)) sz (Nat.le_refl _)).kept (Below.alloc (Below.refl _ _) (Nat.le_refl _) (.cells #[.bool t', .bool f', .bool o', .bool i', .bool true] 23)) (by simp; omega) (Nat.le_refl _))
  have HN := Lib.hid (two_new f' t' i' o' false t' f' o' i' true w1)
  have szz := sz2
  clear a0 a1 a2 a3 a4 b0 b1 b2 b3 b4 z0 z1 z2 z3 z4 y0 y1 y2 y3 y4 p0 p1 p2 p3 p4 q0 q1 q2 q3 q4 sz0 sz1 sz2 sz H5
  generalize ((w1.alloc (.cells #[.bool f', .bool t', .bool i', .bool o', .bool false] 23)).alloc (.cells #[.bool t', .bool f', .bool o', .bool i', .bool true] 23)) = W7 at H7 HN ⊢
  obtain ⟨a0, a1, a2, a3, a4, b0, b1, b2, b3, b4, z0, z1, z2, z3, z4, y0, y1, y2, y3, y4, p0, p1, p2, p3, p4, q0, q1, q2, q3, q4, bel, sz⟩ := H7.out
  obtain ⟨⟨c0, c1, c2, c3, c4, cl⟩, ⟨d0, d1, d2, d3, d4, dl⟩⟩ := HN.out
  have HB := Lib.hid bel
  clear bel
  have n1 : w1.heap.size + 1 ≠ w.heap.size + 1 + 1 := by omega
  have n2 : w.heap.size + 1 + 1 ≠ w1.heap.size + 1 := by omega
  have n3 : w1.heap.size ≠ w.heap.size + 1 + 1 := by omega
  have n4 : w.heap.size + 1 + 1 ≠ w1.heap.size := by omega
  clear HN szz
  generalize w1.heap.size + 1 = Q at d0 d1 d2 d3 d4 dl n1 n2 ⊢
  generalize w1.heap.size = P at c0 c1 c2 c3 c4 cl n3 n4 ⊢
  go_region
  obtain ⟨e0, e1, e2, e3, e4, e5, e6, e7, e8, e9⟩ := res_stored (W := W7) (b6 := w.heap.size + 1 + 1) (b7 := w.heap.size + 1 + 1 + 1) (by omega) (.bool f') (.bool t') (.bool i') (.bool o') (.bool false) (.bool t') (.bool f') (.bool o') (.bool i') (.bool true) z0 z1 z2 z3 z4 y0 y1 y2 y3 y4
  have eB := Lib.hid (res_below (b6 := w.heap.size + 1 + 1) (b7 := w.heap.size + 1 + 1 + 1) HB.out (by omega) (by omega) (.bool f') (.bool t') (.bool i') (.bool o') (.bool false) (.bool t') (.bool f') (.bool o') (.bool i') (.bool true))
  clear a0 a1 a2 a3 a4 b0 b1 b2 b3 b4 z0 z1 z2 z3 z4 y0 y1 y2 y3 y4 p0 p1 p2 p3 p4 q0 q1 q2 q3 q4 c0 c1 c2 c3 c4 cl d0 d1 d2 d3 d4 dl HB
  generalize ((((((((((W7.setCell ⟨w.heap.size + 1 + 1, 0, none⟩ (.bool f')).setCell ⟨w.heap.size + 1 + 1, 1, none⟩ (.bool t')).setCell ⟨w.heap.size + 1 + 1, 2, none⟩ (.bool i')).setCell ⟨w.heap.size + 1 + 1, 3, none⟩ (.bool o')).setCell ⟨w.heap.size + 1 + 1, 4, none⟩ (.bool false)).setCell ⟨w.heap.size + 1 + 1 + 1, 0, none⟩ (.bool t')).setCell ⟨w.heap.size + 1 + 1 + 1, 1, none⟩ (.bool f')).setCell ⟨w.heap.size + 1 + 1 + 1, 2, none⟩ (.bool o')).setCell ⟨w.heap.size + 1 + 1 + 1, 3, none⟩ (.bool i')).setCell ⟨w.heap.size + 1 + 1 + 1, 4, none⟩ (.bool true)) = WF at e0 e1 e2 e3 e4 e5 e6 e7 e8 e9 eB ⊢
  go_wp2_with fail
  refine bodyPost_ret (v := .tuple #[.agg #[.bool f', .bool t', .bool i', .bool o', .bool false], .agg #[.bool t', .bool f', .bool o', .bool i', .bool true], .int .i64 8]) (by simp [results, Try.results18, go_sem, e0, e1, e2, e3, e4, e5, e6, e7, e8, e9]) rfl ⟨rfl, ?_⟩
  exact Below.drew eB.out

set_option maxRecDepth 100000 in
set_option maxHeartbeats 8000000 in
theorem ref2_2 (t' f' i' : Bool) (w : World) (hf : fitsB f' t' i' false false t' f' false i' false = true) :
    Calls Try.prog 18 #[.agg #[.bool f', .bool t', .bool i', .bool false, .bool false], .agg #[.bool t', .bool f', .bool false, .bool i', .bool false], .int .i64 2] w fun e w' => e = .returned (.tuple #[.agg #[.bool f', .bool t', .bool i', .bool false, .bool false], .agg #[.bool t', .bool f', .bool false, .bool i', .bool false], .int .i64 7]) ∧ Below w.heap.size w w' := by
  have H4 := Lib.hid (ab_four f' t' i' false false t' f' false i' false w)
  go_enter Try.func18, Try.ntmps18
  go_wp2_with fail
  refine (refMay_any _ _ _ _ _ _ _ _ _ _ _).mono ?_
  rintro e w1 ⟨rfl, hb⟩
  have H5 := Lib.hid (H4.out.kept hb (by simp) (Nat.le_refl _))
  clear hb H4
  obtain ⟨a0, a1, a2, a3, a4, b0, b1, b2, b3, b4, z0, z1, z2, z3, z4, y0, y1, y2, y3, y4, p0, p1, p2, p3, p4, q0, q1, q2, q3, q4, bel, sz⟩ := H5.out
  clear bel
  have sz0 : w.heap.size < w1.heap.size := by omega
  have sz1 : w.heap.size + 1 < w1.heap.size := by omega
  have sz2 : w.heap.size + 2 < w1.heap.size := by omega
  rw [hf]
  clear hf
  go_wp2_with fail
  have H7 := Lib.hid ((H5.out.kept (Below.alloc (Below.refl _ _) (Nat.le_refl _) (.cells #[.bool f', .bool t', .bool i', .bool false, .bool false] 23)) sz (Nat.le_refl _)).kept (Below.alloc (Below.refl _ _) (Nat.le_refl _) (.cells #[.bool t', .bool f', .bool false, .bool i', .bool false] 23)) (by simp; omega) (Nat.le_refl _))
  have HN := Lib.hid (two_new f' t' i' false false t' f' false i' false w1)
  have szz := sz2
  clear a0 a1 a2 a3 a4 b0 b1 b2 b3 b4 z0 z1 z2 z3 z4 y0 y1 y2 y3 y4 p0 p1 p2 p3 p4 q0 q1 q2 q3 q4 sz0 sz1 sz2 sz H5
  generalize ((w1.alloc (.cells #[.bool f', .bool t', .bool i', .bool false, .bool false] 23)).alloc (.cells #[.bool t', .bool f', .bool false, .bool i', .bool false] 23)) = W7 at H7 HN ⊢
  obtain ⟨a0, a1, a2, a3, a4, b0, b1, b2, b3, b4, z0, z1, z2, z3, z4, y0, y1, y2, y3, y4, p0, p1, p2, p3, p4, q0, q1, q2, q3, q4, bel, sz⟩ := H7.out
  obtain ⟨⟨c0, c1, c2, c3, c4, cl⟩, ⟨d0, d1, d2, d3, d4, dl⟩⟩ := HN.out
  have HB := Lib.hid bel
  clear bel
  have n1 : w1.heap.size + 1 ≠ w.heap.size + 1 + 1 := by omega
  have n2 : w.heap.size + 1 + 1 ≠ w1.heap.size + 1 := by omega
  have n3 : w1.heap.size ≠ w.heap.size + 1 + 1 := by omega
  have n4 : w.heap.size + 1 + 1 ≠ w1.heap.size := by omega
  clear HN szz
  generalize w1.heap.size + 1 = Q at d0 d1 d2 d3 d4 dl n1 n2 ⊢
  generalize w1.heap.size = P at c0 c1 c2 c3 c4 cl n3 n4 ⊢
  go_region
  obtain ⟨e0, e1, e2, e3, e4, e5, e6, e7, e8, e9⟩ := res_stored (W := W7) (b6 := w.heap.size + 1 + 1) (b7 := w.heap.size + 1 + 1 + 1) (by omega) (.bool f') (.bool t') (.bool i') (.bool false) (.bool false) (.bool t') (.bool f') (.bool false) (.bool i') (.bool false) z0 z1 z2 z3 z4 y0 y1 y2 y3 y4
  have eB := Lib.hid (res_below (b6 := w.heap.size + 1 + 1) (b7 := w.heap.size + 1 + 1 + 1) HB.out (by omega) (by omega) (.bool f') (.bool t') (.bool i') (.bool false) (.bool false) (.bool t') (.bool f') (.bool false) (.bool i') (.bool false))
  clear a0 a1 a2 a3 a4 b0 b1 b2 b3 b4 z0 z1 z2 z3 z4 y0 y1 y2 y3 y4 p0 p1 p2 p3 p4 q0 q1 q2 q3 q4 c0 c1 c2 c3 c4 cl d0 d1 d2 d3 d4 dl HB
  generalize ((((((((((W7.setCell ⟨w.heap.size + 1 + 1, 0, none⟩ (.bool f')).setCell ⟨w.heap.size + 1 + 1, 1, none⟩ (.bool t')).setCell ⟨w.heap.size + 1 + 1, 2, none⟩ (.bool i')).setCell ⟨w.heap.size + 1 + 1, 3, none⟩ (.bool false)).setCell ⟨w.heap.size + 1 + 1, 4, none⟩ (.bool false)).setCell ⟨w.heap.size + 1 + 1 + 1, 0, none⟩ (.bool t')).setCell ⟨w.heap.size + 1 + 1 + 1, 1, none⟩ (.bool f')).setCell ⟨w.heap.size + 1 + 1 + 1, 2, none⟩ (.bool false)).setCell ⟨w.heap.size + 1 + 1 + 1, 3, none⟩ (.bool i')).setCell ⟨w.heap.size + 1 + 1 + 1, 4, none⟩ (.bool false)) = WF at e0 e1 e2 e3 e4 e5 e6 e7 e8 e9 eB ⊢
  go_wp2_with fail
  refine bodyPost_ret (v := .tuple #[.agg #[.bool f', .bool t', .bool i', .bool false, .bool false], .agg #[.bool t', .bool f', .bool false, .bool i', .bool false], .int .i64 7]) (by simp [results, Try.results18, go_sem, e0, e1, e2, e3, e4, e5, e6, e7, e8, e9]) rfl ⟨rfl, ?_⟩
  exact Below.drew eB.out

set_option maxRecDepth 100000 in
set_option maxHeartbeats 8000000 in
theorem ref2_3 (t' f' i' : Bool) (w : World) (hf : fitsB f' t' i' true false t' f' true i' false = true) :
    Calls Try.prog 18 #[.agg #[.bool f', .bool t', .bool i', .bool true, .bool false], .agg #[.bool t', .bool f', .bool true, .bool i', .bool false], .int .i64 2] w fun e w' => e = .returned (.tuple #[.agg #[.bool f', .bool true, .bool i', .bool false, .bool false], .agg #[.bool true, .bool f', .bool false, .bool i', .bool false], .int .i64 0]) ∧ Below w.heap.size w w' := by
  have H4 := Lib.hid (ab_four f' t' i' true false t' f' true i' false w)
  go_enter Try.func18, Try.ntmps18
  go_wp2_with fail
  refine (refMay_any _ _ _ _ _ _ _ _ _ _ _).mono ?_
  rintro e w1 ⟨rfl, hb⟩
  have H5 := Lib.hid (H4.out.kept hb (by simp) (Nat.le_refl _))
  clear hb H4
  obtain ⟨a0, a1, a2, a3, a4, b0, b1, b2, b3, b4, z0, z1, z2, z3, z4, y0, y1, y2, y3, y4, p0, p1, p2, p3, p4, q0, q1, q2, q3, q4, bel, sz⟩ := H5.out
  clear bel
  have sz0 : w.heap.size < w1.heap.size := by omega
  have sz1 : w.heap.size + 1 < w1.heap.size := by omega
  have sz2 : w.heap.size + 2 < w1.heap.size := by omega
  rw [hf]
  clear hf
  go_wp2_with fail
  have H7 := Lib.hid ((H5.out.kept (Below.alloc (Below.refl _ _) (Nat.le_refl _) (.cells #[.bool f', .bool true, .bool i', .bool false, .bool false] 23)) sz (Nat.le_refl _)).kept (Below.alloc (Below.refl _ _) (Nat.le_refl _) (.cells #[.bool true, .bool f', .bool false, .bool i', .bool false] 23)) (by simp; omega) (Nat.le_refl _))
  have HN := Lib.hid (two_new f' true i' false false true f' false i' false w1)
  have szz := sz2
  clear a0 a1 a2 a3 a4 b0 b1 b2 b3 b4 z0 z1 z2 z3 z4 y0 y1 y2 y3 y4 p0 p1 p2 p3 p4 q0 q1 q2 q3 q4 sz0 sz1 sz2 sz H5
  generalize ((w1.alloc (.cells #[.bool f', .bool true, .bool i', .bool false, .bool false] 23)).alloc (.cells #[.bool true, .bool f', .bool false, .bool i', .bool false] 23)) = W7 at H7 HN ⊢
  obtain ⟨a0, a1, a2, a3, a4, b0, b1, b2, b3, b4, z0, z1, z2, z3, z4, y0, y1, y2, y3, y4, p0, p1, p2, p3, p4, q0, q1, q2, q3, q4, bel, sz⟩ := H7.out
  obtain ⟨⟨c0, c1, c2, c3, c4, cl⟩, ⟨d0, d1, d2, d3, d4, dl⟩⟩ := HN.out
  have HB := Lib.hid bel
  clear bel
  have n1 : w1.heap.size + 1 ≠ w.heap.size + 1 + 1 := by omega
  have n2 : w.heap.size + 1 + 1 ≠ w1.heap.size + 1 := by omega
  have n3 : w1.heap.size ≠ w.heap.size + 1 + 1 := by omega
  have n4 : w.heap.size + 1 + 1 ≠ w1.heap.size := by omega
  clear HN szz
  generalize w1.heap.size + 1 = Q at d0 d1 d2 d3 d4 dl n1 n2 ⊢
  generalize w1.heap.size = P at c0 c1 c2 c3 c4 cl n3 n4 ⊢
  go_region
  obtain ⟨e0, e1, e2, e3, e4, e5, e6, e7, e8, e9⟩ := res_stored (W := W7) (b6 := w.heap.size + 1 + 1) (b7 := w.heap.size + 1 + 1 + 1) (by omega) (.bool f') (.bool true) (.bool i') (.bool false) (.bool false) (.bool true) (.bool f') (.bool false) (.bool i') (.bool false) z0 z1 z2 z3 z4 y0 y1 y2 y3 y4
  have eB := Lib.hid (res_below (b6 := w.heap.size + 1 + 1) (b7 := w.heap.size + 1 + 1 + 1) HB.out (by omega) (by omega) (.bool f') (.bool true) (.bool i') (.bool false) (.bool false) (.bool true) (.bool f') (.bool false) (.bool i') (.bool false))
  clear a0 a1 a2 a3 a4 b0 b1 b2 b3 b4 z0 z1 z2 z3 z4 y0 y1 y2 y3 y4 p0 p1 p2 p3 p4 q0 q1 q2 q3 q4 c0 c1 c2 c3 c4 cl d0 d1 d2 d3 d4 dl HB
  generalize ((((((((((W7.setCell ⟨w.heap.size + 1 + 1, 0, none⟩ (.bool f')).setCell ⟨w.heap.size + 1 + 1, 1, none⟩ (.bool true)).setCell ⟨w.heap.size + 1 + 1, 2, none⟩ (.bool i')).setCell ⟨w.heap.size + 1 + 1, 3, none⟩ (.bool false)).setCell ⟨w.heap.size + 1 + 1, 4, none⟩ (.bool false)).setCell ⟨w.heap.size + 1 + 1 + 1, 0, none⟩ (.bool true)).setCell ⟨w.heap.size + 1 + 1 + 1, 1, none⟩ (.bool f')).setCell ⟨w.heap.size + 1 + 1 + 1, 2, none⟩ (.bool false)).setCell ⟨w.heap.size + 1 + 1 + 1, 3, none⟩ (.bool i')).setCell ⟨w.heap.size + 1 + 1 + 1, 4, none⟩ (.bool false)) = WF at e0 e1 e2 e3 e4 e5 e6 e7 e8 e9 eB ⊢
  go_wp2_with fail
  refine bodyPost_ret (v := .tuple #[.agg #[.bool f', .bool true, .bool i', .bool false, .bool false], .agg #[.bool true, .bool f', .bool false, .bool i', .bool false], .int .i64 0]) (by simp [results, Try.results18, go_sem, e0, e1, e2, e3, e4, e5, e6, e7, e8, e9]) rfl ⟨rfl, ?_⟩
  exact Below.drew eB.out

set_option maxHeartbeats 1000000 in
theorem ref2 (t f o i b t' f' o' i' b' : Bool) (w : World) (hf : fitsB t f o i b t' f' o' i' b' = true) :
    Calls Try.prog 18 #[.agg #[.bool t, .bool f, .bool o, .bool i, .bool b], .agg #[.bool t', .bool f', .bool o', .bool i', .bool b'], .int .i64 2] w fun e w' => ∃ (x y : It) (c : Int), act ⟨t, f, o, i, b⟩ ⟨t', f', o', i', b'⟩ 2 = (x, y, c) ∧ e = .returned (.tuple #[.agg #[.bool x.t, .bool x.f, .bool x.o, .bool x.i, .bool x.b], .agg #[.bool y.t, .bool y.f, .bool y.o, .bool y.i, .bool y.b], .int .i64 c]) ∧ Below w.heap.size w w' := by
  have HF := hf
  obtain ⟨rfl, rfl, rfl, rfl⟩ := fits_parts hf
  clear HF
  cases b with
  | true =>
    exact (ref2_0 t' f' o' i' b' w hf).mono fun e w' h => ⟨⟨f', t', i', o', true⟩, ⟨t', f', o', i', b'⟩, 8, by simp [act, fitsI, hf, doIt], h.1, h.2⟩
  | false =>
    cases b' with
    | true =>
      exact (ref2_1 t' f' o' i' w hf).mono fun e w' h => ⟨⟨f', t', i', o', false⟩, ⟨t', f', o', i', true⟩, 8, by simp [act, fitsI, hf, doIt], h.1, h.2⟩
    | false =>
      cases o' with
      | true =>
        exact (ref2_3 t' f' i' w hf).mono fun e w' h => ⟨⟨f', true, i', false, false⟩, ⟨true, f', false, i', false⟩, 0, by simp [act, fitsI, hf, doIt], h.1, h.2⟩
      | false =>
        exact (ref2_2 t' f' i' w hf).mono fun e w' h => ⟨⟨f', t', i', false, false⟩, ⟨t', f', false, i', false⟩, 7, by simp [act, fitsI, hf, doIt], h.1, h.2⟩

set_option maxRecDepth 100000 in
set_option maxHeartbeats 8000000 in
theorem ref3_0 (t' o' b b' : Bool) (w : World) (hf : fitsB false t' false o' b t' false o' false b' = true) :
    Calls Try.prog 18 #[.agg #[.bool false, .bool t', .bool false, .bool o', .bool b], .agg #[.bool t', .bool false, .bool o', .bool false, .bool b'], .int .i64 3] w fun e w' => e = .returned (.tuple #[.agg #[.bool false, .bool t', .bool false, .bool o', .bool b], .agg #[.bool t', .bool false, .bool o', .bool false, .bool b'], .int .i64 7]) ∧ Below w.heap.size w w' := by
  have H4 := Lib.hid (ab_four false t' false o' b t' false o' false b' w)
  go_enter Try.func18, Try.ntmps18
  go_wp2_with fail
  refine (refMay_any _ _ _ _ _ _ _ _ _ _ _).mono ?_
  rintro e w1 ⟨rfl, hb⟩
  have H5 := Lib.hid (H4.out.kept hb (by simp) (Nat.le_refl _))
  clear hb H4
  obtain ⟨a0, a1, a2, a3, a4, b0, b1, b2, b3, b4, z0, z1, z2, z3, z4, y0, y1, y2, y3, y4, p0, p1, p2, p3, p4, q0, q1, q2, q3, q4, bel, sz⟩ := H5.out
  clear bel
  have sz0 : w.heap.size < w1.heap.size := by omega
  have sz1 : w.heap.size + 1 < w1.heap.size := by omega
  have sz2 : w.heap.size + 2 < w1.heap.size := by omega
  rw [hf]
  clear hf
  go_wp2_with fail
  have H7 := Lib.hid ((H5.out.kept (Below.alloc (Below.refl _ _) (Nat.le_refl _) (.cells #[.bool false, .bool t', .bool false, .bool o', .bool b] 23)) sz (Nat.le_refl _)).kept (Below.alloc (Below.refl _ _) (Nat.le_refl _) (.cells #[.bool t', .bool false, .bool o', .bool false, .bool b'] 23)) (by simp; omega) (Nat.le_refl _))
  have HN := Lib.hid (two_new false t' false o' b t' false o' false b' w1)
  have szz := sz2
  clear a0 a1 a2 a3 a4 b0 b1 b2 b3 b4 z0 z1 z2 z3 z4 y0 y1 y2 y3 y4 p0 p1 p2 p3 p4 q0 q1 q2 q3 q4 sz0 sz1 sz2 sz H5
  generalize ((w1.alloc (.cells #[.bool false, .bool t', .bool false, .bool o', .bool b] 23)).alloc (.cells #[.bool t', .bool false, .bool o', .bool false, .bool b'] 23)) = W7 at H7 HN ⊢
  obtain ⟨a0, a1, a2, a3, a4, b0, b1, b2, b3, b4, z0, z1, z2, z3, z4, y0, y1, y2, y3, y4, p0, p1, p2, p3, p4, q0, q1, q2, q3, q4, bel, sz⟩ := H7.out
  obtain ⟨⟨c0, c1, c2, c3, c4, cl⟩, ⟨d0, d1, d2, d3, d4, dl⟩⟩ := HN.out
  have HB := Lib.hid bel
  clear bel
  have n1 : w1.heap.size + 1 ≠ w.heap.size + 1 + 1 := by omega
  have n2 : w.heap.size + 1 + 1 ≠ w1.heap.size + 1 := by omega
  have n3 : w1.heap.size ≠ w.heap.size + 1 + 1 := by omega
  have n4 : w.heap.size + 1 + 1 ≠ w1.heap.size := by omega
  clear HN szz
  generalize w1.heap.size + 1 = Q at d0 d1 d2 d3 d4 dl n1 n2 ⊢
  generalize w1.heap.size = P at c0 c1 c2 c3 c4 cl n3 n4 ⊢
  go_region
  obtain ⟨e0, e1, e2, e3, e4, e5, e6, e7, e8, e9⟩ := res_stored (W := W7) (b6 := w.heap.size + 1 + 1) (b7 := w.heap.size + 1 + 1 + 1) (by omega) (.bool false) (.bool t') (.bool false) (.bool o') (.bool b) (.bool t') (.bool false) (.bool o') (.bool false) (.bool b') z0 z1 z2 z3 z4 y0 y1 y2 y3 y4
  have eB := Lib.hid (res_below (b6 := w.heap.size + 1 + 1) (b7 := w.heap.size + 1 + 1 + 1) HB.out (by omega) (by omega) (.bool false) (.bool t') (.bool false) (.bool o') (.bool b) (.bool t') (.bool false) (.bool o') (.bool false) (.bool b'))
  clear a0 a1 a2 a3 a4 b0 b1 b2 b3 b4 z0 z1 z2 z3 z4 y0 y1 y2 y3 y4 p0 p1 p2 p3 p4 q0 q1 q2 q3 q4 c0 c1 c2 c3 c4 cl d0 d1 d2 d3 d4 dl HB
  generalize ((((((((((W7.setCell ⟨w.heap.size + 1 + 1, 0, none⟩ (.bool false)).setCell ⟨w.heap.size + 1 + 1, 1, none⟩ (.bool t')).setCell ⟨w.heap.size + 1 + 1, 2, none⟩ (.bool false)).setCell ⟨w.heap.size + 1 + 1, 3, none⟩ (.bool o')).setCell ⟨w.heap.size + 1 + 1, 4, none⟩ (.bool b)).setCell ⟨w.heap.size + 1 + 1 + 1, 0, none⟩ (.bool t')).setCell ⟨w.heap.size + 1 + 1 + 1, 1, none⟩ (.bool false)).setCell ⟨w.heap.size + 1 + 1 + 1, 2, none⟩ (.bool o')).setCell ⟨w.heap.size + 1 + 1 + 1, 3, none⟩ (.bool false)).setCell ⟨w.heap.size + 1 + 1 + 1, 4, none⟩ (.bool b')) = WF at e0 e1 e2 e3 e4 e5 e6 e7 e8 e9 eB ⊢
  go_wp2_with fail
  refine bodyPost_ret (v := .tuple #[.agg #[.bool false, .bool t', .bool false, .bool o', .bool b], .agg #[.bool t', .bool false, .bool o', .bool false, .bool b'], .int .i64 7]) (by simp [results, Try.results18, go_sem, e0, e1, e2, e3, e4, e5, e6, e7, e8, e9]) rfl ⟨rfl, ?_⟩
  exact Below.drew eB.out

set_option maxRecDepth 100000 in
set_option maxHeartbeats 8000000 in
theorem ref3_1 (t' o' i' b b' : Bool) (w : World) (hf : fitsB true t' i' o' b t' true o' i' b' = true) :
    Calls Try.prog 18 #[.agg #[.bool true, .bool t', .bool i', .bool o', .bool b], .agg #[.bool t', .bool true, .bool o', .bool i', .bool b'], .int .i64 3] w fun e w' => e = .returned (.tuple #[.agg #[.bool false, .bool t', .bool false, .bool o', .bool b], .agg #[.bool t', .bool false, .bool o', .bool false, .bool b'], .int .i64 0]) ∧ Below w.heap.size w w' := by
  have H4 := Lib.hid (ab_four true t' i' o' b t' true o' i' b' w)
  go_enter Try.func18, Try.ntmps18
  go_wp2_with fail
  refine (refMay_any _ _ _ _ _ _ _ _ _ _ _).mono ?_
  rintro e w1 ⟨rfl, hb⟩
  have H5 := Lib.hid (H4.out.kept hb (by simp) (Nat.le_refl _))
  clear hb H4
  obtain ⟨a0, a1, a2, a3, a4, b0, b1, b2, b3, b4, z0, z1, z2, z3, z4, y0, y1, y2, y3, y4, p0, p1, p2, p3, p4, q0, q1, q2, q3, q4, bel, sz⟩ := H5.out
  clear bel
  have sz0 : w.heap.size < w1.heap.size := by omega
  have sz1 : w.heap.size + 1 < w1.heap.size := by omega
  have sz2 : w.heap.size + 2 < w1.heap.size := by omega
  rw [hf]
  clear hf
  go_wp2_with fail
  have H7 := Lib.hid ((H5.out.kept (Below.alloc (Below.refl _ _) (Nat.le_refl _) (.cells #[.bool false, .bool t', .bool false, .bool o', .bool b] 23)) sz (Nat.le_refl _)).kept (Below.alloc (Below.refl _ _) (Nat.le_refl _) (.cells #[.bool t', .bool false, .bool o', .bool false, .bool b'] 23)) (by simp; omega) (Nat.le_refl _))
  have HN := Lib.hid (two_new false t' false o' b t' false o' false b' w1)
  have szz := sz2
  clear a0 a1 a2 a3 a4 b0 b1 b2 b3 b4 z0 z1 z2 z3 z4 y0 y1 y2 y3 y4 p0 p1 p2 p3 p4 q0 q1 q2 q3 q4 sz0 sz1 sz2 sz H5
  generalize ((w1.alloc (.cells #[.bool false, .bool t', .bool false, .bool o', .bool b] 23)).alloc (.cells #[.bool t', .bool false, .bool o', .bool false, .bool b'] 23)) = W7 at H7 HN ⊢
  obtain ⟨a0, a1, a2, a3, a4, b0, b1, b2, b3, b4, z0, z1, z2, z3, z4, y0, y1, y2, y3, y4, p0, p1, p2, p3, p4, q0, q1, q2, q3, q4, bel, sz⟩ := H7.out
  obtain ⟨⟨c0, c1, c2, c3, c4, cl⟩, ⟨d0, d1, d2, d3, d4, dl⟩⟩ := HN.out
  have HB := Lib.hid bel
  clear bel
  have n1 : w1.heap.size + 1 ≠ w.heap.size + 1 + 1 := by omega
  have n2 : w.heap.size + 1 + 1 ≠ w1.heap.size + 1 := by omega
  have n3 : w1.heap.size ≠ w.heap.size + 1 + 1 := by omega
  have n4 : w.heap.size + 1 + 1 ≠ w1.heap.size := by omega
  clear HN szz
  generalize w1.heap.size + 1 = Q at d0 d1 d2 d3 d4 dl n1 n2 ⊢
  generalize w1.heap.size = P at c0 c1 c2 c3 c4 cl n3 n4 ⊢
  go_region
  obtain ⟨e0, e1, e2, e3, e4, e5, e6, e7, e8, e9⟩ := res_stored (W := W7) (b6 := w.heap.size + 1 + 1) (b7 := w.heap.size + 1 + 1 + 1) (by omega) (.bool false) (.bool t') (.bool false) (.bool o') (.bool b) (.bool t') (.bool false) (.bool o') (.bool false) (.bool b') z0 z1 z2 z3 z4 y0 y1 y2 y3 y4
  have eB := Lib.hid (res_below (b6 := w.heap.size + 1 + 1) (b7 := w.heap.size + 1 + 1 + 1) HB.out (by omega) (by omega) (.bool false) (.bool t') (.bool false) (.bool o') (.bool b) (.bool t') (.bool false) (.bool o') (.bool false) (.bool b'))
  clear a0 a1 a2 a3 a4 b0 b1 b2 b3 b4 z0 z1 z2 z3 z4 y0 y1 y2 y3 y4 p0 p1 p2 p3 p4 q0 q1 q2 q3 q4 c0 c1 c2 c3 c4 cl d0 d1 d2 d3 d4 dl HB
  generalize ((((((((((W7.setCell ⟨w.heap.size + 1 + 1, 0, none⟩ (.bool false)).setCell ⟨w.heap.size + 1 + 1, 1, none⟩ (.bool t')).setCell ⟨w.heap.size + 1 + 1, 2, none⟩ (.bool false)).setCell ⟨w.heap.size + 1 + 1, 3, none⟩ (.bool o')).setCell ⟨w.heap.size + 1 + 1, 4, none⟩ (.bool b)).setCell ⟨w.heap.size + 1 + 1 + 1, 0, none⟩ (.bool t')).setCell ⟨w.heap.size + 1 + 1 + 1, 1, none⟩ (.bool false)).setCell ⟨w.heap.size + 1 + 1 + 1, 2, none⟩ (.bool o')).setCell ⟨w.heap.size + 1 + 1 + 1, 3, none⟩ (.bool false)).setCell ⟨w.heap.size + 1 + 1 + 1, 4, none⟩ (.bool b')) = WF at e0 e1 e2 e3 e4 e5 e6 e7 e8 e9 eB ⊢
  go_wp2_with fail
  refine bodyPost_ret (v := .tuple #[.agg #[.bool false, .bool t', .bool false, .bool o', .bool b], .agg #[.bool t', .bool false, .bool o', .bool false, .bool b'], .int .i64 0]) (by simp [results, Try.results18, go_sem, e0, e1, e2, e3, e4, e5, e6, e7, e8, e9]) rfl ⟨rfl, ?_⟩
  exact Below.drew eB.out

set_option maxRecDepth 100000 in
set_option maxHeartbeats 8000000 in
theorem ref3_2 (t' o' b b' : Bool) (w : World) (hf : fitsB false t' true o' b t' false o' true b' = true) :
    Calls Try.prog 18 #[.agg #[.bool false, .bool t', .bool true, .bool o', .bool b], .agg #[.bool t', .bool false, .bool o', .bool true, .bool b'], .int .i64 3] w fun e w' => e = .returned (.tuple #[.agg #[.bool false, .bool t', .bool false, .bool o', .bool b], .agg #[.bool t', .bool false, .bool o', .bool false, .bool b'], .int .i64 0]) ∧ Below w.heap.size w w' := by
  have H4 := Lib.hid (ab_four false t' true o' b t' false o' true b' w)
  go_enter Try.func18, Try.ntmps18
  go_wp2_with fail
  refine (refMay_any _ _ _ _ _ _ _ _ _ _ _).mono ?_
  rintro e w1 ⟨rfl, hb⟩
  have H5 := Lib.hid (H4.out.kept hb (by simp) (Nat.le_refl _))
  clear hb H4
  obtain ⟨a0, a1, a2, a3, a4, b0, b1, b2, b3, b4, z0, z1, z2, z3, z4, y0, y1, y2, y3, y4, p0, p1, p2, p3, p4, q0, q1, q2, q3, q4, bel, sz⟩ := H5.out
  clear bel
  have sz0 : w.heap.size < w1.heap.size := by omega
  have sz1 : w.heap.size + 1 < w1.heap.size := by omega
  have sz2 : w.heap.size + 2 < w1.heap.size := by omega
  rw [hf]
  clear hf
  go_wp2_with fail
  have H7 := Lib.hid ((H5.out.kept (Below.alloc (Below.refl _ _) (Nat.le_refl _) (.cells #[.bool false, .bool t', .bool false, .bool o', .bool b] 23)) sz (Nat.le_refl _)).kept (Below.alloc (Below.refl _ _) (Nat.le_refl _) (.cells #[.bool t', .bool false, .bool o', .bool false, .bool b'] 23)) (by simp; omega) (Nat.le_refl _))
  have HN := Lib.hid (two_new false t' false o' b t' false o' false b' w1)
  have szz := sz2
  clear a0 a1 a2 a3 a4 b0 b1 b2 b3 b4 z0 z1 z2 z3 z4 y0 y1 y2 y3 y4 p0 p1 p2 p3 p4 q0 q1 q2 q3 q4 sz0 sz1 sz2 sz H5
  generalize ((w1.alloc (.cells #[.bool false, .bool t', .bool false, .bool o', .bool b] 23)).alloc (.cells #[.bool t', .bool false, .bool o', .bool false, .bool b'] 23)) = W7 at H7 HN ⊢
  obtain ⟨a0, a1, a2, a3, a4, b0, b1, b2, b3, b4, z0, z1, z2, z3, z4, y0, y1, y2, y3, y4, p0, p1, p2, p3, p4, q0, q1, q2, q3, q4, bel, sz⟩ := H7.out
  obtain ⟨⟨c0, c1, c2, c3, c4, cl⟩, ⟨d0, d1, d2, d3, d4, dl⟩⟩ := HN.out
  have HB := Lib.hid bel
  clear bel
  have n1 : w1.heap.size + 1 ≠ w.heap.size + 1 + 1 := by omega
  have n2 : w.heap.size + 1 + 1 ≠ w1.heap.size + 1 := by omega
  have n3 : w1.heap.size ≠ w.heap.size + 1 + 1 := by omega
  have n4 : w.heap.size + 1 + 1 ≠ w1.heap.size := by omega
  clear HN szz
  generalize w1.heap.size + 1 = Q at d0 d1 d2 d3 d4 dl n1 n2 ⊢
  generalize w1.heap.size = P at c0 c1 c2 c3 c4 cl n3 n4 ⊢
  go_region
  obtain ⟨e0, e1, e2, e3, e4, e5, e6, e7, e8, e9⟩ := res_stored (W := W7) (b6 := w.heap.size + 1 + 1) (b7 := w.heap.size + 1 + 1 + 1) (by omega) (.bool false) (.bool t') (.bool false) (.bool o') (.bool b) (.bool t') (.bool false) (.bool o') (.bool false) (.bool b') z0 z1 z2 z3 z4 y0 y1 y2 y3 y4
  have eB := Lib.hid (res_below (b6 := w.heap.size + 1 + 1) (b7 := w.heap.size + 1 + 1 + 1) HB.out (by omega) (by omega) (.bool false) (.bool t') (.bool false) (.bool o') (.bool b) (.bool t') (.bool false) (.bool o') (.bool false) (.bool b'))
  clear a0 a1 a2 a3 a4 b0 b1 b2 b3 b4 z0 z1 z2 z3 z4 y0 y1 y2 y3 y4 p0 p1 p2 p3 p4 q0 q1 q2 q3 q4 c0 c1 c2 c3 c4 cl d0 d1 d2 d3 d4 dl HB
  generalize ((((((((((W7.setCell ⟨w.heap.size + 1 + 1, 0, none⟩ (.bool false)).setCell ⟨w.heap.size + 1 + 1, 1, none⟩ (.bool t')).setCell ⟨w.heap.size + 1 + 1, 2, none⟩ (.bool false)).setCell ⟨w.heap.size + 1 + 1, 3, none⟩ (.bool o')).setCell ⟨w.heap.size + 1 + 1, 4, none⟩ (.bool b)).setCell ⟨w.heap.size + 1 + 1 + 1, 0, none⟩ (.bool t')).setCell ⟨w.heap.size + 1 + 1 + 1, 1, none⟩ (.bool false)).setCell ⟨w.heap.size + 1 + 1 + 1, 2, none⟩ (.bool o')).setCell ⟨w.heap.size + 1 + 1 + 1, 3, none⟩ (.bool false)).setCell ⟨w.heap.size + 1 + 1 + 1, 4, none⟩ (.bool b')) = WF at e0 e1 e2 e3 e4 e5 e6 e7 e8 e9 eB ⊢
  go_wp2_with fail
  refine bodyPost_ret (v := .tuple #[.agg #[.bool false, .bool t', .bool false, .bool o', .bool b], .agg #[.bool t', .bool false, .bool o', .bool false, .bool b'], .int .i64 0]) (by simp [results, Try.results18, go_sem, e0, e1, e2, e3, e4, e5, e6, e7, e8, e9]) rfl ⟨rfl, ?_⟩
  exact Below.drew eB.out

set_option maxHeartbeats 1000000 in
theorem ref3 (t f o i b t' f' o' i' b' : Bool) (w : World) (hf : fitsB t f o i b t' f' o' i' b' = true) :
    Calls Try.prog 18 #[.agg #[.bool t, .bool f, .bool o, .bool i, .bool b], .agg #[.bool t', .bool f', .bool o', .bool i', .bool b'], .int .i64 3] w fun e w' => ∃ (x y : It) (c : Int), act ⟨t, f, o, i, b⟩ ⟨t', f', o', i', b'⟩ 3 = (x, y, c) ∧ e = .returned (.tuple #[.agg #[.bool x.t, .bool x.f, .bool x.o, .bool x.i, .bool x.b], .agg #[.bool y.t, .bool y.f, .bool y.o, .bool y.i, .bool y.b], .int .i64 c]) ∧ Below w.heap.size w w' := by
  have HF := hf
  obtain ⟨rfl, rfl, rfl, rfl⟩ := fits_parts hf
  clear HF
  cases f' with
  | true =>
    exact (ref3_1 t' o' i' b b' w hf).mono fun e w' h => ⟨⟨false, t', false, o', b⟩, ⟨t', false, o', false, b'⟩, 0, by simp [act, fitsI, hf, doIt], h.1, h.2⟩
  | false =>
    cases i' with
    | true =>
      exact (ref3_2 t' o' b b' w hf).mono fun e w' h => ⟨⟨false, t', false, o', b⟩, ⟨t', false, o', false, b'⟩, 0, by simp [act, fitsI, hf, doIt], h.1, h.2⟩
    | false =>
      exact (ref3_0 t' o' b b' w hf).mono fun e w' h => ⟨⟨false, t', false, o', b⟩, ⟨t', false, o', false, b'⟩, 7, by simp [act, fitsI, hf, doIt], h.1, h.2⟩

set_option maxRecDepth 100000 in
set_option maxHeartbeats 8000000 in
theorem ref4_0 (f' i' b b' : Bool) (w : World) (hf : fitsB f' false i' false b false f' false i' b' = true) :
    Calls Try.prog 18 #[.agg #[.bool f', .bool false, .bool i', .bool false, .bool b], .agg #[.bool false, .bool f', .bool false, .bool i', .bool b'], .int .i64 4] w fun e w' => e = .returned (.tuple #[.agg #[.bool f', .bool false, .bool i', .bool false, .bool b], .agg #[.bool false, .bool f', .bool false, .bool i', .bool b'], .int .i64 7]) ∧ Below w.heap.size w w' := by
  have H4 := Lib.hid (ab_four f' false i' false b false f' false i' b' w)
  go_enter Try.func18, Try.ntmps18
  go_wp2_with fail
  refine (refMay_any _ _ _ _ _ _ _ _ _ _ _).mono ?_
  rintro e w1 ⟨rfl, hb⟩
  have H5 := Lib.hid (H4.out.kept hb (by simp) (Nat.le_refl _))
  clear hb H4
  obtain ⟨a0, a1, a2, a3, a4, b0, b1, b2, b3, b4, z0, z1, z2, z3, z4, y0, y1, y2, y3, y4, p0, p1, p2, p3, p4, q0, q1, q2, q3, q4, bel, sz⟩ := H5.out
  clear bel
  have sz0 : w.heap.size < w1.heap.size := by omega
  have sz1 : w.heap.size + 1 < w1.heap.size := by omega
  have sz2 : w.heap.size + 2 < w1.heap.size := by omega
  rw [hf]
  clear hf
  go_wp2_with fail
  have H7 := Lib.hid ((H5.out.kept (Below.alloc (Below.refl _ _) (Nat.le_refl _) (.cells #[.bool f', .bool false, .bool i', .bool false, .bool b] 23)) sz (Nat.le_refl _)).kept (Below.alloc (Below.refl _ _) (Nat.le_refl _) (.cells #[.bool false, .bool f', .bool false, .bool i', .bool b'] 23)) (by simp; omega) (Nat.le_refl _))
  have HN := Lib.hid (two_new f' false i' false b false f' false i' b' w1)
  have szz := sz2
  clear a0 a1 a2 a3 a4 b0 b1 b2 b3 b4 z0 z1 z2 z3 z4 y0 y1 y2 y3 y4 p0 p1 p2 p3 p4 q0 q1 q2 q3 q4 sz0 sz1 sz2 sz H5
  generalize ((w1.alloc (.cells #[.bool f', .bool false, .bool i', .bool false, .bool b] 23)).alloc (.cells #[.bool false, .bool f', .bool false, .bool i', .bool b'] 23)) = W7 at H7 HN ⊢
  obtain ⟨a0, a1, a2, a3, a4, b0, b1, b2, b3, b4, z0, z1, z2, z3, z4, y0, y1, y2, y3, y4, p0, p1, p2, p3, p4, q0, q1, q2, q3, q4, bel, sz⟩ := H7.out
  obtain ⟨⟨c0, c1, c2, c3, c4, cl⟩, ⟨d0, d1, d2, d3, d4, dl⟩⟩ := HN.out
  have HB := Lib.hid bel
  clear bel
  have n1 : w1.heap.size + 1 ≠ w.heap.size + 1 + 1 := by omega
  have n2 : w.heap.size + 1 + 1 ≠ w1.heap.size + 1 := by omega
  have n3 : w1.heap.size ≠ w.heap.size + 1 + 1 := by omega
  have n4 : w.heap.size + 1 + 1 ≠ w1.heap.size := by omega
  clear HN szz
  generalize w1.heap.size + 1 = Q at d0 d1 d2 d3 d4 dl n1 n2 ⊢
  generalize w1.heap.size = P at c0 c1 c2 c3 c4 cl n3 n4 ⊢
  go_region
  obtain ⟨e0, e1, e2, e3, e4, e5, e6, e7, e8, e9⟩ := res_stored (W := W7) (b6 := w.heap.size + 1 + 1) (b7 := w.heap.size + 1 + 1 + 1) (by omega) (.bool f') (.bool false) (.bool i') (.bool false) (.bool b) (.bool false) (.bool f') (.bool false) (.bool i') (.bool b') z0 z1 z2 z3 z4 y0 y1 y2 y3 y4
  have eB := Lib.hid (res_below (b6 := w.heap.size + 1 + 1) (b7 := w.heap.size + 1 + 1 + 1) HB.out (by omega) (by omega) (.bool f') (.bool false) (.bool i') (.bool false) (.bool b) (.bool false) (.bool f') (.bool false) (.bool i') (.bool b'))
  clear a0 a1 a2 a3 a4 b0 b1 b2 b3 b4 z0 z1 z2 z3 z4 y0 y1 y2 y3 y4 p0 p1 p2 p3 p4 q0 q1 q2 q3 q4 c0 c1 c2 c3 c4 cl d0 d1 d2 d3 d4 dl HB
  generalize ((((((((((W7.setCell ⟨w.heap.size + 1 + 1, 0, none⟩ (.bool f')).setCell ⟨w.heap.size + 1 + 1, 1, none⟩ (.bool false)).setCell ⟨w.heap.size + 1 + 1, 2, none⟩ (.bool i')).setCell ⟨w.heap.size + 1 + 1, 3, none⟩ (.bool false)).setCell ⟨w.heap.size + 1 + 1, 4, none⟩ (.bool b)).setCell ⟨w.heap.size + 1 + 1 + 1, 0, none⟩ (.bool false)).setCell ⟨w.heap.size + 1 + 1 + 1, 1, none⟩ (.bool f')).setCell ⟨w.heap.size + 1 + 1 + 1, 2, none⟩ (.bool false)).setCell ⟨w.heap.size + 1 + 1 + 1, 3, none⟩ (.bool i')).setCell ⟨w.heap.size + 1 + 1 + 1, 4, none⟩ (.bool b')) = WF at e0 e1 e2 e3 e4 e5 e6 e7 e8 e9 eB ⊢
  go_wp2_with fail
  refine bodyPost_ret (v := .tuple #[.agg #[.bool f', .bool false, .bool i', .bool false, .bool b], .agg #[.bool false, .bool f', .bool false, .bool i', .bool b'], .int .i64 7]) (by simp [results, Try.results18, go_sem, e0, e1, e2, e3, e4, e5, e6, e7, e8, e9]) rfl ⟨rfl, ?_⟩
  exact Below.drew eB.out

set_option maxRecDepth 100000 in
set_option maxHeartbeats 8000000 in
theorem ref4_1 (f' o' i' b b' : Bool) (w : World) (hf : fitsB f' true i' o' b true f' o' i' b' = true) :
    Calls Try.prog 18 #[.agg #[.bool f', .bool true, .bool i', .bool o', .bool b], .agg #[.bool true, .bool f', .bool o', .bool i', .bool b'], .int .i64 4] w fun e w' => e = .returned (.tuple #[.agg #[.bool f', .bool false, .bool i', .bool false, .bool b], .agg #[.bool false, .bool f', .bool false, .bool i', .bool b'], .int .i64 0]) ∧ Below w.heap.size w w' := by
  have H4 := Lib.hid (ab_four f' true i' o' b true f' o' i' b' w)
  go_enter Try.func18, Try.ntmps18
  go_wp2_with fail
  refine (refMay_any _ _ _ _ _ _ _ _ _ _ _).mono ?_
  rintro e w1 ⟨rfl, hb⟩
  have H5 := Lib.hid (H4.out.kept hb (by simp) (Nat.le_refl _))
  clear hb H4
  obtain ⟨a0, a1, a2, a3, a4, b0, b1, b2, b3, b4, z0, z1, z2, z3, z4, y0, y1, y2, y3, y4, p0, p1, p2, p3, p4, q0, q1, q2, q3, q4, bel, sz⟩ := H5.out
  clear bel
  have sz0 : w.heap.size < w1.heap.size := by omega
  have sz1 : w.heap.size + 1 < w1.heap.size := by omega
  have sz2 : w.heap.size + 2 < w1.heap.size := by omega
  rw [hf]
  clear hf
  go_wp2_with fail
  have H7 := Lib.hid ((H5.out.kept (Below.alloc (Below.refl _ _) (Nat.le_refl _) (.cells #[.bool f', .bool false, .bool i', .bool false, .bool b] 23)) sz (Nat.le_refl _)).kept (Below.alloc (Below.refl _ _) (Nat.le_refl _) (.cells #[.bool false, .bool f', .bool false, .bool i', .bool b'] 23)) (by simp; omega) (Nat.le_refl _))
  have HN := Lib.hid (two_new f' false i' false b false f' false i' b' w1)
  have szz := sz2
  clear a0 a1 a2 a3 a4 b0 b1 b2 b3 b4 z0 z1 z2 z3 z4 y0 y1 y2 y3 y4 p0 p1 p2 p3 p4 q0 q1 q2 q3 q4 sz0 sz1 sz2 sz H5
  generalize ((w1.alloc (.cells #[.bool f', .bool false, .bool i', .bool false, .bool b] 23)).alloc (.cells #[.bool false, .bool f', .bool false, .bool i', .bool b'] 23)) = W7 at H7 HN ⊢
  obtain ⟨a0, a1, a2, a3, a4, b0, b1, b2, b3, b4, z0, z1, z2, z3, z4, y0, y1, y2, y3, y4, p0, p1, p2, p3, p4, q0, q1, q2, q3, q4, bel, sz⟩ := H7.out
  obtain ⟨⟨c0, c1, c2, c3, c4, cl⟩, ⟨d0, d1, d2, d3, d4, dl⟩⟩ := HN.out
  have HB := Lib.hid bel
  clear bel
  have n1 : w1.heap.size + 1 ≠ w.heap.size + 1 + 1 := by omega
  have n2 : w.heap.size + 1 + 1 ≠ w1.heap.size + 1 := by omega
  have n3 : w1.heap.size ≠ w.heap.size + 1 + 1 := by omega
  have n4 : w.heap.size + 1 + 1 ≠ w1.heap.size := by omega
  clear HN szz
  generalize w1.heap.size + 1 = Q at d0 d1 d2 d3 d4 dl n1 n2 ⊢
  generalize w1.heap.size = P at c0 c1 c2 c3 c4 cl n3 n4 ⊢
  go_region
  obtain ⟨e0, e1, e2, e3, e4, e5, e6, e7, e8, e9⟩ := res_stored (W := W7) (b6 := w.heap.size + 1 + 1) (b7 := w.heap.size + 1 + 1 + 1) (by omega) (.bool f') (.bool false) (.bool i') (.bool false) (.bool b) (.bool false) (.bool f') (.bool false) (.bool i') (.bool b') z0 z1 z2 z3 z4 y0 y1 y2 y3 y4
  have eB := Lib.hid (res_below (b6 := w.heap.size + 1 + 1) (b7 := w.heap.size + 1 + 1 + 1) HB.out (by omega) (by omega) (.bool f') (.bool false) (.bool i') (.bool false) (.bool b) (.bool false) (.bool f') (.bool false) (.bool i') (.bool b'))
  clear a0 a1 a2 a3 a4 b0 b1 b2 b3 b4 z0 z1 z2 z3 z4 y0 y1 y2 y3 y4 p0 p1 p2 p3 p4 q0 q1 q2 q3 q4 c0 c1 c2 c3 c4 cl d0 d1 d2 d3 d4 dl HB
  generalize ((((((((((W7.setCell ⟨w.heap.size + 1 + 1, 0, none⟩ (.bool f')).setCell ⟨w.heap.size + 1 + 1, 1, none⟩ (.bool false)).setCell ⟨w.heap.size + 1 + 1, 2, none⟩ (.bool i')).setCell ⟨w.heap.size + 1 + 1, 3, none⟩ (.bool false)).setCell ⟨w.heap.size + 1 + 1, 4, none⟩ (.bool b)).setCell ⟨w.heap.size + 1 + 1 + 1, 0, none⟩ (.bool false)).setCell ⟨w.heap.size + 1 + 1 + 1, 1, none⟩ (.bool f')).setCell ⟨w.heap.size + 1 + 1 + 1, 2, none⟩ (.bool false)).setCell ⟨w.heap.size + 1 + 1 + 1, 3, none⟩ (.bool i')).setCell ⟨w.heap.size + 1 + 1 + 1, 4, none⟩ (.bool b')) = WF at e0 e1 e2 e3 e4 e5 e6 e7 e8 e9 eB ⊢
  go_wp2_with fail
  refine bodyPost_ret (v := .tuple #[.agg #[.bool f', .bool false, .bool i', .bool false, .bool b], .agg #[.bool false, .bool f', .bool false, .bool i', .bool b'], .int .i64 0]) (by simp [results, Try.results18, go_sem, e0, e1, e2, e3, e4, e5, e6, e7, e8, e9]) rfl ⟨rfl, ?_⟩
  exact Below.drew eB.out

set_option maxRecDepth 100000 in
set_option maxHeartbeats 8000000 in
theorem ref4_2 (f' i' b b' : Bool) (w : World) (hf : fitsB f' false i' true b false f' true i' b' = true) :
    Calls Try.prog 18 #[.agg #[.bool f', .bool false, .bool i', .bool true, .bool b], .agg #[.bool false, .bool f', .bool true, .bool i', .bool b'], .int .i64 4] w fun e w' => e = .returned (.tuple #[.agg #[.bool f', .bool false, .bool i', .bool false, .bool b], .agg #[.bool false, .bool f', .bool false, .bool i', .bool b'], .int .i64 0]) ∧ Below w.heap.size w w' := by
  have H4 := Lib.hid (ab_four f' false i' true b false f' true i' b' w)
  go_enter Try.func18, Try.ntmps18
  go_wp2_with fail
  refine (refMay_any _ _ _ _ _ _ _ _ _ _ _).mono ?_
  rintro e w1 ⟨rfl, hb⟩
  have H5 := Lib.hid (H4.out.kept hb (by simp) (Nat.le_refl _))
  clear hb H4
  obtain ⟨a0, a1, a2, a3, a4, b0, b1, b2, b3, b4, z0, z1, z2, z3, z4, y0, y1, y2, y3, y4, p0, p1, p2, p3, p4, q0, q1, q2, q3, q4, bel, sz⟩ := H5.out
  clear bel
  have sz0 : w.heap.size < w1.heap.size := by omega
  have sz1 : w.heap.size + 1 < w1.heap.size := by omega
  have sz2 : w.heap.size + 2 < w1.heap.size := by omega
  rw [hf]
  clear hf
  go_wp2_with fail
  have H7 := Lib.hid ((H5.out.kept (Below.alloc (Below.refl _ _) (Nat.le_refl _) (.cells #[.bool f', .bool false, .bool i', .bool false, .bool b] 23)) sz (Nat.le_refl _)).kept (Below.alloc (Below.refl _ _) (Nat.le_refl _) (.cells #[.bool false, .bool f', .bool false, .bool i', .bool b'] 23)) (by simp; omega) (Nat.le_refl _))
  have HN := Lib.hid (two_new f' false i' false b false f' false i' b' w1)
  have szz := sz2
  clear a0 a1 a2 a3 a4 b0 b1 b2 b3 b4 z0 z1 z2 z3 z4 y0 y1 y2 y3 y4 p0 p1 p2 p3 p4 q0 q1 q2 q3 q4 sz0 sz1 sz2 sz H5
  generalize ((w1.alloc (.cells #[.bool f', .bool false, .bool i', .bool false, .bool b] 23)).alloc (.cells #[.bool false, .bool f', .bool false, .bool i', .bool b'] 23)) = W7 at H7 HN ⊢
  obtain ⟨a0, a1, a2, a3, a4, b0, b1, b2, b3, b4, z0, z1, z2, z3, z4, y0, y1, y2, y3, y4, p0, p1, p2, p3, p4, q0, q1, q2, q3, q4, bel, sz⟩ := H7.out
  obtain ⟨⟨c0, c1, c2, c3, c4, cl⟩, ⟨d0, d1, d2, d3, d4, dl⟩⟩ := HN.out
  have HB := Lib.hid bel
  clear bel
  have n1 : w1.heap.size + 1 ≠ w.heap.size + 1 + 1 := by omega
  have n2 : w.heap.size + 1 + 1 ≠ w1.heap.size + 1 := by omega
  have n3 : w1.heap.size ≠ w.heap.size + 1 + 1 := by omega
  have n4 : w.heap.size + 1 + 1 ≠ w1.heap.size := by omega
  clear HN szz
  generalize w1.heap.size + 1 = Q at d0 d1 d2 d3 d4 dl n1 n2 ⊢
  generalize w1.heap.size = P at c0 c1 c2 c3 c4 cl n3 n4 ⊢
  go_region
  obtain ⟨e0, e1, e2, e3, e4, e5, e6, e7, e8, e9⟩ := res_stored (W := W7) (b6 := w.heap.size + 1 + 1) (b7 := w.heap.size + 1 + 1 + 1) (by omega) (.bool f') (.bool false) (.bool i') (.bool false) (.bool b) (.bool false) (.bool f') (.bool false) (.bool i') (.bool b') z0 z1 z2 z3 z4 y0 y1 y2 y3 y4
  have eB := Lib.hid (res_below (b6 := w.heap.size + 1 + 1) (b7 := w.heap.size + 1 + 1 + 1) HB.out (by omega) (by omega) (.bool f') (.bool false) (.bool i') (.bool false) (.bool b) (.bool false) (.bool f') (.bool false) (.bool i') (.bool b'))
  clear a0 a1 a2 a3 a4 b0 b1 b2 b3 b4 z0 z1 z2 z3 z4 y0 y1 y2 y3 y4 p0 p1 p2 p3 p4 q0 q1 q2 q3 q4 c0 c1 c2 c3 c4 cl d0 d1 d2 d3 d4 dl HB
  generalize ((((((((((W7.setCell ⟨w.heap.size + 1 + 1, 0, none⟩ (.bool f')).setCell ⟨w.heap.size + 1 + 1, 1, none⟩ (.bool false)).setCell ⟨w.heap.size + 1 + 1, 2, none⟩ (.bool i')).setCell ⟨w.heap.size + 1 + 1, 3, none⟩ (.bool false)).setCell ⟨w.heap.size + 1 + 1, 4, none⟩ (.bool b)).setCell ⟨w.heap.size + 1 + 1 + 1, 0, none⟩ (.bool false)).setCell ⟨w.heap.size + 1 + 1 + 1, 1, none⟩ (.bool f')).setCell ⟨w.heap.size + 1 + 1 + 1, 2, none⟩ (.bool false)).setCell ⟨w.heap.size + 1 + 1 + 1, 3, none⟩ (.bool i')).setCell ⟨w.heap.size + 1 + 1 + 1, 4, none⟩ (.bool b')) = WF at e0 e1 e2 e3 e4 e5 e6 e7 e8 e9 eB ⊢
  go_wp2_with fail
  refine bodyPost_ret (v := .tuple #[.agg #[.bool f', .bool false, .bool i', .bool false, .bool b], .agg #[.bool false, .bool f', .bool false, .bool i', .bool b'], .int .i64 0]) (by simp [results, Try.results18, go_sem, e0, e1, e2, e3, e4, e5, e6, e7, e8, e9]) rfl ⟨rfl, ?_⟩
  exact Below.drew eB.out

set_option maxHeartbeats 1000000 in
theorem ref4 (t f o i b t' f' o' i' b' : Bool) (w : World) (hf : fitsB t f o i b t' f' o' i' b' = true) :
    Calls Try.prog 18 #[.agg #[.bool t, .bool f, .bool o, .bool i, .bool b], .agg #[.bool t', .bool f', .bool o', .bool i', .bool b'], .int .i64 4] w fun e w' => ∃ (x y : It) (c : Int), act ⟨t, f, o, i, b⟩ ⟨t', f', o', i', b'⟩ 4 = (x, y, c) ∧ e = .returned (.tuple #[.agg #[.bool x.t, .bool x.f, .bool x.o, .bool x.i, .bool x.b], .agg #[.bool y.t, .bool y.f, .bool y.o, .bool y.i, .bool y.b], .int .i64 c]) ∧ Below w.heap.size w w' := by
  have HF := hf
  obtain ⟨rfl, rfl, rfl, rfl⟩ := fits_parts hf
  clear HF
  cases t' with
  | true =>
    exact (ref4_1 f' o' i' b b' w hf).mono fun e w' h => ⟨⟨f', false, i', false, b⟩, ⟨false, f', false, i', b'⟩, 0, by simp [act, fitsI, hf, doIt], h.1, h.2⟩
  | false =>
    cases o' with
    | true =>
      exact (ref4_2 f' i' b b' w hf).mono fun e w' h => ⟨⟨f', false, i', false, b⟩, ⟨false, f', false, i', b'⟩, 0, by simp [act, fitsI, hf, doIt], h.1, h.2⟩
    | false =>
      exact (ref4_0 f' i' b b' w hf).mono fun e w' h => ⟨⟨f', false, i', false, b⟩, ⟨false, f', false, i', b'⟩, 7, by simp [act, fitsI, hf, doIt], h.1, h.2⟩

set_option maxRecDepth 100000 in
set_option maxHeartbeats 8000000 in
theorem ref5_0 (t' f' o' i' b' : Bool) (w : World) (hf : fitsB f' t' i' o' true t' f' o' i' b' = true) :
    Calls Try.prog 18 #[.agg #[.bool f', .bool t', .bool i', .bool o', .bool true], .agg #[.bool t', .bool f', .bool o', .bool i', .bool b'], .int .i64 5] w fun e w' => e = .returned (.tuple #[.agg #[.bool f', .bool t', .bool i', .bool o', .bool true], .agg #[.bool t', .bool f', .bool o', .bool i', .bool b'], .int .i64 7]) ∧ Below w.heap.size w w' := by
  have H4 := Lib.hid (ab_four f' t' i' o' true t' f' o' i' b' w)
  go_enter Try.func18, Try.ntmps18
  go_wp2_with fail
  refine (refMay_any _ _ _ _ _ _ _ _ _ _ _).mono ?_
  rintro e w1 ⟨rfl, hb⟩
  have H5 := Lib.hid (H4.out.kept hb (by simp) (Nat.le_refl _))
  clear hb H4
  obtain ⟨a0, a1, a2, a3, a4, b0, b1, b2, b3, b4, z0, z1, z2, z3, z4, y0, y1, y2, y3, y4, p0, p1, p2, p3, p4, q0, q1, q2, q3, q4, bel, sz⟩ := H5.out
  clear bel
  have sz0 : w.heap.size < w1.heap.size := by omega
  have sz1 : w.heap.size + 1 < w1.heap.size := by omega
  have sz2 : w.heap.size + 2 < w1.heap.size := by omega
  rw [hf]
  clear hf
  go_wp2_with fail
  have H7 := Lib.hid ((H5.out.kept (Below.alloc (Below.refl _ _) (Nat.le_refl _) (.cells #[.bool f', .bool t', .bool i', .bool o', .bool true] 23)) sz (Nat.le_refl _)).kept (Below.alloc (Below.refl _ _) (Nat.le_refl _) (.cells #[.bool t', .bool f', .bool o', .bool i', .bool b'] 23)) (by simp; omega) (Nat.le_refl _))
  have HN := Lib.hid (two_new f' t' i' o' true t' f' o' i' b' w1)
  have szz := sz2
  clear a0 a1 a2 a3 a4 b0 b1 b2 b3 b4 z0 z1 z2 z3 z4 y0 y1 y2 y3 y4 p0 p1 p2 p3 p4 q0 q1 q2 q3 q4 sz0 sz1 sz2 sz H5
  generalize ((w1.alloc (.cells #[.bool f', .bool t', .bool i', .bool o', .bool true] 23)).alloc (.cells #[.bool t', .bool f', .bool o', .bool i', .bool b'] 23)) = W7 at H7 HN ⊢
  obtain ⟨a0, a1, a2, a3, a4, b0, b1, b2, b3, b4, z0, z1, z2, z3, z4, y0, y1, y2, y3, y4, p0, p1, p2, p3, p4, q0, q1, q2, q3, q4, bel, sz⟩ := H7.out
  obtain ⟨⟨c0, c1, c2, c3, c4, cl⟩, ⟨d0, d1, d2, d3, d4, dl⟩⟩ := HN.out
  have HB := Lib.hid bel
  clear bel
  have n1 : w1.heap.size + 1 ≠ w.heap.size + 1 + 1 := by omega
  have n2 : w.heap.size + 1 + 1 ≠ w1.heap.size + 1 := by omega
  have n3 : w1.heap.size ≠ w.heap.size + 1 + 1 := by omega
  have n4 : w.heap.size + 1 + 1 ≠ w1.heap.size := by omega
  clear HN szz
  generalize w1.heap.size + 1 = Q at d0 d1 d2 d3 d4 dl n1 n2 ⊢
  generalize w1.heap.size = P at c0 c1 c2 c3 c4 cl n3 n4 ⊢
  go_region
  obtain ⟨e0, e1, e2, e3, e4, e5, e6, e7, e8, e9⟩ := res_stored (W := W7) (b6 := w.heap.size + 1 + 1) (b7 := w.heap.size + 1 + 1 + 1) (by omega) (.bool f') (.bool t') (.bool i') (.bool o') (.bool true) (.bool t') (.bool f') (.bool o') (.bool i') (.bool b') z0 z1 z2 z3 z4 y0 y1 y2 y3 y4
  have eB := Lib.hid (res_below (b6 := w.heap.size + 1 + 1) (b7 := w.heap.size + 1 + 1 + 1) HB.out (by omega) (by omega) (.bool f') (.bool t') (.bool i') (.bool o') (.bool true) (.bool t') (.bool f') (.bool o') (.bool i') (.bool b'))
  clear a0 a1 a2 a3 a4 b0 b1 b2 b3 b4 z0 z1 z2 z3 z4 y0 y1 y2 y3 y4 p0 p1 p2 p3 p4 q0 q1 q2 q3 q4 c0 c1 c2 c3 c4 cl d0 d1 d2 d3 d4 dl HB
  generalize ((((((((((W7.setCell ⟨w.heap.size + 1 + 1, 0, none⟩ (.bool f')).setCell ⟨w.heap.size + 1 + 1, 1, none⟩ (.bool t')).setCell ⟨w.heap.size + 1 + 1, 2, none⟩ (.bool i')).setCell ⟨w.heap.size + 1 + 1, 3, none⟩ (.bool o')).setCell ⟨w.heap.size + 1 + 1, 4, none⟩ (.bool true)).setCell ⟨w.heap.size + 1 + 1 + 1, 0, none⟩ (.bool t')).setCell ⟨w.heap.size + 1 + 1 + 1, 1, none⟩ (.bool f')).setCell ⟨w.heap.size + 1 + 1 + 1, 2, none⟩ (.bool o')).setCell ⟨w.heap.size + 1 + 1 + 1, 3, none⟩ (.bool i')).setCell ⟨w.heap.size + 1 + 1 + 1, 4, none⟩ (.bool b')) = WF at e0 e1 e2 e3 e4 e5 e6 e7 e8 e9 eB ⊢
  go_wp2_with fail
  refine bodyPost_ret (v := .tuple #[.agg #[.bool f', .bool t', .bool i', .bool o', .bool true], .agg #[.bool t', .bool f', .bool o', .bool i', .bool b'], .int .i64 7]) (by simp [results, Try.results18, go_sem, e0, e1, e2, e3, e4, e5, e6, e7, e8, e9]) rfl ⟨rfl, ?_⟩
  exact Below.drew eB.out

set_option maxRecDepth 100000 in
set_option maxHeartbeats 8000000 in
theorem ref5_1 (t' f' o' i' b' : Bool) (w : World) (hf : fitsB f' t' i' o' false t' f' o' i' b' = true) :
    Calls Try.prog 18 #[.agg #[.bool f', .bool t', .bool i', .bool o', .bool false], .agg #[.bool t', .bool f', .bool o', .bool i', .bool b'], .int .i64 5] w fun e w' => e = .returned (.tuple #[.agg #[.bool f', .bool t', .bool i', .bool o', .bool true], .agg #[.bool t', .bool f', .bool o', .bool i', .bool b'], .int .i64 0]) ∧ Below w.heap.size w w' := by
  have H4 := Lib.hid (ab_four f' t' i' o' false t' f' o' i' b' w)
  go_enter Try.func18, Try.ntmps18
  go_wp2_with fail
  refine (refMay_any _ _ _ _ _ _ _ _ _ _ _).mono ?_
  rintro e w1 ⟨rfl, hb⟩
  have H5 := Lib.hid (H4.out.kept hb (by simp) (Nat.le_refl _))
  clear hb H4
  obtain ⟨a0, a1, a2, a3, a4, b0, b1, b2, b3, b4, z0, z1, z2, z3, z4, y0, y1, y2, y3, y4, p0, p1, p2, p3, p4, q0, q1, q2, q3, q4, bel, sz⟩ := H5.out
  clear bel
  have sz0 : w.heap.size < w1.heap.size := by omega
  have sz1 : w.heap.size + 1 < w1.heap.size := by omega
  have sz2 : w.heap.size + 2 < w1.heap.size := by omega
  rw [hf]
  clear hf
  go_wp2_with fail
  have H7 := Lib.hid ((H5.out.kept (Below.alloc (Below.refl _ _) (Nat.le_refl _) (.cells #[.bool f', .bool t', .bool i', .bool o', .bool true] 23)) sz (Nat.le_refl _)).kept (Below.alloc (Below.refl _ _) (Nat.le_refl _) (.cells #[.bool t', .bool f', .bool o', .bool i', .bool b'] 23)) (by simp; omega) (Nat.le_refl _))
  have HN := Lib.hid (two_new f' t' i' o' true t' f' o' i' b' w1)
  have szz := sz2
  clear a0 a1 a2 a3 a4 b0 b1 b2 b3 b4 z0 z1 z2 z3 z4 y0 y1 y2 y3 y4 p0 p1 p2 p3 p4 q0 q1 q2 q3 q4 sz0 sz1 sz2 sz H5
  generalize ((w1.alloc (.cells #[.bool f', .bool t', .bool i', .bool o', .bool true] 23)).alloc (.cells #[.bool t', .bool f', .bool o', .bool i', .bool b'] 23)) = W7 at H7 HN ⊢
  obtain ⟨a0, a1, a2, a3, a4, b0, b1, b2, b3, b4, z0, z1, z2, z3, z4, y0, y1, y2, y3, y4, p0, p1, p2, p3, p4, q0, q1, q2, q3, q4, bel, sz⟩ := H7.out
  obtain ⟨⟨c0, c1, c2, c3, c4, cl⟩, ⟨d0, d1, d2, d3, d4, dl⟩⟩ := HN.out
  have HB := Lib.hid bel
  clear bel
  have n1 : w1.heap.size + 1 ≠ w.heap.size + 1 + 1 := by omega
  have n2 : w.heap.size + 1 + 1 ≠ w1.heap.size + 1 := by omega
  have n3 : w1.heap.size ≠ w.heap.size + 1 + 1 := by omega
  have n4 : w.heap.size + 1 + 1 ≠ w1.heap.size := by omega
  clear HN szz
  generalize w1.heap.size + 1 = Q at d0 d1 d2 d3 d4 dl n1 n2 ⊢
  generalize w1.heap.size = P at c0 c1 c2 c3 c4 cl n3 n4 ⊢
  go_region
  obtain ⟨e0, e1, e2, e3, e4, e5, e6, e7, e8, e9⟩ := res_stored (W := W7) (b6 := w.heap.size + 1 + 1) (b7 := w.heap.size + 1 + 1 + 1) (by omega) (.bool f') (.bool t') (.bool i') (.bool o') (.bool true) (.bool t') (.bool f') (.bool o') (.bool i') (.bool b') z0 z1 z2 z3 z4 y0 y1 y2 y3 y4
  have eB := Lib.hid (res_below (b6 := w.heap.size + 1 + 1) (b7 := w.heap.size + 1 + 1 + 1) HB.out (by omega) (by omega) (.bool f') (.bool t') (.bool i') (.bool o') (.bool true) (.bool t') (.bool f') (.bool o') (.bool i') (.bool b'))
  clear a0 a1 a2 a3 a4 b0 b1 b2 b3 b4 z0 z1 z2 z3 z4 y0 y1 y2 y3 y4 p0 p1 p2 p3 p4 q0 q1 q2 q3 q4 c0 c1 c2 c3 c4 cl d0 d1 d2 d3 d4 dl HB
  generalize ((((((((((W7.setCell ⟨w.heap.size + 1 + 1, 0, none⟩ (.bool f')).setCell ⟨w.heap.size + 1 + 1, 1, none⟩ (.bool t')).setCell ⟨w.heap.size + 1 + 1, 2, none⟩ (.bool i')).setCell ⟨w.heap.size + 1 + 1, 3, none⟩ (.bool o')).setCell ⟨w.heap.size + 1 + 1, 4, none⟩ (.bool true)).setCell ⟨w.heap.size + 1 + 1 + 1, 0, none⟩ (.bool t')).setCell ⟨w.heap.size + 1 + 1 + 1, 1, none⟩ (.bool f')).setCell ⟨w.heap.size + 1 + 1 + 1, 2, none⟩ (.bool o')).setCell ⟨w.heap.size + 1 + 1 + 1, 3, none⟩ (.bool i')).setCell ⟨w.heap.size + 1 + 1 + 1, 4, none⟩ (.bool b')) = WF at e0 e1 e2 e3 e4 e5 e6 e7 e8 e9 eB ⊢
  go_wp2_with fail
  refine bodyPost_ret (v := .tuple #[.agg #[.bool f', .bool t', .bool i', .bool o', .bool true], .agg #[.bool t', .bool f', .bool o', .bool i', .bool b'], .int .i64 0]) (by simp [results, Try.results18, go_sem, e0, e1, e2, e3, e4, e5, e6, e7, e8, e9]) rfl ⟨rfl, ?_⟩
  exact Below.drew eB.out

set_option maxHeartbeats 1000000 in
theorem ref5 (t f o i b t' f' o' i' b' : Bool) (w : World) (hf : fitsB t f o i b t' f' o' i' b' = true) :
    Calls Try.prog 18 #[.agg #[.bool t, .bool f, .bool o, .bool i, .bool b], .agg #[.bool t', .bool f', .bool o', .bool i', .bool b'], .int .i64 5] w fun e w' => ∃ (x y : It) (c : Int), act ⟨t, f, o, i, b⟩ ⟨t', f', o', i', b'⟩ 5 = (x, y, c) ∧ e = .returned (.tuple #[.agg #[.bool x.t, .bool x.f, .bool x.o, .bool x.i, .bool x.b], .agg #[.bool y.t, .bool y.f, .bool y.o, .bool y.i, .bool y.b], .int .i64 c]) ∧ Below w.heap.size w w' := by
  have HF := hf
  obtain ⟨rfl, rfl, rfl, rfl⟩ := fits_parts hf
  clear HF
  cases b with
  | true =>
    exact (ref5_0 t' f' o' i' b' w hf).mono fun e w' h => ⟨⟨f', t', i', o', true⟩, ⟨t', f', o', i', b'⟩, 7, by simp [act, fitsI, hf, doIt], h.1, h.2⟩
  | false =>
    exact (ref5_1 t' f' o' i' b' w hf).mono fun e w' h => ⟨⟨f', t', i', o', true⟩, ⟨t', f', o', i', b'⟩, 0, by simp [act, fitsI, hf, doIt], h.1, h.2⟩

set_option maxRecDepth 100000 in
set_option maxHeartbeats 8000000 in
theorem ref6_0 (t' f' o' i' b' : Bool) (w : World) (hf : fitsB f' t' i' o' false t' f' o' i' b' = true) :
    Calls Try.prog 18 #[.agg #[.bool f', .bool t', .bool i', .bool o', .bool false], .agg #[.bool t', .bool f', .bool o', .bool i', .bool b'], .int .i64 6] w fun e w' => e = .returned (.tuple #[.agg #[.bool f', .bool t', .bool i', .bool o', .bool false], .agg #[.bool t', .bool f', .bool o', .bool i', .bool b'], .int .i64 7]) ∧ Below w.heap.size w w' := by
  have H4 := Lib.hid (ab_four f' t' i' o' false t' f' o' i' b' w)
  go_enter Try.func18, Try.ntmps18
  go_wp2_with fail
  refine (refMay_any _ _ _ _ _ _ _ _ _ _ _).mono ?_
  rintro e w1 ⟨rfl, hb⟩
  have H5 := Lib.hid (H4.out.kept hb (by simp) (Nat.le_refl _))
  clear hb H4
  obtain ⟨a0, a1, a2, a3, a4, b0, b1, b2, b3, b4, z0, z1, z2, z3, z4, y0, y1, y2, y3, y4, p0, p1, p2, p3, p4, q0, q1, q2, q3, q4, bel, sz⟩ := H5.out
  clear bel
  have sz0 : w.heap.size < w1.heap.size := by omega
  have sz1 : w.heap.size + 1 < w1.heap.size := by omega
  have sz2 : w.heap.size + 2 < w1.heap.size := by omega
  rw [hf]
  clear hf
  go_wp2_with fail
  have H7 := Lib.hid ((H5.out.kept (Below.alloc (Below.refl _ _) (Nat.le_refl _) (.cells #[.bool f', .bool t', .bool i', .bool o', .bool false] 23)) sz (Nat.le_refl _)).kept (Below.alloc (Below.refl _ _) (Nat.le_refl _) (.cells #[.bool t', .bool f', .bool o', .bool i', .bool b'] 23)) (by simp; omega) (Nat.le_refl _))
  have HN := Lib.hid (two_new f' t' i' o' false t' f' o' i' b' w1)
  have szz := sz2
  clear a0 a1 a2 a3 a4 b0 b1 b2 b3 b4 z0 z1 z2 z3 z4 y0 y1 y2 y3 y4 p0 p1 p2 p3 p4 q0 q1 q2 q3 q4 sz0 sz1 sz2 sz H5
  generalize ((w1.alloc (.cells #[.bool f', .bool t', .bool i', .bool o', .bool false] 23)).alloc (.cells #[.bool t', .bool f', .bool o', .bool i', .bool b'] 23)) = W7 at H7 HN ⊢
  obtain ⟨a0, a1, a2, a3, a4, b0, b1, b2, b3, b4, z0, z1, z2, z3, z4, y0, y1, y2, y3, y4, p0, p1, p2, p3, p4, q0, q1, q2, q3, q4, bel, sz⟩ := H7.out
  obtain ⟨⟨c0, c1, c2, c3, c4, cl⟩, ⟨d0, d1, d2, d3, d4, dl⟩⟩ := HN.out
  have HB := Lib.hid bel
  clear bel
  have n1 : w1.heap.size + 1 ≠ w.heap.size + 1 + 1 := by omega
  have n2 : w.heap.size + 1 + 1 ≠ w1.heap.size + 1 := by omega
  have n3 : w1.heap.size ≠ w.heap.size + 1 + 1 := by omega
  have n4 : w.heap.size + 1 + 1 ≠ w1.heap.size := by omega
  clear HN szz
  generalize w1.heap.size + 1 = Q at d0 d1 d2 d3 d4 dl n1 n2 ⊢
  generalize w1.heap.size = P at c0 c1 c2 c3 c4 cl n3 n4 ⊢
  go_region
  obtain ⟨e0, e1, e2, e3, e4, e5, e6, e7, e8, e9⟩ := res_stored (W := W7) (b6 := w.heap.size + 1 + 1) (b7 := w.heap.size + 1 + 1 + 1) (by omega) (.bool f') (.bool t') (.bool i') (.bool o') (.bool false) (.bool t') (.bool f') (.bool o') (.bool i') (.bool b') z0 z1 z2 z3 z4 y0 y1 y2 y3 y4
  have eB := Lib.hid (res_below (b6 := w.heap.size + 1 + 1) (b7 := w.heap.size + 1 + 1 + 1) HB.out (by omega) (by omega) (.bool f') (.bool t') (.bool i') (.bool o') (.bool false) (.bool t') (.bool f') (.bool o') (.bool i') (.bool b'))
  clear a0 a1 a2 a3 a4 b0 b1 b2 b3 b4 z0 z1 z2 z3 z4 y0 y1 y2 y3 y4 p0 p1 p2 p3 p4 q0 q1 q2 q3 q4 c0 c1 c2 c3 c4 cl d0 d1 d2 d3 d4 dl HB
  generalize ((((((((((W7.setCell ⟨w.heap.size + 1 + 1, 0, none⟩ (.bool f')).setCell ⟨w.heap.size + 1 + 1, 1, none⟩ (.bool t')).setCell ⟨w.heap.size + 1 + 1, 2, none⟩ (.bool i')).setCell ⟨w.heap.size + 1 + 1, 3, none⟩ (.bool o')).setCell ⟨w.heap.size + 1 + 1, 4, none⟩ (.bool false)).setCell ⟨w.heap.size + 1 + 1 + 1, 0, none⟩ (.bool t')).setCell ⟨w.heap.size + 1 + 1 + 1, 1, none⟩ (.bool f')).setCell ⟨w.heap.size + 1 + 1 + 1, 2, none⟩ (.bool o')).setCell ⟨w.heap.size + 1 + 1 + 1, 3, none⟩ (.bool i')).setCell ⟨w.heap.size + 1 + 1 + 1, 4, none⟩ (.bool b')) = WF at e0 e1 e2 e3 e4 e5 e6 e7 e8 e9 eB ⊢
  go_wp2_with fail
  refine bodyPost_ret (v := .tuple #[.agg #[.bool f', .bool t', .bool i', .bool o', .bool false], .agg #[.bool t', .bool f', .bool o', .bool i', .bool b'], .int .i64 7]) (by simp [results, Try.results18, go_sem, e0, e1, e2, e3, e4, e5, e6, e7, e8, e9]) rfl ⟨rfl, ?_⟩
  exact Below.drew eB.out

set_option maxRecDepth 100000 in
set_option maxHeartbeats 8000000 in
theorem ref6_1 (t' f' o' i' b' : Bool) (w : World) (hf : fitsB f' t' i' o' true t' f' o' i' b' = true) :
    Calls Try.prog 18 #[.agg #[.bool f', .bool t', .bool i', .bool o', .bool true], .agg #[.bool t', .bool f', .bool o', .bool i', .bool b'], .int .i64 6] w fun e w' => e = .returned (.tuple #[.agg #[.bool f', .bool t', .bool i', .bool o', .bool false], .agg #[.bool t', .bool f', .bool o', .bool i', .bool b'], .int .i64 0]) ∧ Below w.heap.size w w' := by
  have H4 := Lib.hid (ab_four f' t' i' o' true t' f' o' i' b' w)
  go_enter Try.func18, Try.ntmps18
  go_wp2_with fail
  refine (refMay_any _ _ _ _ _ _ _ _ _ _ _).mono ?_
  rintro e w1 ⟨rfl, hb⟩
  have H5 := Lib.hid (H4.out.kept hb (by simp) (Nat.le_refl _))
  clear hb H4
  obtain ⟨a0, a1, a2, a3, a4, b0, b1, b2, b3, b4, z0, z1, z2, z3, z4, y0, y1, y2, y3, y4, p0, p1, p2, p3, p4, q0, q1, q2, q3, q4, bel, sz⟩ := H5.out
  clear bel
  have sz0 : w.heap.size < w1.heap.size := by omega
  have sz1 : w.heap.size + 1 < w1.heap.size := by omega
  have sz2 : w.heap.size + 2 < w1.heap.size := by omega
  rw [hf]
  clear hf
  go_wp2_with fail
  have H7 := Lib.hid ((H5.out.kept (Below.alloc (Below.refl _ _) (Nat.le_refl _) (.cells #[.bool f', .bool t', .bool i', .bool o', .bool false] 23)) sz (Nat.le_refl _)).kept (Below.alloc (Below.refl _ _) (Nat.le_refl _) (.cells #[.bool t', .bool f', .bool o', .bool i', .bool b'] 23)) (by simp; omega) (Nat.le_refl _))
  have HN := Lib.hid (two_new f' t' i' o' false t' f' o' i' b' w1)
  have szz := sz2
  clear a0 a1 a2 a3 a4 b0 b1 b2 b3 b4 z0 z1 z2 z3 z4 y0 y1 y2 y3 y4 p0 p1 p2 p3 p4 q0 q1 q2 q3 q4 sz0 sz1 sz2 sz H5
  generalize ((w1.alloc (.cells #[.bool f', .bool t', .bool i', .bool o', .bool false] 23)).alloc (.cells #[.bool t', .bool f', .bool o', .bool i', .bool b'] 23)) = W7 at H7 HN ⊢
  obtain ⟨a0, a1, a2, a3, a4, b0, b1, b2, b3, b4, z0, z1, z2, z3, z4, y0, y1, y2, y3, y4, p0, p1, p2, p3, p4, q0, q1, q2, q3, q4, bel, sz⟩ := H7.out
  obtain ⟨⟨c0, c1, c2, c3, c4, cl⟩, ⟨d0, d1, d2, d3, d4, dl⟩⟩ := HN.out
  have HB := Lib.hid bel
  clear bel
  have n1 : w1.heap.size + 1 ≠ w.heap.size + 1 + 1 := by omega
  have n2 : w.heap.size + 1 + 1 ≠ w1.heap.size + 1 := by omega
  have n3 : w1.heap.size ≠ w.heap.size + 1 + 1 := by omega
  have n4 : w.heap.size + 1 + 1 ≠ w1.heap.size := by omega
  clear HN szz
  generalize w1.heap.size + 1 = Q at d0 d1 d2 d3 d4 dl n1 n2 ⊢
  generalize w1.heap.size = P at c0 c1 c2 c3 c4 cl n3 n4 ⊢
  go_region
  obtain ⟨e0, e1, e2, e3, e4, e5, e6, e7, e8, e9⟩ := res_stored (W := W7) (b6 := w.heap.size + 1 + 1) (b7 := w.heap.size + 1 + 1 + 1) (by omega) (.bool f') (.bool t') (.bool i') (.bool o') (.bool false) (.bool t') (.bool f') (.bool o') (.bool i') (.bool b') z0 z1 z2 z3 z4 y0 y1 y2 y3 y4
  have eB := Lib.hid (res_below (b6 := w.heap.size + 1 + 1) (b7 := w.heap.size + 1 + 1 + 1) HB.out (by omega) (by omega) (.bool f') (.bool t') (.bool i') (.bool o') (.bool false) (.bool t') (.bool f') (.bool o') (.bool i') (.bool b'))
  clear a0 a1 a2 a3 a4 b0 b1 b2 b3 b4 z0 z1 z2 z3 z4 y0 y1 y2 y3 y4 p0 p1 p2 p3 p4 q0 q1 q2 q3 q4 c0 c1 c2 c3 c4 cl d0 d1 d2 d3 d4 dl HB
  generalize ((((((((((W7.setCell ⟨w.heap.size + 1 + 1, 0, none⟩ (.bool f')).setCell ⟨w.heap.size + 1 + 1, 1, none⟩ (.bool t')).setCell ⟨w.heap.size + 1 + 1, 2, none⟩ (.bool i')).setCell ⟨w.heap.size + 1 + 1, 3, none⟩ (.bool o')).setCell ⟨w.heap.size + 1 + 1, 4, none⟩ (.bool false)).setCell ⟨w.heap.size + 1 + 1 + 1, 0, none⟩ (.bool t')).setCell ⟨w.heap.size + 1 + 1 + 1, 1, none⟩ (.bool f')).setCell ⟨w.heap.size + 1 + 1 + 1, 2, none⟩ (.bool o')).setCell ⟨w.heap.size + 1 + 1 + 1, 3, none⟩ (.bool i')).setCell ⟨w.heap.size + 1 + 1 + 1, 4, none⟩ (.bool b')) = WF at e0 e1 e2 e3 e4 e5 e6 e7 e8 e9 eB ⊢
  go_wp2_with fail
  refine bodyPost_ret (v := .tuple #[.agg #[.bool f', .bool t', .bool i', .bool o', .bool false], .agg #[.bool t', .bool f', .bool o', .bool i', .bool b'], .int .i64 0]) (by simp [results, Try.results18, go_sem, e0, e1, e2, e3, e4, e5, e6, e7, e8, e9]) rfl ⟨rfl, ?_⟩
  exact Below.drew eB.out

set_option maxHeartbeats 1000000 in
theorem ref6 (t f o i b t' f' o' i' b' : Bool) (w : World) (hf : fitsB t f o i b t' f' o' i' b' = true) :
    Calls Try.prog 18 #[.agg #[.bool t, .bool f, .bool o, .bool i, .bool b], .agg #[.bool t', .bool f', .bool o', .bool i', .bool b'], .int .i64 6] w fun e w' => ∃ (x y : It) (c : Int), act ⟨t, f, o, i, b⟩ ⟨t', f', o', i', b'⟩ 6 = (x, y, c) ∧ e = .returned (.tuple #[.agg #[.bool x.t, .bool x.f, .bool x.o, .bool x.i, .bool x.b], .agg #[.bool y.t, .bool y.f, .bool y.o, .bool y.i, .bool y.b], .int .i64 c]) ∧ Below w.heap.size w w' := by
  have HF := hf
  obtain ⟨rfl, rfl, rfl, rfl⟩ := fits_parts hf
  clear HF
  cases b with
  | true =>
    exact (ref6_1 t' f' o' i' b' w hf).mono fun e w' h => ⟨⟨f', t', i', o', false⟩, ⟨t', f', o', i', b'⟩, 0, by simp [act, fitsI, hf, doIt], h.1, h.2⟩
  | false =>
    exact (ref6_0 t' f' o' i' b' w hf).mono fun e w' h => ⟨⟨f', t', i', o', false⟩, ⟨t', f', o', i', b'⟩, 7, by simp [act, fitsI, hf, doIt], h.1, h.2⟩

theorem refAct_any (k : Int) (t f o i b t' f' o' i' b' : Bool) (w : World) :
    Calls Try.prog 18 #[.agg #[.bool t, .bool f, .bool o, .bool i, .bool b], .agg #[.bool t', .bool f', .bool o', .bool i', .bool b'], .int .i64 k] w fun e w' => ∃ (x y : It) (c : Int), act ⟨t, f, o, i, b⟩ ⟨t', f', o', i', b'⟩ k = (x, y, c) ∧ e = .returned (.tuple #[.agg #[.bool x.t, .bool x.f, .bool x.o, .bool x.i, .bool x.b], .agg #[.bool y.t, .bool y.f, .bool y.o, .bool y.i, .bool y.b], .int .i64 c]) ∧ Below w.heap.size w w' := by
  by_cases h : fitsB t f o i b t' f' o' i' b' = false ∨ k < 1 ∨ 6 < k
  · exact ref_no k t f o i b t' f' o' i' b' w h
  · have hf : fitsB t f o i b t' f' o' i' b' = true := by
      cases hh : fitsB t f o i b t' f' o' i' b' with
      | false => exact absurd (.inl hh) h
      | true => rfl
    rcases (show k = 1 ∨ k = 2 ∨ k = 3 ∨ k = 4 ∨ k = 5 ∨ k = 6 by omega) with rfl | rfl | rfl | rfl | rfl | rfl
    · exact ref1 _ _ _ _ _ _ _ _ _ _ w hf
    · exact ref2 _ _ _ _ _ _ _ _ _ _ w hf
    · exact ref3 _ _ _ _ _ _ _ _ _ _ w hf
    · exact ref4 _ _ _ _ _ _ _ _ _ _ w hf
    · exact ref5 _ _ _ _ _ _ _ _ _ _ w hf
    · exact ref6 _ _ _ _ _ _ _ _ _ _ w hf

end Go.Proofs.Ytjelnndiahkoeaa
