/-
  What the small functions of pace and of its reference compute (within, May, fits, Time, One), for all numbers.
-/
import Derived.Test.YtlidfgpjhoddjaaRows
import Derived.Test.YtlidfgpjhoddjaaFl
import Derived.WalkKit
import Derived.WalkSpells
import Derived.WalkLawsBesides
import Derived.Lib.Hide

namespace Go.Proofs.Ytlidfgpjhoddjaa
open Go.RowKit

def inB (n lo hi : Int) : Bool := decide (lo ≤ n ∧ n ≤ hi)
def mayB (r u a p : Int) : Bool := inB r 1 16 && inB u 1 64 && inB a 1 16 && inB p 1 1000
def oneB (r u a p k t : Int) : Bool := mayB r u a p && inB k 0 u && inB t 0 1099511627776
def fitsB (r u a p k t n : Int) : Bool := oneB r u a p k t && inB n 0 1099511627776

theorem ret_bool {a b : Bool} (h : a = b) : Ending.returned (.bool a) = .returned (.bool b) := by rw [h]
theorem ret_val {a b : Value} (h : a = b) : Ending.returned a = .returned b := by rw [h]
theorem ret_int {k : IntKind} {a b : Int} (h : a = b) : Ending.returned (.int k a) = .returned (.int k b) := by rw [h]

set_option maxHeartbeats 400000 in
theorem within_any (n lo hi : Int) (w : World) :
    Calls Try.prog 21 #[.int .i64 n, .int .i64 lo, .int .i64 hi] w fun e w' => e = .returned (.bool (inB n lo hi)) ∧ w = w' := by
  go_enter Try.func21, Try.ntmps21
  go_wp2
  all_goals
    go_ret
    exact ⟨ret_bool (by simp [inB]; try omega), rfl⟩

set_option maxHeartbeats 400000 in
theorem may_any (r u a p : Int) (w : World) :
    Calls Try.prog 12 #[.agg #[.int .i64 r, .int .i64 u, .int .i64 a, .int .i64 p]] w fun e w' => e = .returned (.bool (mayB r u a p)) ∧ Below w.heap.size w w' := by
  go_enter Try.func12, Try.ntmps12
  go_wp2_with (go_at_call 21; refine (within_any _ _ _ _).mono ?_; rintro e w' ⟨rfl, rfl⟩)
  all_goals
    go_ret
    exact ⟨ret_bool (by simp [mayB, *]), Below.alloc (Below.refl _ _) (Nat.le_refl _) _⟩

set_option maxHeartbeats 400000 in
theorem refTime_any (n : Int) (w : World) :
    Calls Try.prog 20 #[.int .i64 n] w fun e w' => e = .returned (.bool (inB n 0 1099511627776)) ∧ w = w' := by
  go_enter Try.func20, Try.ntmps20
  go_wp2
  all_goals
    go_ret
    exact ⟨ret_bool (by simp [inB]; try omega), rfl⟩

set_option maxHeartbeats 400000 in
theorem refMay_any (r u a p : Int) (w : World) :
    Calls Try.prog 13 #[.agg #[.int .i64 r, .int .i64 u, .int .i64 a, .int .i64 p]] w fun e w' => e = .returned (.bool (mayB r u a p)) ∧ Below w.heap.size w w' := by
  go_enter Try.func13, Try.ntmps13
  go_wp2
  all_goals
    go_ret
    exact ⟨ret_bool (by first | (simp [mayB, inB, *]; done) | (simp [mayB, inB]; intros; omega)), Below.alloc (Below.refl _ _) (Nat.le_refl _) _⟩

/-- The two boxes of a config and a bucket, where nothing older than they is turned. -/
structure Boxes (r u a p k t : Int) (w w1 : World) : Prop where
  c0 : w1.cell? ⟨w.heap.size, 0, none⟩ = some (.int .i64 r)
  c1 : w1.cell? ⟨w.heap.size, 1, none⟩ = some (.int .i64 u)
  c2 : w1.cell? ⟨w.heap.size, 2, none⟩ = some (.int .i64 a)
  c3 : w1.cell? ⟨w.heap.size, 3, none⟩ = some (.int .i64 p)
  b0 : w1.cell? ⟨w.heap.size + 1, 0, none⟩ = some (.int .i64 k)
  b1 : w1.cell? ⟨w.heap.size + 1, 1, none⟩ = some (.int .i64 t)
  bel : Below w.heap.size w w1
  size : w.heap.size + 1 < w1.heap.size

theorem boxes_of {r u a p k t : Int} {w w1 : World} (h : Below (w.heap.size + 1 + 1) ((w.alloc (.cells #[.int .i64 r, .int .i64 u, .int .i64 a, .int .i64 p] 23)).alloc (.cells #[.int .i64 k, .int .i64 t] 25)) w1) : Boxes r u a p k t w w1 := by
  have hs := h.size
  simp at hs
  refine ⟨?_, ?_, ?_, ?_, ?_, ?_, (Below.alloc (Below.alloc (Below.refl _ _) (Nat.le_refl _) _) (by simp) _).trans (h.mono (by omega)), by omega⟩
  · rw [h.cell (by show w.heap.size < _; omega)]; simp
  · rw [h.cell (by show w.heap.size < _; omega)]; simp
  · rw [h.cell (by show w.heap.size < _; omega)]; simp
  · rw [h.cell (by show w.heap.size < _; omega)]; simp
  · rw [h.cell (by show w.heap.size + 1 < _; omega)]; simp
  · rw [h.cell (by show w.heap.size + 1 < _; omega)]; simp

theorem Boxes.kept {r u a p k t : Int} {w w1 w2 : World} (h : Boxes r u a p k t w w1) (hb : Below w1.heap.size w1 w2) : Boxes r u a p k t w w2 := by
  have hs := h.size
  have hz := hb.size
  refine ⟨?_, ?_, ?_, ?_, ?_, ?_, h.bel.trans (hb.mono h.bel.size), by omega⟩
  · rw [hb.cell (by show w.heap.size < _; omega)]; exact h.c0
  · rw [hb.cell (by show w.heap.size < _; omega)]; exact h.c1
  · rw [hb.cell (by show w.heap.size < _; omega)]; exact h.c2
  · rw [hb.cell (by show w.heap.size < _; omega)]; exact h.c3
  · rw [hb.cell (by show w.heap.size + 1 < _; omega)]; exact h.b0
  · rw [hb.cell (by show w.heap.size + 1 < _; omega)]; exact h.b1

set_option maxHeartbeats 400000 in
theorem fits_any (r u a p k t n : Int) (w : World) :
    Calls Try.prog 22 #[.agg #[.int .i64 r, .int .i64 u, .int .i64 a, .int .i64 p], .agg #[.int .i64 k, .int .i64 t], .int .i64 n] w fun e w' => e = .returned (.bool (fitsB r u a p k t n)) ∧ Below w.heap.size w w' := by
  go_enter Try.func22, Try.ntmps22
  go_wp2_with fail
  refine (may_any _ _ _ _ _).mono ?_
  rintro e w1 ⟨rfl, hb⟩
  obtain ⟨c0, c1, c2, c3, b0, b1, bel, _⟩ := boxes_of (by simpa using hb)
  have HB := Lib.hid bel
  clear bel hb
  go_wp2_with (go_at_call 21; refine (within_any _ _ _ _).mono ?_; rintro e w' ⟨rfl, rfl⟩)
  all_goals
    go_ret
    exact ⟨ret_bool (by simp [fitsB, oneB, *]), HB.out⟩

set_option maxHeartbeats 400000 in
theorem one_any (r u a p k t : Int) (w : World) :
    Calls Try.prog 19 #[.agg #[.int .i64 r, .int .i64 u, .int .i64 a, .int .i64 p], .agg #[.int .i64 k, .int .i64 t]] w fun e w' => e = .returned (.bool (oneB r u a p k t)) ∧ Below w.heap.size w w' := by
  go_enter Try.func19, Try.ntmps19
  go_wp2_with fail
  refine (refMay_any _ _ _ _ _).mono ?_
  rintro e w1 ⟨rfl, hb⟩
  obtain ⟨c0, c1, c2, c3, b0, b1, bel, _⟩ := boxes_of (by simpa using hb)
  have HB := Lib.hid bel
  clear bel hb
  go_wp2_with (go_at_call 20; refine (refTime_any _ _).mono ?_; rintro e w' ⟨rfl, rfl⟩)
  all_goals
    go_ret
    exact ⟨ret_bool (by first | (simp [oneB, inB, *]; done) | (simp [oneB, inB]; intros; omega)), HB.out⟩

/-- The state of pace.New: a full bucket, or nothing and ErrArg. -/
def newV (r u a p n : Int) : Value := if mayB r u a p && inB n 0 1099511627776 then .tuple #[.agg #[.int .i64 u, .int .i64 n], .int .i64 0] else .tuple #[.agg #[.int .i64 0, .int .i64 0], .int .i64 1]

set_option maxHeartbeats 400000 in
theorem new_any (r u a p n : Int) (w : World) :
    Calls Try.prog 8 #[.agg #[.int .i64 r, .int .i64 u, .int .i64 a, .int .i64 p], .int .i64 n] w fun e w' => e = .returned (newV r u a p n) ∧ Below w.heap.size w w' := by
  go_enter Try.func8, Try.ntmps8
  go_wp2_with fail
  refine (may_any _ _ _ _ _).mono ?_
  rintro e w1 ⟨rfl, hb⟩
  have hbox := boxes_of (by simpa using hb)
  obtain ⟨c0, c1, c2, c3, b0, b1, bel, hsz⟩ := hbox
  have f0 : w1.frozen? ⟨w.heap.size + 1, 0, none⟩ = false := by rw [hb.frozen (by simp)]; simp
  have f1 : w1.frozen? ⟨w.heap.size + 1, 1, none⟩ = false := by rw [hb.frozen (by simp)]; simp
  have HB := Lib.hid bel
  clear bel hb
  go_wp2_with (go_at_call 21; refine (within_any _ _ _ _).mono ?_; rintro e w' ⟨rfl, rfl⟩)
  · refine bodyPost_ret (v := .tuple #[.agg #[.int .i64 0, .int .i64 0], .int .i64 1]) (by simp [results, Try.results8, go_sem, b0, b1]) rfl ⟨ret_val (by simp_all [newV]), (HB.out.setCell (by simp) _).setCell (by simp) _⟩
  · refine bodyPost_ret (v := .tuple #[.agg #[.int .i64 u, .int .i64 n], .int .i64 0]) (by simp [results, Try.results8, go_sem, b0, b1]) rfl ⟨ret_val (by simp_all [newV]), (HB.out.setCell (by simp) _).setCell (by simp) _⟩
  · refine bodyPost_ret (v := .tuple #[.agg #[.int .i64 0, .int .i64 0], .int .i64 1]) (by simp [results, Try.results8, go_sem, b0, b1]) rfl ⟨ret_val (by simp_all [newV]), (HB.out.setCell (by simp) _).setCell (by simp) _⟩

end Go.Proofs.Ytlidfgpjhoddjaa
