/-
  The methods of a pair: what each does to its two items.
-/
import Derived.Test.YtjelnndiahkoeaaSmall

namespace Go.Proofs.Ytjelnndiahkoeaa
open Go.RowKit

/-- An item. -/
structure It where
  t : Bool
  f : Bool
  o : Bool
  i : Bool
  b : Bool
  deriving DecidableEq

theorem frozen_set {w : World} {a b : Addr} {v : Value} (h : w.frozen? b = false) : (w.setCell a v).frozen? b = false := by rw [← h]; simp

theorem cell_set_far {w : World} {a b : Addr} {v u : Value} (hne : b.block ≠ a.block) (h : w.cell? b = some u) : (w.setCell a v).cell? b = some u := by
  rw [World.cell?_of_block (w := w) (Below.heap_setCell _ _ _ _ hne)]; exact h

theorem cell_set_same {w : World} {a : Addr} {v u : Value} (h : w.cell? a = some u) : (w.setCell a v).cell? a = some v := World.cell?_setCell_same _ _ _ h

theorem cell_set_off {w : World} {b i j : Nat} {v u : Value} (hne : i ≠ j) (h : w.cell? ⟨b, i, none⟩ = some u) : (w.setCell ⟨b, j, none⟩ v).cell? ⟨b, i, none⟩ = some u := by
  rw [World.cell?_setCell_other _ _ _ _ (by intro e; cases e; exact hne rfl)]; exact h

/-- A pair's block: two items, nothing of it frozen. -/
structure P10 (w : World) (B : Nat) (x y : It) : Prop where
  c0 : w.cell? ⟨B, 0, none⟩ = some (.bool x.t)
  c1 : w.cell? ⟨B, 1, none⟩ = some (.bool x.f)
  c2 : w.cell? ⟨B, 2, none⟩ = some (.bool x.o)
  c3 : w.cell? ⟨B, 3, none⟩ = some (.bool x.i)
  c4 : w.cell? ⟨B, 4, none⟩ = some (.bool x.b)
  c5 : w.cell? ⟨B, 5, none⟩ = some (.bool y.t)
  c6 : w.cell? ⟨B, 6, none⟩ = some (.bool y.f)
  c7 : w.cell? ⟨B, 7, none⟩ = some (.bool y.o)
  c8 : w.cell? ⟨B, 8, none⟩ = some (.bool y.i)
  c9 : w.cell? ⟨B, 9, none⟩ = some (.bool y.b)
  fr : ∀ k, w.frozen? ⟨B, k, none⟩ = false
  lt : B < w.heap.size

theorem P10.kept {w w' : World} {B : Nat} {x y : It} (h : P10 w B x y) (hb : Below w.heap.size w w') : P10 w' B x y := by
  obtain ⟨c0, c1, c2, c3, c4, c5, c6, c7, c8, c9, fr, lt⟩ := h
  have k : ∀ j, w'.cell? ⟨B, j, none⟩ = w.cell? ⟨B, j, none⟩ := fun j => hb.cell (by show B < _; omega)
  have hz := hb.size
  refine ⟨?_, ?_, ?_, ?_, ?_, ?_, ?_, ?_, ?_, ?_, fun j => ?_, by omega⟩
  all_goals first | (rw [k]; assumption) | (rw [hb.frozen (by show B < _; omega)]; exact fr j)


set_option maxHeartbeats 1000000 in
theorem in_any_raw {w : World} {B : Nat} {t0 t1 t2 t3 p q : Bool}
    (c0 : w.cell? ⟨B, 0, none⟩ = some (.bool t0)) (f0 : w.frozen? ⟨B, 0, none⟩ = false)
    (c2 : w.cell? ⟨B, 2, none⟩ = some (.bool t1)) (f2 : w.frozen? ⟨B, 2, none⟩ = false)
    (c6 : w.cell? ⟨B, 6, none⟩ = some (.bool t2)) (f6 : w.frozen? ⟨B, 6, none⟩ = false)
    (c8 : w.cell? ⟨B, 8, none⟩ = some (.bool t3)) (f8 : w.frozen? ⟨B, 8, none⟩ = false)
    : Calls Try.prog 27 #[.pointer (some ⟨B, 0, none⟩), .bool p, .bool q] w fun e w' => e = .returned (.tuple #[]) ∧ w' = ((((w.setCell ⟨B, 0, none⟩ (.bool p)).setCell ⟨B, 2, none⟩ (.bool q)).setCell ⟨B, 6, none⟩ (.bool p)).setCell ⟨B, 8, none⟩ (.bool q)) := by
  go_enter Try.func27, Try.ntmps27
  go_wp2_with fail
  go_end0
  exact ⟨rfl, rfl⟩

theorem in_any {w : World} {B : Nat} {x y : It} (h : P10 w B x y) (p q : Bool) :
    Calls Try.prog 27 #[.pointer (some ⟨B, 0, none⟩), .bool p, .bool q] w fun e w' => e = .returned (.tuple #[]) ∧ Below B w w' ∧ P10 w' B ⟨p, x.f, q, x.i, x.b⟩ ⟨y.t, p, y.o, q, y.b⟩ := by
  refine (in_any_raw h.c0 (h.fr 0) h.c2 (h.fr 2) h.c6 (h.fr 6) h.c8 (h.fr 8)).mono ?_
  rintro e w' ⟨rfl, rfl⟩
  refine ⟨rfl, ((((Below.refl B w).setCell (p := ⟨B, _, none⟩) (Nat.le_refl B) _).setCell (p := ⟨B, _, none⟩) (Nat.le_refl B) _).setCell (p := ⟨B, _, none⟩) (Nat.le_refl B) _).setCell (p := ⟨B, _, none⟩) (Nat.le_refl B) _, ?_⟩
  exact ⟨cell_set_off (by decide) (cell_set_off (by decide) (cell_set_off (by decide) (cell_set_same (h.c0)))), cell_set_off (by decide) (cell_set_off (by decide) (cell_set_off (by decide) (cell_set_off (by decide) (h.c1)))), cell_set_off (by decide) (cell_set_off (by decide) (cell_set_same (cell_set_off (by decide) (h.c2)))), cell_set_off (by decide) (cell_set_off (by decide) (cell_set_off (by decide) (cell_set_off (by decide) (h.c3)))), cell_set_off (by decide) (cell_set_off (by decide) (cell_set_off (by decide) (cell_set_off (by decide) (h.c4)))), cell_set_off (by decide) (cell_set_off (by decide) (cell_set_off (by decide) (cell_set_off (by decide) (h.c5)))), cell_set_off (by decide) (cell_set_same (cell_set_off (by decide) (cell_set_off (by decide) (h.c6)))), cell_set_off (by decide) (cell_set_off (by decide) (cell_set_off (by decide) (cell_set_off (by decide) (h.c7)))), cell_set_same (cell_set_off (by decide) (cell_set_off (by decide) (cell_set_off (by decide) (h.c8)))), cell_set_off (by decide) (cell_set_off (by decide) (cell_set_off (by decide) (cell_set_off (by decide) (h.c9)))), fun k => frozen_set (frozen_set (frozen_set (frozen_set (h.fr k)))), by simpa [World.setCell] using h.lt⟩

set_option maxHeartbeats 1000000 in
theorem from_any_raw {w : World} {B : Nat} {t0 t1 t2 t3 p q : Bool}
    (c1 : w.cell? ⟨B, 1, none⟩ = some (.bool t0)) (f1 : w.frozen? ⟨B, 1, none⟩ = false)
    (c3 : w.cell? ⟨B, 3, none⟩ = some (.bool t1)) (f3 : w.frozen? ⟨B, 3, none⟩ = false)
    (c5 : w.cell? ⟨B, 5, none⟩ = some (.bool t2)) (f5 : w.frozen? ⟨B, 5, none⟩ = false)
    (c7 : w.cell? ⟨B, 7, none⟩ = some (.bool t3)) (f7 : w.frozen? ⟨B, 7, none⟩ = false)
    : Calls Try.prog 28 #[.pointer (some ⟨B, 0, none⟩), .bool p, .bool q] w fun e w' => e = .returned (.tuple #[]) ∧ w' = ((((w.setCell ⟨B, 1, none⟩ (.bool p)).setCell ⟨B, 3, none⟩ (.bool q)).setCell ⟨B, 5, none⟩ (.bool p)).setCell ⟨B, 7, none⟩ (.bool q)) := by
  go_enter Try.func28, Try.ntmps28
  go_wp2_with fail
  go_end0
  exact ⟨rfl, rfl⟩

theorem from_any {w : World} {B : Nat} {x y : It} (h : P10 w B x y) (p q : Bool) :
    Calls Try.prog 28 #[.pointer (some ⟨B, 0, none⟩), .bool p, .bool q] w fun e w' => e = .returned (.tuple #[]) ∧ Below B w w' ∧ P10 w' B ⟨x.t, p, x.o, q, x.b⟩ ⟨p, y.f, q, y.i, y.b⟩ := by
  refine (from_any_raw h.c1 (h.fr 1) h.c3 (h.fr 3) h.c5 (h.fr 5) h.c7 (h.fr 7)).mono ?_
  rintro e w' ⟨rfl, rfl⟩
  refine ⟨rfl, ((((Below.refl B w).setCell (p := ⟨B, _, none⟩) (Nat.le_refl B) _).setCell (p := ⟨B, _, none⟩) (Nat.le_refl B) _).setCell (p := ⟨B, _, none⟩) (Nat.le_refl B) _).setCell (p := ⟨B, _, none⟩) (Nat.le_refl B) _, ?_⟩
  exact ⟨cell_set_off (by decide) (cell_set_off (by decide) (cell_set_off (by decide) (cell_set_off (by decide) (h.c0)))), cell_set_off (by decide) (cell_set_off (by decide) (cell_set_off (by decide) (cell_set_same (h.c1)))), cell_set_off (by decide) (cell_set_off (by decide) (cell_set_off (by decide) (cell_set_off (by decide) (h.c2)))), cell_set_off (by decide) (cell_set_off (by decide) (cell_set_same (cell_set_off (by decide) (h.c3)))), cell_set_off (by decide) (cell_set_off (by decide) (cell_set_off (by decide) (cell_set_off (by decide) (h.c4)))), cell_set_off (by decide) (cell_set_same (cell_set_off (by decide) (cell_set_off (by decide) (h.c5)))), cell_set_off (by decide) (cell_set_off (by decide) (cell_set_off (by decide) (cell_set_off (by decide) (h.c6)))), cell_set_same (cell_set_off (by decide) (cell_set_off (by decide) (cell_set_off (by decide) (h.c7)))), cell_set_off (by decide) (cell_set_off (by decide) (cell_set_off (by decide) (cell_set_off (by decide) (h.c8)))), cell_set_off (by decide) (cell_set_off (by decide) (cell_set_off (by decide) (cell_set_off (by decide) (h.c9)))), fun k => frozen_set (frozen_set (frozen_set (frozen_set (h.fr k)))), by simpa [World.setCell] using h.lt⟩

/-- What a method answers, and what it leaves. -/
def doIt (k : Int) (x y : It) : It × It × Int :=
  if k = 1 then (if x.b || y.b then (x, y, 8) else if x.t || x.o then (x, y, 7) else ({ x with t := false, o := true }, { y with f := false, i := true }, 0))
  else if k = 2 then (if x.b || y.b then (x, y, 8) else if !x.i then (x, y, 7) else ({ x with f := true, i := false }, { y with t := true, o := false }, 0))
  else if k = 3 then (if !x.t && !x.o then (x, y, 7) else ({ x with t := false, o := false }, { y with f := false, i := false }, 0))
  else if k = 4 then (if !x.f && !x.i then (x, y, 7) else ({ x with f := false, i := false }, { y with t := false, o := false }, 0))
  else if k = 5 then (if x.b then (x, y, 7) else ({ x with b := true }, y, 0))
  else (if !x.b then (x, y, 7) else ({ x with b := false }, y, 0))

set_option maxHeartbeats 1000000 in
theorem block_any_raw {w : World} {B : Nat} {b : Bool} (c4 : w.cell? ⟨B, 4, none⟩ = some (.bool b)) (_f4 : w.frozen? ⟨B, 4, none⟩ = false) (hb : b = true) :
    Calls Try.prog 25 #[.pointer (some ⟨B, 0, none⟩)] w fun e w' => e = .returned (.int .i64 7) ∧ w' = w := by
  subst hb
  go_enter Try.func25, Try.ntmps25
  go_wp2_with fail
  go_ret
  exact ⟨rfl, rfl⟩

set_option maxHeartbeats 1000000 in
theorem block_any_raw' {w : World} {B : Nat} {b : Bool} (c4 : w.cell? ⟨B, 4, none⟩ = some (.bool b)) (f4 : w.frozen? ⟨B, 4, none⟩ = false) (hb : b = false) :
    Calls Try.prog 25 #[.pointer (some ⟨B, 0, none⟩)] w fun e w' => e = .returned (.int .i64 0) ∧ w' = w.setCell ⟨B, 4, none⟩ (.bool true) := by
  subst hb
  go_enter Try.func25, Try.ntmps25
  go_wp2_with fail
  go_ret
  exact ⟨rfl, rfl⟩

theorem block_any {w : World} {B : Nat} {x y : It} (h : P10 w B x y) :
    Calls Try.prog 25 #[.pointer (some ⟨B, 0, none⟩)] w fun e w' => ∃ x' y' c, doIt 5 x y = (x', y', c) ∧ e = .returned (.int .i64 c) ∧ Below B w w' ∧ P10 w' B x' y' := by
  by_cases hb : x.b = true
  · refine (block_any_raw h.c4 (h.fr 4) hb).mono ?_
    rintro e w' ⟨rfl, rfl⟩
    exact ⟨_, _, _, by simp [doIt, hb], rfl, Below.refl _ _, h⟩
  · have hb' : x.b = false := by revert hb; cases x.b <;> simp
    refine (block_any_raw' h.c4 (h.fr 4) hb').mono ?_
    rintro e w' ⟨rfl, rfl⟩
    refine ⟨{ x with b := true }, y, 0, by simp [doIt, hb'], rfl, (Below.refl B w).setCell (p := ⟨B, 4, none⟩) (Nat.le_refl B) _, ?_⟩
    exact ⟨cell_set_off (by decide) h.c0, cell_set_off (by decide) h.c1, cell_set_off (by decide) h.c2, cell_set_off (by decide) h.c3, cell_set_same h.c4, cell_set_off (by decide) h.c5, cell_set_off (by decide) h.c6, cell_set_off (by decide) h.c7, cell_set_off (by decide) h.c8, cell_set_off (by decide) h.c9, fun k => frozen_set (h.fr k), by simpa [World.setCell] using h.lt⟩

set_option maxHeartbeats 1000000 in
theorem unblock_any_raw {w : World} {B : Nat} {b : Bool} (c4 : w.cell? ⟨B, 4, none⟩ = some (.bool b)) (_f4 : w.frozen? ⟨B, 4, none⟩ = false) (hb : b = false) :
    Calls Try.prog 26 #[.pointer (some ⟨B, 0, none⟩)] w fun e w' => e = .returned (.int .i64 7) ∧ w' = w := by
  subst hb
  go_enter Try.func26, Try.ntmps26
  go_wp2_with fail
  go_ret
  exact ⟨rfl, rfl⟩

set_option maxHeartbeats 1000000 in
theorem unblock_any_raw' {w : World} {B : Nat} {b : Bool} (c4 : w.cell? ⟨B, 4, none⟩ = some (.bool b)) (f4 : w.frozen? ⟨B, 4, none⟩ = false) (hb : b = true) :
    Calls Try.prog 26 #[.pointer (some ⟨B, 0, none⟩)] w fun e w' => e = .returned (.int .i64 0) ∧ w' = w.setCell ⟨B, 4, none⟩ (.bool false) := by
  subst hb
  go_enter Try.func26, Try.ntmps26
  go_wp2_with fail
  go_ret
  exact ⟨rfl, rfl⟩

theorem unblock_any {w : World} {B : Nat} {x y : It} (h : P10 w B x y) :
    Calls Try.prog 26 #[.pointer (some ⟨B, 0, none⟩)] w fun e w' => ∃ x' y' c, doIt 6 x y = (x', y', c) ∧ e = .returned (.int .i64 c) ∧ Below B w w' ∧ P10 w' B x' y' := by
  by_cases hb : x.b = false
  · refine (unblock_any_raw h.c4 (h.fr 4) hb).mono ?_
    rintro e w' ⟨rfl, rfl⟩
    exact ⟨_, _, _, by simp [doIt, hb], rfl, Below.refl _ _, h⟩
  · have hb' : x.b = true := by revert hb; cases x.b <;> simp
    refine (unblock_any_raw' h.c4 (h.fr 4) hb').mono ?_
    rintro e w' ⟨rfl, rfl⟩
    refine ⟨{ x with b := false }, y, 0, by simp [doIt, hb'], rfl, (Below.refl B w).setCell (p := ⟨B, 4, none⟩) (Nat.le_refl B) _, ?_⟩
    exact ⟨cell_set_off (by decide) h.c0, cell_set_off (by decide) h.c1, cell_set_off (by decide) h.c2, cell_set_off (by decide) h.c3, cell_set_same h.c4, cell_set_off (by decide) h.c5, cell_set_off (by decide) h.c6, cell_set_off (by decide) h.c7, cell_set_off (by decide) h.c8, cell_set_off (by decide) h.c9, fun k => frozen_set (h.fr k), by simpa [World.setCell] using h.lt⟩

set_option maxHeartbeats 1000000 in
theorem unsubscribe_any_raw {w : World} {B : Nat} (cA : w.cell? ⟨B, 0, none⟩ = some (.bool false)) (cB : w.cell? ⟨B, 2, none⟩ = some (.bool false)) :
    Calls Try.prog 23 #[.pointer (some ⟨B, 0, none⟩)] w fun e w' => e = .returned (.int .i64 7) ∧ w' = w := by
  go_enter Try.func23, Try.ntmps23
  go_wp2_with fail
  go_ret
  exact ⟨rfl, rfl⟩

set_option maxHeartbeats 1000000 in
theorem unsubscribe_any_go {w : World} {B : Nat} {p q : Bool} {x y : It} (h : Hid (P10 w B x y)) (cA : w.cell? ⟨B, 0, none⟩ = some (.bool p)) (cB : w.cell? ⟨B, 2, none⟩ = some (.bool q)) (hp : p = true ∨ q = true) :
    Calls Try.prog 23 #[.pointer (some ⟨B, 0, none⟩)] w fun e w' => e = .returned (.int .i64 0) ∧ Below B w w' ∧ P10 w' B ⟨false, x.f, false, x.i, x.b⟩ ⟨y.t, false, y.o, false, y.b⟩ := by
  rcases (show p = true ∨ (p = false ∧ q = true) by cases p <;> simp_all) with rfl | ⟨rfl, rfl⟩
  all_goals
    go_enter Try.func23, Try.ntmps23
    go_wp2_with fail
    refine (in_any h.out false false).mono ?_
    rintro e w1 ⟨rfl, hb, hp1⟩
    have hp2 := Lib.hid hp1
    clear hp1
    go_wp2_with fail
    go_ret
    exact ⟨rfl, hb, hp2.out⟩

theorem unsubscribe_any {w : World} {B : Nat} {x y : It} (h : P10 w B x y) :
    Calls Try.prog 23 #[.pointer (some ⟨B, 0, none⟩)] w fun e w' => ∃ x' y' c, doIt 3 x y = (x', y', c) ∧ e = .returned (.int .i64 c) ∧ Below B w w' ∧ P10 w' B x' y' := by
  by_cases hb : x.t = false ∧ x.o = false
  · refine (unsubscribe_any_raw (by rw [h.c0, hb.1]) (by rw [h.c2, hb.2])).mono ?_
    rintro e w' ⟨rfl, rfl⟩
    exact ⟨_, _, _, by simp [doIt, hb], rfl, Below.refl _ _, h⟩
  · have hb' : x.t = true ∨ x.o = true := by revert hb; cases x.t <;> cases x.o <;> simp
    refine (unsubscribe_any_go (Lib.hid h) h.c0 h.c2 hb').mono ?_
    rintro e w' ⟨rfl, h1, h2⟩
    exact ⟨_, _, _, by rcases hb' with hb' | hb' <;> simp [doIt, hb'], rfl, h1, h2⟩

set_option maxHeartbeats 1000000 in
theorem unsubscribed_any_raw {w : World} {B : Nat} (cA : w.cell? ⟨B, 1, none⟩ = some (.bool false)) (cB : w.cell? ⟨B, 3, none⟩ = some (.bool false)) :
    Calls Try.prog 24 #[.pointer (some ⟨B, 0, none⟩)] w fun e w' => e = .returned (.int .i64 7) ∧ w' = w := by
  go_enter Try.func24, Try.ntmps24
  go_wp2_with fail
  go_ret
  exact ⟨rfl, rfl⟩

set_option maxHeartbeats 1000000 in
theorem unsubscribed_any_go {w : World} {B : Nat} {p q : Bool} {x y : It} (h : Hid (P10 w B x y)) (cA : w.cell? ⟨B, 1, none⟩ = some (.bool p)) (cB : w.cell? ⟨B, 3, none⟩ = some (.bool q)) (hp : p = true ∨ q = true) :
    Calls Try.prog 24 #[.pointer (some ⟨B, 0, none⟩)] w fun e w' => e = .returned (.int .i64 0) ∧ Below B w w' ∧ P10 w' B ⟨x.t, false, x.o, false, x.b⟩ ⟨false, y.f, false, y.i, y.b⟩ := by
  rcases (show p = true ∨ (p = false ∧ q = true) by cases p <;> simp_all) with rfl | ⟨rfl, rfl⟩
  all_goals
    go_enter Try.func24, Try.ntmps24
    go_wp2_with fail
    refine (from_any h.out false false).mono ?_
    rintro e w1 ⟨rfl, hb, hp1⟩
    have hp2 := Lib.hid hp1
    clear hp1
    go_wp2_with fail
    go_ret
    exact ⟨rfl, hb, hp2.out⟩

theorem unsubscribed_any {w : World} {B : Nat} {x y : It} (h : P10 w B x y) :
    Calls Try.prog 24 #[.pointer (some ⟨B, 0, none⟩)] w fun e w' => ∃ x' y' c, doIt 4 x y = (x', y', c) ∧ e = .returned (.int .i64 c) ∧ Below B w w' ∧ P10 w' B x' y' := by
  by_cases hb : x.f = false ∧ x.i = false
  · refine (unsubscribed_any_raw (by rw [h.c1, hb.1]) (by rw [h.c3, hb.2])).mono ?_
    rintro e w' ⟨rfl, rfl⟩
    exact ⟨_, _, _, by simp [doIt, hb], rfl, Below.refl _ _, h⟩
  · have hb' : x.f = true ∨ x.i = true := by revert hb; cases x.f <;> cases x.i <;> simp
    refine (unsubscribed_any_go (Lib.hid h) h.c1 h.c3 hb').mono ?_
    rintro e w' ⟨rfl, h1, h2⟩
    exact ⟨_, _, _, by rcases hb' with hb' | hb' <;> simp [doIt, hb'], rfl, h1, h2⟩

set_option maxHeartbeats 2000000 in
theorem subscribe_any_raw {w : World} {B : Nat} {t f o i b t' f' o' i' b' : Bool} (h : Hid (P10 w B ⟨t, f, o, i, b⟩ ⟨t', f', o', i', b'⟩)) :
    Calls Try.prog 21 #[.pointer (some ⟨B, 0, none⟩)] w fun e w' => ∃ x' y' c, doIt 1 ⟨t, f, o, i, b⟩ ⟨t', f', o', i', b'⟩ = (x', y', c) ∧ e = .returned (.int .i64 c) ∧ Below B w w' ∧ P10 w' B x' y' := by
  obtain ⟨c0, c1, c2, c3, c4, c5, c6, c7, c8, c9, fr, lt⟩ := h.out
  clear fr
  simp only at c0 c1 c2 c3 c4 c5 c6 c7 c8 c9
  by_cases hb : (b || b') = true
  · go_enter Try.func21, Try.ntmps21
    go_wp2_with fail
    refine (blocked_any _ _ _ _ _ _ _ _ _ _ _).mono ?_
    rintro e w1 ⟨rfl, hb1⟩
    have hz := Lib.hid hb1
    clear hb1
    rw [hb]
    go_wp2_with fail
    go_ret
    exact ⟨_, _, _, by simp [doIt, hb], rfl, hz.out.mono (by omega), h.out.kept hz.out⟩
  · have hb' : (b || b') = false := by revert hb; cases b <;> cases b' <;> simp
    clear hb
    by_cases hf : t = true ∨ o = true
    · go_enter Try.func21, Try.ntmps21
      go_wp2_with fail
      refine (blocked_any _ _ _ _ _ _ _ _ _ _ _).mono ?_
      rintro e w1 ⟨rfl, hb1⟩
      have hz := Lib.hid hb1
      clear hb1
      rw [hb']
      obtain ⟨c0, c1, c2, c3, c4, c5, c6, c7, c8, c9, fr, lt⟩ := h.out.kept hz.out
      simp only at c0 c1 c2 c3 c4 c5 c6 c7 c8 c9
      clear fr
      rcases (show t = true ∨ (t = false ∧ o = true) by cases t <;> simp_all) with rfl | ⟨rfl, rfl⟩
      all_goals first | contradiction | skip
      all_goals
        go_wp2_with fail
        go_ret
        exact ⟨_, _, _, by simp [doIt, hb'], rfl, hz.out.mono (by omega), h.out.kept hz.out⟩
    · obtain ⟨rfl, rfl⟩ : t = false ∧ o = false := by revert hf; cases t <;> cases o <;> simp
      go_enter Try.func21, Try.ntmps21
      go_wp2_with fail
      refine (blocked_any _ _ _ _ _ _ _ _ _ _ _).mono ?_
      rintro e w1 ⟨rfl, hb1⟩
      have hz := Lib.hid hb1
      clear hb1
      rw [hb']
      obtain ⟨c0, c1, c2, c3, c4, c5, c6, c7, c8, c9, fr, lt⟩ := h.out.kept hz.out
      simp only at c0 c1 c2 c3 c4 c5 c6 c7 c8 c9
      clear fr
      go_wp2_with fail
      refine (in_any (h.out.kept hz.out) false true).mono ?_
      rintro e w2 ⟨rfl, hb2, hp2⟩
      have hz2 := Lib.hid hb2
      have hz3 := Lib.hid hp2
      clear hb2 hp2
      go_wp2_with fail
      go_ret
      exact ⟨_, _, _, by simp [doIt, hb'], rfl, (hz.out.mono (by omega)).trans hz2.out, hz3.out⟩

theorem subscribe_any {w : World} {B : Nat} {x y : It} (h : P10 w B x y) :
    Calls Try.prog 21 #[.pointer (some ⟨B, 0, none⟩)] w fun e w' => ∃ x' y' c, doIt 1 x y = (x', y', c) ∧ e = .returned (.int .i64 c) ∧ Below B w w' ∧ P10 w' B x' y' := subscribe_any_raw h

set_option maxHeartbeats 2000000 in
theorem subscribed_any_raw {w : World} {B : Nat} {t f o i b t' f' o' i' b' : Bool} (h : Hid (P10 w B ⟨t, f, o, i, b⟩ ⟨t', f', o', i', b'⟩)) :
    Calls Try.prog 22 #[.pointer (some ⟨B, 0, none⟩)] w fun e w' => ∃ x' y' c, doIt 2 ⟨t, f, o, i, b⟩ ⟨t', f', o', i', b'⟩ = (x', y', c) ∧ e = .returned (.int .i64 c) ∧ Below B w w' ∧ P10 w' B x' y' := by
  obtain ⟨c0, c1, c2, c3, c4, c5, c6, c7, c8, c9, fr, lt⟩ := h.out
  clear fr
  simp only at c0 c1 c2 c3 c4 c5 c6 c7 c8 c9
  by_cases hb : (b || b') = true
  · go_enter Try.func22, Try.ntmps22
    go_wp2_with fail
    refine (blocked_any _ _ _ _ _ _ _ _ _ _ _).mono ?_
    rintro e w1 ⟨rfl, hb1⟩
    have hz := Lib.hid hb1
    clear hb1
    rw [hb]
    go_wp2_with fail
    go_ret
    exact ⟨_, _, _, by simp [doIt, hb], rfl, hz.out.mono (by omega), h.out.kept hz.out⟩
  · have hb' : (b || b') = false := by revert hb; cases b <;> cases b' <;> simp
    clear hb
    by_cases hf : i = false
    · go_enter Try.func22, Try.ntmps22
      go_wp2_with fail
      refine (blocked_any _ _ _ _ _ _ _ _ _ _ _).mono ?_
      rintro e w1 ⟨rfl, hb1⟩
      have hz := Lib.hid hb1
      clear hb1
      rw [hb']
      obtain ⟨c0, c1, c2, c3, c4, c5, c6, c7, c8, c9, fr, lt⟩ := h.out.kept hz.out
      simp only at c0 c1 c2 c3 c4 c5 c6 c7 c8 c9
      clear fr
      rcases (show i = false ∧ True from ⟨hf, trivial⟩) with ⟨rfl, -⟩
      all_goals first | contradiction | skip
      all_goals
        go_wp2_with fail
        go_ret
        exact ⟨_, _, _, by simp [doIt, hb'], rfl, hz.out.mono (by omega), h.out.kept hz.out⟩
    · obtain rfl : i = true := by revert hf; cases i <;> simp
      go_enter Try.func22, Try.ntmps22
      go_wp2_with fail
      refine (blocked_any _ _ _ _ _ _ _ _ _ _ _).mono ?_
      rintro e w1 ⟨rfl, hb1⟩
      have hz := Lib.hid hb1
      clear hb1
      rw [hb']
      obtain ⟨c0, c1, c2, c3, c4, c5, c6, c7, c8, c9, fr, lt⟩ := h.out.kept hz.out
      simp only at c0 c1 c2 c3 c4 c5 c6 c7 c8 c9
      clear fr
      go_wp2_with fail
      refine (from_any (h.out.kept hz.out) true false).mono ?_
      rintro e w2 ⟨rfl, hb2, hp2⟩
      have hz2 := Lib.hid hb2
      have hz3 := Lib.hid hp2
      clear hb2 hp2
      go_wp2_with fail
      go_ret
      exact ⟨_, _, _, by simp [doIt, hb'], rfl, (hz.out.mono (by omega)).trans hz2.out, hz3.out⟩

theorem subscribed_any {w : World} {B : Nat} {x y : It} (h : P10 w B x y) :
    Calls Try.prog 22 #[.pointer (some ⟨B, 0, none⟩)] w fun e w' => ∃ x' y' c, doIt 2 x y = (x', y', c) ∧ e = .returned (.int .i64 c) ∧ Below B w w' ∧ P10 w' B x' y' := subscribed_any_raw h

end Go.Proofs.Ytjelnndiahkoeaa
