/-
  A slice of moves that came in, opened: its length, and its elements' cells.
-/
import Derived.Test.YtjelnndiahkoeaaSidesW
import Derived.ProofKit
import Derived.OpenShut
import Derived.Deep.SlicePairs
namespace Go.Proofs.Ytjelnndiahkoeaa
open Go.ChangeShapes Go.WideShapes Go.ChangeAt Go.RowKit

/-- What is known of a slice of moves that came in. -/
def IsMoves (w : World) (a : Option Addr) (len : Nat) (O : Nat → Bool) (K : Nat → Int) : Prop :=
  len = 0 ∨ ∃ b off, a = some ⟨b, off, none⟩ ∧ ∀ i, i < len → w.cell? ⟨b, off + i * 2, none⟩ = some (.bool (O i)) ∧ w.cell? ⟨b, off + i * 2 + 1, none⟩ = some (.int .i64 (K i)) ∧ IntKind.i64.min ≤ K i ∧ K i ≤ IntKind.i64.max

theorem open_moves {H : Type} {enc : TypeId × Value → H} {P : Program} {W : World} {r : Reach} {b : Nat} {t e : TypeId} {f0 f1 : Field} {v : Value} {d : DataW H} {p : List MemPlace} (hT : P.underlying t = some (.slice e)) (hE : P.underlying e = some (.struct #[f0, f1]))
    (hc : P.cellsOf e = 2) (o0 : f0.offset = 0) (o1 : f1.offset = 1) (c0 : P.cellsOf f0.type = 1) (c1 : P.cellsOf f1.type = 1) (t0 : P.underlying f0.type = some .bool) (t1 : P.underlying f1.type = some (.int .i64))
    (hv : Value.okWide P W r b t v) (h : DataW.Trod enc P W 0 (fun _ => true) true t v d p) :
    ∃ a len cap O K, v = .slice a len cap ∧ len ≤ 9223372036854775807 ∧ IsMoves W a len O K := by
  obtain ⟨a, len, cap, rfl⟩ := okWide_slice hT hv
  refine ⟨a, len, cap, ?_⟩
  obtain ⟨fuel, hf⟩ := h
  rcases Go.Deep.open_slice_pairs hT hE hc o0 o1 c0 c1 hf with ⟨hcs, _⟩ | ⟨x, l, c, m, n, V0, V1, D0, D1, P0, P1, hcs, _, hl, hm, hmm, _, hcell⟩
  · simp [Value.cells] at hcs
    obtain ⟨rfl, rfl, rfl⟩ := hcs
    exact ⟨fun _ => false, fun _ => 0, rfl, by omega, .inl rfl⟩
  · simp [Value.cells] at hcs
    obtain ⟨rfl, rfl, rfl⟩ := hcs
    unfold maxLen at hm
    simp at hmm
    subst hmm
    refine ⟨fun i => (match V0 i with | .bool x => x | _ => false), fun i => (match V1 i with | .int _ x => x | _ => 0), rfl, by omega, ?_⟩
    by_cases h0 : len = 0
    · exact .inl h0
    · right
      obtain ⟨bb, off, spot⟩ := x
      have hc0 := (hcell 0 (by omega)).1
      have hspot : spot = none := by simpa [Addr.add] using World.cell?_spot hc0
      subst hspot
      refine ⟨bb, off, rfl, fun i hi => ?_⟩
      obtain ⟨h1, h2, h3, h4⟩ := hcell i (by omega)
      have hadd : ∀ j, (⟨bb, off, none⟩ : Addr).add j = ⟨bb, off + j, none⟩ := fun j => by unfold Addr.add; split <;> simp_all
      rw [hadd] at h1 h2
      obtain ⟨x, hx, _⟩ := DataW.trod_bool t0 h3
      obtain ⟨y, hy, _, hw⟩ := DataW.trod_int t1 h4
      simp at hx hy
      rw [hx] at h1
      rw [hy] at h2
      obtain ⟨hw1, hw2⟩ := bounds_i64 hw
      simp only [hx, hy]
      refine ⟨h1, by simpa [Nat.add_assoc] using h2, ?_, ?_⟩
      · exact hw1
      · exact hw2

theorem moves_some {w : World} {a : Option Addr} {len : Nat} {O : Nat → Bool} {K : Nat → Int} (h : IsMoves w a len O K) (hl : 0 < len) : ∃ b off, a = some ⟨b, off, none⟩ ∧ ∀ i, i < len → w.cell? ⟨b, off + i * 2, none⟩ = some (.bool (O i)) ∧ w.cell? ⟨b, off + i * 2 + 1, none⟩ = some (.int .i64 (K i)) ∧ IntKind.i64.min ≤ K i ∧ K i ≤ IntKind.i64.max := by
  rcases h with h | h
  · omega
  · exact h



/-- A block of two bools, nothing of it frozen. -/
structure Q2 (W : World) (B : Nat) (p q : Bool) : Prop where
  c0 : W.cell? ⟨B, 0, none⟩ = some (.bool p)
  c1 : W.cell? ⟨B, 1, none⟩ = some (.bool q)
  fr : ∀ k, W.frozen? ⟨B, k, none⟩ = false
  lt : B < W.heap.size

theorem Q2.kept {w w' : World} {B : Nat} {p q : Bool} (h : Q2 w B p q) (hb : Below w.heap.size w w') : Q2 w' B p q := by
  obtain ⟨c0, c1, fr, lt⟩ := h
  have k : ∀ j, w'.cell? ⟨B, j, none⟩ = w.cell? ⟨B, j, none⟩ := fun j => hb.cell (by show B < _; omega)
  have hz := hb.size
  exact ⟨by rw [k]; exact c0, by rw [k]; exact c1, fun j => by rw [hb.frozen (by show B < _; omega)]; exact fr j, by omega⟩

theorem Q2.far {w : World} {B : Nat} {p q : Bool} (h : Q2 w B p q) {a : Addr} (hne : B ≠ a.block) (v : Value) : Q2 (w.setCell a v) B p q :=
  ⟨cell_set_far hne h.c0, cell_set_far hne h.c1, fun j => frozen_set (h.fr j), by have := h.lt; simpa using this⟩

theorem Q2.set0 {w : World} {B : Nat} {p q : Bool} (h : Q2 w B p q) (v : Bool) : Q2 (w.setCell ⟨B, 0, none⟩ (.bool v)) B v q :=
  ⟨cell_set_same h.c0, cell_set_off (by decide) h.c1, fun j => frozen_set (h.fr j), by have := h.lt; simpa using this⟩

theorem Q2.set1 {w : World} {B : Nat} {p q : Bool} (h : Q2 w B p q) (v : Bool) : Q2 (w.setCell ⟨B, 1, none⟩ (.bool v)) B p v :=
  ⟨cell_set_off (by decide) h.c0, cell_set_same h.c1, fun j => frozen_set (h.fr j), by have := h.lt; simpa using this⟩

theorem P10.far {w : World} {B : Nat} {x y : It} (h : P10 w B x y) {a : Addr} (hne : B ≠ a.block) (v : Value) : P10 (w.setCell a v) B x y :=
  ⟨cell_set_far hne h.c0, cell_set_far hne h.c1, cell_set_far hne h.c2, cell_set_far hne h.c3, cell_set_far hne h.c4, cell_set_far hne h.c5, cell_set_far hne h.c6, cell_set_far hne h.c7, cell_set_far hne h.c8, cell_set_far hne h.c9, fun j => frozen_set (h.fr j), by have := h.lt; simpa using this⟩

theorem P10.fillA {w : World} {B : Nat} {x y : It} (h : P10 w B x y) (z : It) : P10 (((((w.setCell ⟨B, 0, none⟩ (.bool z.t)).setCell ⟨B, 1, none⟩ (.bool z.f)).setCell ⟨B, 2, none⟩ (.bool z.o)).setCell ⟨B, 3, none⟩ (.bool z.i)).setCell ⟨B, 4, none⟩ (.bool z.b)) B z y :=
  ⟨cell_set_off (by decide) (cell_set_off (by decide) (cell_set_off (by decide) (cell_set_off (by decide) (cell_set_same (h.c0))))), cell_set_off (by decide) (cell_set_off (by decide) (cell_set_off (by decide) (cell_set_same (cell_set_off (by decide) (h.c1))))), cell_set_off (by decide) (cell_set_off (by decide) (cell_set_same (cell_set_off (by decide) (cell_set_off (by decide) (h.c2))))), cell_set_off (by decide) (cell_set_same (cell_set_off (by decide) (cell_set_off (by decide) (cell_set_off (by decide) (h.c3))))), cell_set_same (cell_set_off (by decide) (cell_set_off (by decide) (cell_set_off (by decide) (cell_set_off (by decide) (h.c4))))), cell_set_off (by decide) (cell_set_off (by decide) (cell_set_off (by decide) (cell_set_off (by decide) (cell_set_off (by decide) (h.c5))))), cell_set_off (by decide) (cell_set_off (by decide) (cell_set_off (by decide) (cell_set_off (by decide) (cell_set_off (by decide) (h.c6))))), cell_set_off (by decide) (cell_set_off (by decide) (cell_set_off (by decide) (cell_set_off (by decide) (cell_set_off (by decide) (h.c7))))), cell_set_off (by decide) (cell_set_off (by decide) (cell_set_off (by decide) (cell_set_off (by decide) (cell_set_off (by decide) (h.c8))))), cell_set_off (by decide) (cell_set_off (by decide) (cell_set_off (by decide) (cell_set_off (by decide) (cell_set_off (by decide) (h.c9))))), fun j => frozen_set (frozen_set (frozen_set (frozen_set (frozen_set (h.fr j))))), by have := h.lt; simpa using this⟩

theorem P10.fillB {w : World} {B : Nat} {x y : It} (h : P10 w B x y) (z : It) : P10 (((((w.setCell ⟨B, 5, none⟩ (.bool z.t)).setCell ⟨B, 6, none⟩ (.bool z.f)).setCell ⟨B, 7, none⟩ (.bool z.o)).setCell ⟨B, 8, none⟩ (.bool z.i)).setCell ⟨B, 9, none⟩ (.bool z.b)) B x z :=
  ⟨cell_set_off (by decide) (cell_set_off (by decide) (cell_set_off (by decide) (cell_set_off (by decide) (cell_set_off (by decide) (h.c0))))), cell_set_off (by decide) (cell_set_off (by decide) (cell_set_off (by decide) (cell_set_off (by decide) (cell_set_off (by decide) (h.c1))))), cell_set_off (by decide) (cell_set_off (by decide) (cell_set_off (by decide) (cell_set_off (by decide) (cell_set_off (by decide) (h.c2))))), cell_set_off (by decide) (cell_set_off (by decide) (cell_set_off (by decide) (cell_set_off (by decide) (cell_set_off (by decide) (h.c3))))), cell_set_off (by decide) (cell_set_off (by decide) (cell_set_off (by decide) (cell_set_off (by decide) (cell_set_off (by decide) (h.c4))))), cell_set_off (by decide) (cell_set_off (by decide) (cell_set_off (by decide) (cell_set_off (by decide) (cell_set_same (h.c5))))), cell_set_off (by decide) (cell_set_off (by decide) (cell_set_off (by decide) (cell_set_same (cell_set_off (by decide) (h.c6))))), cell_set_off (by decide) (cell_set_off (by decide) (cell_set_same (cell_set_off (by decide) (cell_set_off (by decide) (h.c7))))), cell_set_off (by decide) (cell_set_same (cell_set_off (by decide) (cell_set_off (by decide) (cell_set_off (by decide) (h.c8))))), cell_set_same (cell_set_off (by decide) (cell_set_off (by decide) (cell_set_off (by decide) (cell_set_off (by decide) (h.c9))))), fun j => frozen_set (frozen_set (frozen_set (frozen_set (frozen_set (h.fr j))))), by have := h.lt; simpa using this⟩


/-- The memory of the law: the two items, who asked, who sees, who blocks. -/
structure MM (x y : It) (a0 a1 s0 s1 k0 k1 : Bool) (w W : World) : Prop where
  it : P10 W w.heap.size x y
  a : Q2 W (w.heap.size + 1) a0 a1
  s : Q2 W (w.heap.size + 1 + 1) s0 s1
  k : Q2 W (w.heap.size + 1 + 1 + 1) k0 k1
  bel : Below w.heap.size w W

theorem MM.kept {x y : It} {a0 a1 s0 s1 k0 k1 : Bool} {w W W' : World} (h : MM x y a0 a1 s0 s1 k0 k1 w W) (hb : Below W.heap.size W W') : MM x y a0 a1 s0 s1 k0 k1 w W' :=
  ⟨h.it.kept hb, h.a.kept hb, h.s.kept hb, h.k.kept hb, h.bel.trans (hb.mono h.bel.size)⟩

theorem P10.fresh (w : World) : P10 (w.alloc (.cells #[.bool false, .bool false, .bool false, .bool false, .bool false, .bool false, .bool false, .bool false, .bool false, .bool false] 33)) w.heap.size ⟨false, false, false, false, false⟩ ⟨false, false, false, false, false⟩ := by
  constructor
  case lt => simp
  case fr => intro j; exact nf _ rfl _ _ _
  all_goals exact nb _ rfl _ _ _ _ rfl

theorem Q2.fresh (w : World) {B : Nat} (hB : w.heap.size = B) : Q2 (w.alloc (.cells #[.bool false, .bool false] 34)) B false false := by
  subst hB
  constructor
  case lt => simp
  case fr => intro j; exact nf _ rfl _ _ _
  all_goals exact nb _ rfl _ _ _ _ rfl

theorem Q2.laid {w : World} {B : Nat} {p q : Bool} (h : Q2 w B p q) (O : Obj) : Q2 (w.alloc O) B p q := h.kept (Below.alloc (Below.refl _ _) (Nat.le_refl _) O)
theorem P10.laid {w : World} {B : Nat} {x y : It} (h : P10 w B x y) (O : Obj) : P10 (w.alloc O) B x y := h.kept (Below.alloc (Below.refl _ _) (Nat.le_refl _) O)

theorem MM.start (w : World) : MM ⟨false, false, false, false, false⟩ ⟨false, false, false, false, false⟩ false false false false false false w
    ((((w.alloc (.cells #[.bool false, .bool false, .bool false, .bool false, .bool false, .bool false, .bool false, .bool false, .bool false, .bool false] 33)).alloc (.cells #[.bool false, .bool false] 34)).alloc (.cells #[.bool false, .bool false] 34)).alloc (.cells #[.bool false, .bool false] 34)) := by
  refine ⟨(((P10.fresh w).laid _).laid _).laid _, ((Q2.fresh _ (by simp)).laid _).laid _, (Q2.fresh _ (by simp)).laid _, Q2.fresh _ (by simp), ?_⟩
  exact ((((Below.refl _ _).alloc (Nat.le_refl _) _).alloc (by simp) _).alloc (by simp; omega) _).alloc (by simp; omega) _

theorem MM.a0 {x y : It} {a0 a1 s0 s1 k0 k1 : Bool} {w W : World} (h : MM x y a0 a1 s0 s1 k0 k1 w W) (v : Bool) : MM x y v a1 s0 s1 k0 k1 w (W.setCell ⟨w.heap.size + 1, 0, none⟩ (.bool v)) := by
  refine ⟨h.it.far ?_ _, h.a.set0 v, h.s.far ?_ _, h.k.far ?_ _, Below.setCell h.bel (p := ⟨w.heap.size + 1, 0, none⟩) (by simp; try omega) _⟩
  all_goals (simp; try omega)

theorem MM.a1 {x y : It} {a0 a1 s0 s1 k0 k1 : Bool} {w W : World} (h : MM x y a0 a1 s0 s1 k0 k1 w W) (v : Bool) : MM x y a0 v s0 s1 k0 k1 w (W.setCell ⟨w.heap.size + 1, 1, none⟩ (.bool v)) := by
  refine ⟨h.it.far ?_ _, h.a.set1 v, h.s.far ?_ _, h.k.far ?_ _, Below.setCell h.bel (p := ⟨w.heap.size + 1, 1, none⟩) (by simp; try omega) _⟩
  all_goals (simp; try omega)

theorem MM.s0 {x y : It} {a0 a1 s0 s1 k0 k1 : Bool} {w W : World} (h : MM x y a0 a1 s0 s1 k0 k1 w W) (v : Bool) : MM x y a0 a1 v s1 k0 k1 w (W.setCell ⟨w.heap.size + 1 + 1, 0, none⟩ (.bool v)) := by
  refine ⟨h.it.far ?_ _, h.a.far ?_ _, h.s.set0 v, h.k.far ?_ _, Below.setCell h.bel (p := ⟨w.heap.size + 1 + 1, 0, none⟩) (by simp; try omega) _⟩
  all_goals (simp; try omega)

theorem MM.s1 {x y : It} {a0 a1 s0 s1 k0 k1 : Bool} {w W : World} (h : MM x y a0 a1 s0 s1 k0 k1 w W) (v : Bool) : MM x y a0 a1 s0 v k0 k1 w (W.setCell ⟨w.heap.size + 1 + 1, 1, none⟩ (.bool v)) := by
  refine ⟨h.it.far ?_ _, h.a.far ?_ _, h.s.set1 v, h.k.far ?_ _, Below.setCell h.bel (p := ⟨w.heap.size + 1 + 1, 1, none⟩) (by simp; try omega) _⟩
  all_goals (simp; try omega)

theorem MM.k0 {x y : It} {a0 a1 s0 s1 k0 k1 : Bool} {w W : World} (h : MM x y a0 a1 s0 s1 k0 k1 w W) (v : Bool) : MM x y a0 a1 s0 s1 v k1 w (W.setCell ⟨w.heap.size + 1 + 1 + 1, 0, none⟩ (.bool v)) := by
  refine ⟨h.it.far ?_ _, h.a.far ?_ _, h.s.far ?_ _, h.k.set0 v, Below.setCell h.bel (p := ⟨w.heap.size + 1 + 1 + 1, 0, none⟩) (by simp; try omega) _⟩
  all_goals (simp; try omega)

theorem MM.k1 {x y : It} {a0 a1 s0 s1 k0 k1 : Bool} {w W : World} (h : MM x y a0 a1 s0 s1 k0 k1 w W) (v : Bool) : MM x y a0 a1 s0 s1 k0 v w (W.setCell ⟨w.heap.size + 1 + 1 + 1, 1, none⟩ (.bool v)) := by
  refine ⟨h.it.far ?_ _, h.a.far ?_ _, h.s.far ?_ _, h.k.set1 v, Below.setCell h.bel (p := ⟨w.heap.size + 1 + 1 + 1, 1, none⟩) (by simp; try omega) _⟩
  all_goals (simp; try omega)

theorem MM.fillA {x y : It} {a0 a1 s0 s1 k0 k1 : Bool} {w W : World} (h : MM x y a0 a1 s0 s1 k0 k1 w W) (z : It) : MM z y a0 a1 s0 s1 k0 k1 w (((((W.setCell ⟨w.heap.size, 0, none⟩ (.bool z.t)).setCell ⟨w.heap.size, 1, none⟩ (.bool z.f)).setCell ⟨w.heap.size, 2, none⟩ (.bool z.o)).setCell ⟨w.heap.size, 3, none⟩ (.bool z.i)).setCell ⟨w.heap.size, 4, none⟩ (.bool z.b)) := by
  refine ⟨h.it.fillA z, (((((h.a.far ?_ _).far ?_ _).far ?_ _).far ?_ _).far ?_ _), (((((h.s.far ?_ _).far ?_ _).far ?_ _).far ?_ _).far ?_ _), (((((h.k.far ?_ _).far ?_ _).far ?_ _).far ?_ _).far ?_ _), (Below.setCell (Below.setCell (Below.setCell (Below.setCell (Below.setCell h.bel (p := ⟨w.heap.size, 0, none⟩) (Nat.le_refl _) _) (p := ⟨w.heap.size, 1, none⟩) (Nat.le_refl _) _) (p := ⟨w.heap.size, 2, none⟩) (Nat.le_refl _) _) (p := ⟨w.heap.size, 3, none⟩) (Nat.le_refl _) _) (p := ⟨w.heap.size, 4, none⟩) (Nat.le_refl _) _)⟩
  all_goals (show _ ≠ w.heap.size; omega)

theorem MM.fillB {x y : It} {a0 a1 s0 s1 k0 k1 : Bool} {w W : World} (h : MM x y a0 a1 s0 s1 k0 k1 w W) (z : It) : MM x z a0 a1 s0 s1 k0 k1 w (((((W.setCell ⟨w.heap.size, 5, none⟩ (.bool z.t)).setCell ⟨w.heap.size, 6, none⟩ (.bool z.f)).setCell ⟨w.heap.size, 7, none⟩ (.bool z.o)).setCell ⟨w.heap.size, 8, none⟩ (.bool z.i)).setCell ⟨w.heap.size, 9, none⟩ (.bool z.b)) := by
  refine ⟨h.it.fillB z, (((((h.a.far ?_ _).far ?_ _).far ?_ _).far ?_ _).far ?_ _), (((((h.s.far ?_ _).far ?_ _).far ?_ _).far ?_ _).far ?_ _), (((((h.k.far ?_ _).far ?_ _).far ?_ _).far ?_ _).far ?_ _), (Below.setCell (Below.setCell (Below.setCell (Below.setCell (Below.setCell h.bel (p := ⟨w.heap.size, 5, none⟩) (Nat.le_refl _) _) (p := ⟨w.heap.size, 6, none⟩) (Nat.le_refl _) _) (p := ⟨w.heap.size, 7, none⟩) (Nat.le_refl _) _) (p := ⟨w.heap.size, 8, none⟩) (Nat.le_refl _) _) (p := ⟨w.heap.size, 9, none⟩) (Nat.le_refl _) _)⟩
  all_goals (show _ ≠ w.heap.size; omega)

end Go.Proofs.Ytjelnndiahkoeaa
