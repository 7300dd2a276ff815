/-
  Act: what it answers, for all items and kinds.
-/
import Derived.Test.YtjelnndiahkoeaaMeth

namespace Go.Proofs.Ytjelnndiahkoeaa
open Go.RowKit Go.Maps

/-- What may be, of two items. -/
def fitsI (x y : It) : Bool := fitsB x.t x.f x.o x.i x.b y.t y.f y.o y.i y.b

/-- What Act answers. -/
def act (x y : It) (k : Int) : It × It × Int :=
  if (k < 1 ∨ 6 < k) ∨ fitsI x y = false then (x, y, 1) else if (doIt k x y).2.2 = 0 then doIt k x y else (x, y, (doIt k x y).2.2)

/-- Act's world: its two arguments' boxes, its two results' boxes. -/
structure AB (t f o i b t' f' o' i' b' : Bool) (w W : World) : Prop where
  a0 : W.cell? ⟨w.heap.size, 0, none⟩ = some (.bool t)
  a1 : W.cell? ⟨w.heap.size, 1, none⟩ = some (.bool f)
  a2 : W.cell? ⟨w.heap.size, 2, none⟩ = some (.bool o)
  a3 : W.cell? ⟨w.heap.size, 3, none⟩ = some (.bool i)
  a4 : W.cell? ⟨w.heap.size, 4, none⟩ = some (.bool b)
  b0 : W.cell? ⟨w.heap.size + 1, 0, none⟩ = some (.bool t')
  b1 : W.cell? ⟨w.heap.size + 1, 1, none⟩ = some (.bool f')
  b2 : W.cell? ⟨w.heap.size + 1, 2, none⟩ = some (.bool o')
  b3 : W.cell? ⟨w.heap.size + 1, 3, none⟩ = some (.bool i')
  b4 : W.cell? ⟨w.heap.size + 1, 4, none⟩ = some (.bool b')
  z0 : W.cell? ⟨w.heap.size + 2, 0, none⟩ = some (.bool false)
  z1 : W.cell? ⟨w.heap.size + 2, 1, none⟩ = some (.bool false)
  z2 : W.cell? ⟨w.heap.size + 2, 2, none⟩ = some (.bool false)
  z3 : W.cell? ⟨w.heap.size + 2, 3, none⟩ = some (.bool false)
  z4 : W.cell? ⟨w.heap.size + 2, 4, none⟩ = some (.bool false)
  y0 : W.cell? ⟨w.heap.size + 3, 0, none⟩ = some (.bool false)
  y1 : W.cell? ⟨w.heap.size + 3, 1, none⟩ = some (.bool false)
  y2 : W.cell? ⟨w.heap.size + 3, 2, none⟩ = some (.bool false)
  y3 : W.cell? ⟨w.heap.size + 3, 3, none⟩ = some (.bool false)
  y4 : W.cell? ⟨w.heap.size + 3, 4, none⟩ = some (.bool false)
  p0 : W.frozen? ⟨w.heap.size + 2, 0, none⟩ = false
  p1 : W.frozen? ⟨w.heap.size + 2, 1, none⟩ = false
  p2 : W.frozen? ⟨w.heap.size + 2, 2, none⟩ = false
  p3 : W.frozen? ⟨w.heap.size + 2, 3, none⟩ = false
  p4 : W.frozen? ⟨w.heap.size + 2, 4, none⟩ = false
  q0 : W.frozen? ⟨w.heap.size + 3, 0, none⟩ = false
  q1 : W.frozen? ⟨w.heap.size + 3, 1, none⟩ = false
  q2 : W.frozen? ⟨w.heap.size + 3, 2, none⟩ = false
  q3 : W.frozen? ⟨w.heap.size + 3, 3, none⟩ = false
  q4 : W.frozen? ⟨w.heap.size + 3, 4, none⟩ = false
  bel : Below w.heap.size w W
  sz : w.heap.size + 3 < W.heap.size

theorem AB.kept {t f o i b t' f' o' i' b' : Bool} {w W W' : World} {B : Nat} (h : AB t f o i b t' f' o' i' b' w W) (hb : Below B W W') (hB : w.heap.size + 3 < B) (hB2 : B ≤ W.heap.size) : AB t f o i b t' f' o' i' b' w W' := by
  have hz := hb.size
  exact ⟨(hb.cell (p := ⟨w.heap.size, 0, none⟩) (by show w.heap.size < B; omega)).trans h.a0, (hb.cell (p := ⟨w.heap.size, 1, none⟩) (by show w.heap.size < B; omega)).trans h.a1, (hb.cell (p := ⟨w.heap.size, 2, none⟩) (by show w.heap.size < B; omega)).trans h.a2, (hb.cell (p := ⟨w.heap.size, 3, none⟩) (by show w.heap.size < B; omega)).trans h.a3, (hb.cell (p := ⟨w.heap.size, 4, none⟩) (by show w.heap.size < B; omega)).trans h.a4, (hb.cell (p := ⟨w.heap.size + 1, 0, none⟩) (by show w.heap.size + 1 < B; omega)).trans h.b0, (hb.cell (p := ⟨w.heap.size + 1, 1, none⟩) (by show w.heap.size + 1 < B; omega)).trans h.b1, (hb.cell (p := ⟨w.heap.size + 1, 2, none⟩) (by show w.heap.size + 1 < B; omega)).trans h.b2, (hb.cell (p := ⟨w.heap.size + 1, 3, none⟩) (by show w.heap.size + 1 < B; omega)).trans h.b3, (hb.cell (p := ⟨w.heap.size + 1, 4, none⟩) (by show w.heap.size + 1 < B; omega)).trans h.b4, (hb.cell (p := ⟨w.heap.size + 2, 0, none⟩) (by show w.heap.size + 2 < B; omega)).trans h.z0, (hb.cell (p := ⟨w.heap.size + 2, 1, none⟩) (by show w.heap.size + 2 < B; omega)).trans h.z1, (hb.cell (p := ⟨w.heap.size + 2, 2, none⟩) (by show w.heap.size + 2 < B; omega)).trans h.z2, (hb.cell (p := ⟨w.heap.size + 2, 3, none⟩) (by show w.heap.size + 2 < B; omega)).trans h.z3, (hb.cell (p := ⟨w.heap.size + 2, 4, none⟩) (by show w.heap.size + 2 < B; omega)).trans h.z4, (hb.cell (p := ⟨w.heap.size + 3, 0, none⟩) (by show w.heap.size + 3 < B; omega)).trans h.y0, (hb.cell (p := ⟨w.heap.size + 3, 1, none⟩) (by show w.heap.size + 3 < B; omega)).trans h.y1, (hb.cell (p := ⟨w.heap.size + 3, 2, none⟩) (by show w.heap.size + 3 < B; omega)).trans h.y2, (hb.cell (p := ⟨w.heap.size + 3, 3, none⟩) (by show w.heap.size + 3 < B; omega)).trans h.y3, (hb.cell (p := ⟨w.heap.size + 3, 4, none⟩) (by show w.heap.size + 3 < B; omega)).trans h.y4, (hb.frozen (p := ⟨w.heap.size + 2, 0, none⟩) (by show w.heap.size + 2 < B; omega)).trans h.p0, (hb.frozen (p := ⟨w.heap.size + 2, 1, none⟩) (by show w.heap.size + 2 < B; omega)).trans h.p1, (hb.frozen (p := ⟨w.heap.size + 2, 2, none⟩) (by show w.heap.size + 2 < B; omega)).trans h.p2, (hb.frozen (p := ⟨w.heap.size + 2, 3, none⟩) (by show w.heap.size + 2 < B; omega)).trans h.p3, (hb.frozen (p := ⟨w.heap.size + 2, 4, none⟩) (by show w.heap.size + 2 < B; omega)).trans h.p4, (hb.frozen (p := ⟨w.heap.size + 3, 0, none⟩) (by show w.heap.size + 3 < B; omega)).trans h.q0, (hb.frozen (p := ⟨w.heap.size + 3, 1, none⟩) (by show w.heap.size + 3 < B; omega)).trans h.q1, (hb.frozen (p := ⟨w.heap.size + 3, 2, none⟩) (by show w.heap.size + 3 < B; omega)).trans h.q2, (hb.frozen (p := ⟨w.heap.size + 3, 3, none⟩) (by show w.heap.size + 3 < B; omega)).trans h.q3, (hb.frozen (p := ⟨w.heap.size + 3, 4, none⟩) (by show w.heap.size + 3 < B; omega)).trans h.q4, h.bel.trans (hb.mono (by omega)), by omega⟩

theorem nb (W : World) {n : Nat} (hn : W.heap.size = n) (C : Array Value) (T : TypeId) (j : Nat) (v : Value) (h : C[j]? = some v) : (W.alloc (.cells C T)).cell? ⟨n, j, none⟩ = some v := by
  subst hn
  simpa using h
theorem nf (W : World) {n : Nat} (hn : W.heap.size = n) (C : Array Value) (T : TypeId) (j : Nat) : (W.alloc (.cells C T)).frozen? ⟨n, j, none⟩ = false := by
  subst hn
  simp
theorem ak {W : World} (o : Obj) {a : Addr} {v : Value} (h : W.cell? a = some v) : (W.alloc o).cell? a = some v := by
  rw [(Below.alloc (Below.refl _ _) (Nat.le_refl _) o).cell (World.block_lt_of_cell? W a h)]; exact h
theorem af {W : World} (o : Obj) {a : Addr} (hlt : a.block < W.heap.size) (h : W.frozen? a = false) : (W.alloc o).frozen? a = false := by
  rw [(Below.alloc (Below.refl _ _) (Nat.le_refl _) o).frozen hlt]; exact h

theorem ab_start (t f o i b t' f' o' i' b' : Bool) (w : World) : AB t f o i b t' f' o' i' b' w (((((w.alloc (.cells #[.bool t, .bool f, .bool o, .bool i, .bool b] 23)).alloc (.cells #[.bool t', .bool f', .bool o', .bool i', .bool b'] 23)).alloc (.cells #[.bool false, .bool false, .bool false, .bool false, .bool false] 23)).alloc (.cells #[.bool false, .bool false, .bool false, .bool false, .bool false] 23)).alloc (.map #[] 0)) := by
  have s1 : (w.alloc (.cells #[.bool t, .bool f, .bool o, .bool i, .bool b] 23)).heap.size = w.heap.size + 1 := by simp
  have s2 : ((w.alloc (.cells #[.bool t, .bool f, .bool o, .bool i, .bool b] 23)).alloc (.cells #[.bool t', .bool f', .bool o', .bool i', .bool b'] 23)).heap.size = w.heap.size + 2 := by simp
  have s3 : (((w.alloc (.cells #[.bool t, .bool f, .bool o, .bool i, .bool b] 23)).alloc (.cells #[.bool t', .bool f', .bool o', .bool i', .bool b'] 23)).alloc (.cells #[.bool false, .bool false, .bool false, .bool false, .bool false] 23)).heap.size = w.heap.size + 3 := by simp
  have s4 : ((((w.alloc (.cells #[.bool t, .bool f, .bool o, .bool i, .bool b] 23)).alloc (.cells #[.bool t', .bool f', .bool o', .bool i', .bool b'] 23)).alloc (.cells #[.bool false, .bool false, .bool false, .bool false, .bool false] 23)).alloc (.cells #[.bool false, .bool false, .bool false, .bool false, .bool false] 23)).heap.size = w.heap.size + 4 := by simp
  constructor
  case bel => exact ((((Below.alloc (Below.refl _ _) (Nat.le_refl _) _).alloc (by simp) _).alloc (by simp; omega) _).alloc (by simp; omega) _).alloc (by simp; omega) _
  case sz => simp
  case a0 => exact ak _ (ak _ (ak _ (ak _ (nb _ rfl _ _ 0 _ rfl))))
  case b0 => exact ak _ (ak _ (ak _ (nb _ s1 _ _ 0 _ rfl)))
  case z0 => exact ak _ (ak _ (nb _ s2 _ _ 0 _ rfl))
  case y0 => exact ak _ (nb _ s3 _ _ 0 _ rfl)
  case p0 => exact af _ (by rw [s4]; show w.heap.size + 2 < _; omega) (af _ (by rw [s3]; show w.heap.size + 2 < _; omega) (nf _ s2 _ _ 0))
  case q0 => exact af _ (by rw [s4]; show w.heap.size + 3 < _; omega) (nf _ s3 _ _ 0)
  case a1 => exact ak _ (ak _ (ak _ (ak _ (nb _ rfl _ _ 1 _ rfl))))
  case b1 => exact ak _ (ak _ (ak _ (nb _ s1 _ _ 1 _ rfl)))
  case z1 => exact ak _ (ak _ (nb _ s2 _ _ 1 _ rfl))
  case y1 => exact ak _ (nb _ s3 _ _ 1 _ rfl)
  case p1 => exact af _ (by rw [s4]; show w.heap.size + 2 < _; omega) (af _ (by rw [s3]; show w.heap.size + 2 < _; omega) (nf _ s2 _ _ 1))
  case q1 => exact af _ (by rw [s4]; show w.heap.size + 3 < _; omega) (nf _ s3 _ _ 1)
  case a2 => exact ak _ (ak _ (ak _ (ak _ (nb _ rfl _ _ 2 _ rfl))))
  case b2 => exact ak _ (ak _ (ak _ (nb _ s1 _ _ 2 _ rfl)))
  case z2 => exact ak _ (ak _ (nb _ s2 _ _ 2 _ rfl))
  case y2 => exact ak _ (nb _ s3 _ _ 2 _ rfl)
  case p2 => exact af _ (by rw [s4]; show w.heap.size + 2 < _; omega) (af _ (by rw [s3]; show w.heap.size + 2 < _; omega) (nf _ s2 _ _ 2))
  case q2 => exact af _ (by rw [s4]; show w.heap.size + 3 < _; omega) (nf _ s3 _ _ 2)
  case a3 => exact ak _ (ak _ (ak _ (ak _ (nb _ rfl _ _ 3 _ rfl))))
  case b3 => exact ak _ (ak _ (ak _ (nb _ s1 _ _ 3 _ rfl)))
  case z3 => exact ak _ (ak _ (nb _ s2 _ _ 3 _ rfl))
  case y3 => exact ak _ (nb _ s3 _ _ 3 _ rfl)
  case p3 => exact af _ (by rw [s4]; show w.heap.size + 2 < _; omega) (af _ (by rw [s3]; show w.heap.size + 2 < _; omega) (nf _ s2 _ _ 3))
  case q3 => exact af _ (by rw [s4]; show w.heap.size + 3 < _; omega) (nf _ s3 _ _ 3)
  case a4 => exact ak _ (ak _ (ak _ (ak _ (nb _ rfl _ _ 4 _ rfl))))
  case b4 => exact ak _ (ak _ (ak _ (nb _ s1 _ _ 4 _ rfl)))
  case z4 => exact ak _ (ak _ (nb _ s2 _ _ 4 _ rfl))
  case y4 => exact ak _ (nb _ s3 _ _ 4 _ rfl)
  case p4 => exact af _ (by rw [s4]; show w.heap.size + 2 < _; omega) (af _ (by rw [s3]; show w.heap.size + 2 < _; omega) (nf _ s2 _ _ 4))
  case q4 => exact af _ (by rw [s4]; show w.heap.size + 3 < _; omega) (nf _ s3 _ _ 4)

theorem AB.grown {t f o i b t' f' o' i' b' : Bool} {w W W' : World} (h : AB t f o i b t' f' o' i' b' w W) (g : W.grownBy W' (some (w.heap.size + 4))) : AB t f o i b t' f' o' i' b' w W' := by
  have hs := h.sz
  have hz := g.size
  exact ⟨g.cell h.a0 (by simp), g.cell h.a1 (by simp), g.cell h.a2 (by simp), g.cell h.a3 (by simp), g.cell h.a4 (by simp), g.cell h.b0 (by simp), g.cell h.b1 (by simp), g.cell h.b2 (by simp), g.cell h.b3 (by simp), g.cell h.b4 (by simp), g.cell h.z0 (by simp), g.cell h.z1 (by simp), g.cell h.z2 (by simp), g.cell h.z3 (by simp), g.cell h.z4 (by simp), g.cell h.y0 (by simp), g.cell h.y1 (by simp), g.cell h.y2 (by simp), g.cell h.y3 (by simp), g.cell h.y4 (by simp), (World.frozen?_of_block (g.block (w.heap.size + 2) (by omega) (by simp))).trans h.p0, (World.frozen?_of_block (g.block (w.heap.size + 2) (by omega) (by simp))).trans h.p1, (World.frozen?_of_block (g.block (w.heap.size + 2) (by omega) (by simp))).trans h.p2, (World.frozen?_of_block (g.block (w.heap.size + 2) (by omega) (by simp))).trans h.p3, (World.frozen?_of_block (g.block (w.heap.size + 2) (by omega) (by simp))).trans h.p4, (World.frozen?_of_block (g.block (w.heap.size + 3) (by omega) (by simp))).trans h.q0, (World.frozen?_of_block (g.block (w.heap.size + 3) (by omega) (by simp))).trans h.q1, (World.frozen?_of_block (g.block (w.heap.size + 3) (by omega) (by simp))).trans h.q2, (World.frozen?_of_block (g.block (w.heap.size + 3) (by omega) (by simp))).trans h.q3, (World.frozen?_of_block (g.block (w.heap.size + 3) (by omega) (by simp))).trans h.q4, h.bel.grown g h.bel.size (fun k hk => by simp at hk; omega), by omega⟩

theorem pair_laid (W : World) (t f o i b t' f' o' i' b' : Bool) : P10 (W.alloc (.cells #[.bool t, .bool f, .bool o, .bool i, .bool b, .bool t', .bool f', .bool o', .bool i', .bool b'] 39)) W.heap.size ⟨t, f, o, i, b⟩ ⟨t', f', o', i', b'⟩ := by
  constructor <;> simp

theorem lit_wf (k : Int) (h0 : -9223372036854775808 ≤ k) (h1 : k ≤ 9223372036854775807) : (Lit.int .i64 k).wf = true := by
  have a1 : IntKind.i64.min ≤ k := h0
  have a2 : k ≤ IntKind.i64.max := h1
  simp [Lit.wf, a1]
  exact h1

theorem res_stored {W : World} {b6 b7 : Nat} (ne : b6 ≠ b7) (v0 v1 v2 v3 v4 u0 u1 u2 u3 u4 : Value) {o0 : Value} (z0 : W.cell? ⟨b6, 0, none⟩ = some o0) {o1 : Value} (z1 : W.cell? ⟨b6, 1, none⟩ = some o1) {o2 : Value} (z2 : W.cell? ⟨b6, 2, none⟩ = some o2) {o3 : Value} (z3 : W.cell? ⟨b6, 3, none⟩ = some o3) {o4 : Value} (z4 : W.cell? ⟨b6, 4, none⟩ = some o4) {r0 : Value} (y0 : W.cell? ⟨b7, 0, none⟩ = some r0) {r1 : Value} (y1 : W.cell? ⟨b7, 1, none⟩ = some r1) {r2 : Value} (y2 : W.cell? ⟨b7, 2, none⟩ = some r2) {r3 : Value} (y3 : W.cell? ⟨b7, 3, none⟩ = some r3) {r4 : Value} (y4 : W.cell? ⟨b7, 4, none⟩ = some r4) :
    ((((((((((W.setCell ⟨b6, 0, none⟩ v0).setCell ⟨b6, 1, none⟩ v1).setCell ⟨b6, 2, none⟩ v2).setCell ⟨b6, 3, none⟩ v3).setCell ⟨b6, 4, none⟩ v4).setCell ⟨b7, 0, none⟩ u0).setCell ⟨b7, 1, none⟩ u1).setCell ⟨b7, 2, none⟩ u2).setCell ⟨b7, 3, none⟩ u3).setCell ⟨b7, 4, none⟩ u4).cell? ⟨b6, 0, none⟩ = some v0 ∧ ((((((((((W.setCell ⟨b6, 0, none⟩ v0).setCell ⟨b6, 1, none⟩ v1).setCell ⟨b6, 2, none⟩ v2).setCell ⟨b6, 3, none⟩ v3).setCell ⟨b6, 4, none⟩ v4).setCell ⟨b7, 0, none⟩ u0).setCell ⟨b7, 1, none⟩ u1).setCell ⟨b7, 2, none⟩ u2).setCell ⟨b7, 3, none⟩ u3).setCell ⟨b7, 4, none⟩ u4).cell? ⟨b6, 1, none⟩ = some v1 ∧ ((((((((((W.setCell ⟨b6, 0, none⟩ v0).setCell ⟨b6, 1, none⟩ v1).setCell ⟨b6, 2, none⟩ v2).setCell ⟨b6, 3, none⟩ v3).setCell ⟨b6, 4, none⟩ v4).setCell ⟨b7, 0, none⟩ u0).setCell ⟨b7, 1, none⟩ u1).setCell ⟨b7, 2, none⟩ u2).setCell ⟨b7, 3, none⟩ u3).setCell ⟨b7, 4, none⟩ u4).cell? ⟨b6, 2, none⟩ = some v2 ∧ ((((((((((W.setCell ⟨b6, 0, none⟩ v0).setCell ⟨b6, 1, none⟩ v1).setCell ⟨b6, 2, none⟩ v2).setCell ⟨b6, 3, none⟩ v3).setCell ⟨b6, 4, none⟩ v4).setCell ⟨b7, 0, none⟩ u0).setCell ⟨b7, 1, none⟩ u1).setCell ⟨b7, 2, none⟩ u2).setCell ⟨b7, 3, none⟩ u3).setCell ⟨b7, 4, none⟩ u4).cell? ⟨b6, 3, none⟩ = some v3 ∧ ((((((((((W.setCell ⟨b6, 0, none⟩ v0).setCell ⟨b6, 1, none⟩ v1).setCell ⟨b6, 2, none⟩ v2).setCell ⟨b6, 3, none⟩ v3).setCell ⟨b6, 4, none⟩ v4).setCell ⟨b7, 0, none⟩ u0).setCell ⟨b7, 1, none⟩ u1).setCell ⟨b7, 2, none⟩ u2).setCell ⟨b7, 3, none⟩ u3).setCell ⟨b7, 4, none⟩ u4).cell? ⟨b6, 4, none⟩ = some v4 ∧ ((((((((((W.setCell ⟨b6, 0, none⟩ v0).setCell ⟨b6, 1, none⟩ v1).setCell ⟨b6, 2, none⟩ v2).setCell ⟨b6, 3, none⟩ v3).setCell ⟨b6, 4, none⟩ v4).setCell ⟨b7, 0, none⟩ u0).setCell ⟨b7, 1, none⟩ u1).setCell ⟨b7, 2, none⟩ u2).setCell ⟨b7, 3, none⟩ u3).setCell ⟨b7, 4, none⟩ u4).cell? ⟨b7, 0, none⟩ = some u0 ∧ ((((((((((W.setCell ⟨b6, 0, none⟩ v0).setCell ⟨b6, 1, none⟩ v1).setCell ⟨b6, 2, none⟩ v2).setCell ⟨b6, 3, none⟩ v3).setCell ⟨b6, 4, none⟩ v4).setCell ⟨b7, 0, none⟩ u0).setCell ⟨b7, 1, none⟩ u1).setCell ⟨b7, 2, none⟩ u2).setCell ⟨b7, 3, none⟩ u3).setCell ⟨b7, 4, none⟩ u4).cell? ⟨b7, 1, none⟩ = some u1 ∧ ((((((((((W.setCell ⟨b6, 0, none⟩ v0).setCell ⟨b6, 1, none⟩ v1).setCell ⟨b6, 2, none⟩ v2).setCell ⟨b6, 3, none⟩ v3).setCell ⟨b6, 4, none⟩ v4).setCell ⟨b7, 0, none⟩ u0).setCell ⟨b7, 1, none⟩ u1).setCell ⟨b7, 2, none⟩ u2).setCell ⟨b7, 3, none⟩ u3).setCell ⟨b7, 4, none⟩ u4).cell? ⟨b7, 2, none⟩ = some u2 ∧ ((((((((((W.setCell ⟨b6, 0, none⟩ v0).setCell ⟨b6, 1, none⟩ v1).setCell ⟨b6, 2, none⟩ v2).setCell ⟨b6, 3, none⟩ v3).setCell ⟨b6, 4, none⟩ v4).setCell ⟨b7, 0, none⟩ u0).setCell ⟨b7, 1, none⟩ u1).setCell ⟨b7, 2, none⟩ u2).setCell ⟨b7, 3, none⟩ u3).setCell ⟨b7, 4, none⟩ u4).cell? ⟨b7, 3, none⟩ = some u3 ∧ ((((((((((W.setCell ⟨b6, 0, none⟩ v0).setCell ⟨b6, 1, none⟩ v1).setCell ⟨b6, 2, none⟩ v2).setCell ⟨b6, 3, none⟩ v3).setCell ⟨b6, 4, none⟩ v4).setCell ⟨b7, 0, none⟩ u0).setCell ⟨b7, 1, none⟩ u1).setCell ⟨b7, 2, none⟩ u2).setCell ⟨b7, 3, none⟩ u3).setCell ⟨b7, 4, none⟩ u4).cell? ⟨b7, 4, none⟩ = some u4 := by
  refine ⟨?_, ?_, ?_, ?_, ?_, ?_, ?_, ?_, ?_, ?_⟩
  · exact cell_set_far ne (cell_set_far ne (cell_set_far ne (cell_set_far ne (cell_set_far ne (cell_set_off (by decide) (cell_set_off (by decide) (cell_set_off (by decide) (cell_set_off (by decide) (cell_set_same (z0))))))))))
  · exact cell_set_far ne (cell_set_far ne (cell_set_far ne (cell_set_far ne (cell_set_far ne (cell_set_off (by decide) (cell_set_off (by decide) (cell_set_off (by decide) (cell_set_same (cell_set_off (by decide) (z1))))))))))
  · exact cell_set_far ne (cell_set_far ne (cell_set_far ne (cell_set_far ne (cell_set_far ne (cell_set_off (by decide) (cell_set_off (by decide) (cell_set_same (cell_set_off (by decide) (cell_set_off (by decide) (z2))))))))))
  · exact cell_set_far ne (cell_set_far ne (cell_set_far ne (cell_set_far ne (cell_set_far ne (cell_set_off (by decide) (cell_set_same (cell_set_off (by decide) (cell_set_off (by decide) (cell_set_off (by decide) (z3))))))))))
  · exact cell_set_far ne (cell_set_far ne (cell_set_far ne (cell_set_far ne (cell_set_far ne (cell_set_same (cell_set_off (by decide) (cell_set_off (by decide) (cell_set_off (by decide) (cell_set_off (by decide) (z4))))))))))
  · exact cell_set_off (by decide) (cell_set_off (by decide) (cell_set_off (by decide) (cell_set_off (by decide) (cell_set_same (cell_set_far (Ne.symm ne) (cell_set_far (Ne.symm ne) (cell_set_far (Ne.symm ne) (cell_set_far (Ne.symm ne) (cell_set_far (Ne.symm ne) (y0))))))))))
  · exact cell_set_off (by decide) (cell_set_off (by decide) (cell_set_off (by decide) (cell_set_same (cell_set_off (by decide) (cell_set_far (Ne.symm ne) (cell_set_far (Ne.symm ne) (cell_set_far (Ne.symm ne) (cell_set_far (Ne.symm ne) (cell_set_far (Ne.symm ne) (y1))))))))))
  · exact cell_set_off (by decide) (cell_set_off (by decide) (cell_set_same (cell_set_off (by decide) (cell_set_off (by decide) (cell_set_far (Ne.symm ne) (cell_set_far (Ne.symm ne) (cell_set_far (Ne.symm ne) (cell_set_far (Ne.symm ne) (cell_set_far (Ne.symm ne) (y2))))))))))
  · exact cell_set_off (by decide) (cell_set_same (cell_set_off (by decide) (cell_set_off (by decide) (cell_set_off (by decide) (cell_set_far (Ne.symm ne) (cell_set_far (Ne.symm ne) (cell_set_far (Ne.symm ne) (cell_set_far (Ne.symm ne) (cell_set_far (Ne.symm ne) (y3))))))))))
  · exact cell_set_same (cell_set_off (by decide) (cell_set_off (by decide) (cell_set_off (by decide) (cell_set_off (by decide) (cell_set_far (Ne.symm ne) (cell_set_far (Ne.symm ne) (cell_set_far (Ne.symm ne) (cell_set_far (Ne.symm ne) (cell_set_far (Ne.symm ne) (y4))))))))))
theorem res_below {s : Nat} {w W : World} {b6 b7 : Nat} (h : Below s w W) (h6 : s ≤ b6) (h7 : s ≤ b7) (v0 v1 v2 v3 v4 u0 u1 u2 u3 u4 : Value) : Below s w ((((((((((W.setCell ⟨b6, 0, none⟩ v0).setCell ⟨b6, 1, none⟩ v1).setCell ⟨b6, 2, none⟩ v2).setCell ⟨b6, 3, none⟩ v3).setCell ⟨b6, 4, none⟩ v4).setCell ⟨b7, 0, none⟩ u0).setCell ⟨b7, 1, none⟩ u1).setCell ⟨b7, 2, none⟩ u2).setCell ⟨b7, 3, none⟩ u3).setCell ⟨b7, 4, none⟩ u4) := by
  have g0 := Below.setCell h (p := ⟨b6, 0, none⟩) h6 v0
  have g1 := Below.setCell g0 (p := ⟨b6, 1, none⟩) h6 v1
  have g2 := Below.setCell g1 (p := ⟨b6, 2, none⟩) h6 v2
  have g3 := Below.setCell g2 (p := ⟨b6, 3, none⟩) h6 v3
  have g4 := Below.setCell g3 (p := ⟨b6, 4, none⟩) h6 v4
  have g5 := Below.setCell g4 (p := ⟨b7, 0, none⟩) h7 u0
  have g6 := Below.setCell g5 (p := ⟨b7, 1, none⟩) h7 u1
  have g7 := Below.setCell g6 (p := ⟨b7, 2, none⟩) h7 u2
  have g8 := Below.setCell g7 (p := ⟨b7, 3, none⟩) h7 u3
  have g9 := Below.setCell g8 (p := ⟨b7, 4, none⟩) h7 u4
  exact g9

set_option maxRecDepth 100000 in
set_option maxHeartbeats 8000000 in
theorem act1 (k : Int) (hk : k = 1) (t f o i b t' f' o' i' b' : Bool) (w : World) :
    Calls Try.prog 17 #[.agg #[.bool t, .bool f, .bool o, .bool i, .bool b], .agg #[.bool t', .bool f', .bool o', .bool i', .bool b'], .int .i64 1] w fun e w' => ∃ (x y : It) (c : Int), act ⟨t, f, o, i, b⟩ ⟨t', f', o', i', b'⟩ k = (x, y, c) ∧ e = .returned (.tuple #[.agg #[.bool x.t, .bool x.f, .bool x.o, .bool x.i, .bool x.b], .agg #[.bool y.t, .bool y.f, .bool y.o, .bool y.i, .bool y.b], .int .i64 c]) ∧ Below w.heap.size w w' := by
  obtain ⟨W, hW⟩ : ∃ W, W = ((((w.alloc (.cells #[.bool t, .bool f, .bool o, .bool i, .bool b] 23)).alloc (.cells #[.bool t', .bool f', .bool o', .bool i', .bool b'] 23)).alloc (.cells #[.bool false, .bool false, .bool false, .bool false, .bool false] 23)).alloc (.cells #[.bool false, .bool false, .bool false, .bool false, .bool false] 23)).alloc (.map #[] 0) := ⟨_, rfl⟩
  have hmm := @run_makeMap Try.prog
  have own0 : W.ownsMap Try.prog 3 RF (w.heap.size + 4) 0 (.map []) := by
    have := World.ownsMap_made (((((w.alloc (.cells #[.bool t, .bool f, .bool o, .bool i, .bool b] 23)).alloc (.cells #[.bool t', .bool f', .bool o', .bool i', .bool b'] 23)).alloc (.cells #[.bool false, .bool false, .bool false, .bool false, .bool false] 23)).alloc (.cells #[.bool false, .bool false, .bool false, .bool false, .bool false] 23))) Try.prog 3 RF
    rw [← hW] at this
    simpa using this
  have H0 : AB t f o i b t' f' o' i' b' w W := by rw [hW]; exact ab_start _ _ _ _ _ _ _ _ _ _ _
  obtain ⟨W1, W2, W3, W4, W5, W6, r1, r2, r3, r4, r5, r6, h6, g6⟩ := kinds_made _ _ own0
  have hl := kind_hit h6 1 21 (by decide) hit1.1 hit1.2
  have H6 := Lib.hid (H0.grown g6)
  rw [hW] at r1
  clear hW H0 h6 g6 own0
  obtain ⟨a0, a1, a2, a3, a4, b0, b1, b2, b3, b4, z0, z1, z2, z3, z4, y0, y1, y2, y3, y4, p0, p1, p2, p3, p4, q0, q1, q2, q3, q4, bel, sz⟩ := H6.out
  have sz1 : w.heap.size + 1 < W6.heap.size := by omega
  have sz2 : w.heap.size + 2 < W6.heap.size := by omega
  have sz3 : w.heap.size < W6.heap.size := by omega
  have sz3' : w.heap.size + 3 < W6.heap.size := sz
  clear bel z0 z1 z2 z3 z4 y0 y1 y2 y3 y4 p0 p1 p2 p3 p4 q0 q1 q2 q3 q4
  go_enter Try.func17, Try.ntmps17
  go_wp2_with fail
  refine (fits_any _ _ _ _ _ _ _ _ _ _ _).mono ?_
  rintro e w1 ⟨rfl, hb⟩
  clear a0 a1 a2 a3 a4 b0 b1 b2 b3 b4
  have HP := Lib.hid ((pair_laid W6 t f o i b t' f' o' i' b').kept hb)
  have hbl : Below W6.heap.size W6 w1 := (Below.alloc (Below.refl _ _) (Nat.le_refl _) _).trans (hb.mono (by simp))
  have H8 := Lib.hid (H6.out.kept hbl sz (Nat.le_refl _))
  clear hb hbl H6
  cases hf : fitsB t f o i b t' f' o' i' b' with
  | false =>
    obtain ⟨a0, a1, a2, a3, a4, b0, b1, b2, b3, b4, z0, z1, z2, z3, z4, y0, y1, y2, y3, y4, p0, p1, p2, p3, p4, q0, q1, q2, q3, q4, bel, sz⟩ := H8.out
    have HB := Lib.hid bel
    clear bel
    go_wp2_with fail
    go_region
    obtain ⟨e0, e1, e2, e3, e4, e5, e6, e7, e8, e9⟩ := res_stored (W := w1) (b6 := w.heap.size + 1 + 1) (b7 := w.heap.size + 1 + 1 + 1) (by omega) (.bool t) (.bool f) (.bool o) (.bool i) (.bool b) (.bool t') (.bool f') (.bool o') (.bool i') (.bool b') z0 z1 z2 z3 z4 y0 y1 y2 y3 y4
    have eB := Lib.hid (res_below (b6 := w.heap.size + 1 + 1) (b7 := w.heap.size + 1 + 1 + 1) HB.out (by omega) (by omega) (.bool t) (.bool f) (.bool o) (.bool i) (.bool b) (.bool t') (.bool f') (.bool o') (.bool i') (.bool b'))
    clear a0 a1 a2 a3 a4 b0 b1 b2 b3 b4 z0 z1 z2 z3 z4 y0 y1 y2 y3 y4 p0 p1 p2 p3 p4 q0 q1 q2 q3 q4 HB
    generalize ((((((((((w1.setCell ⟨w.heap.size + 1 + 1, 0, none⟩ (.bool t)).setCell ⟨w.heap.size + 1 + 1, 1, none⟩ (.bool f)).setCell ⟨w.heap.size + 1 + 1, 2, none⟩ (.bool o)).setCell ⟨w.heap.size + 1 + 1, 3, none⟩ (.bool i)).setCell ⟨w.heap.size + 1 + 1, 4, none⟩ (.bool b)).setCell ⟨w.heap.size + 1 + 1 + 1, 0, none⟩ (.bool t')).setCell ⟨w.heap.size + 1 + 1 + 1, 1, none⟩ (.bool f')).setCell ⟨w.heap.size + 1 + 1 + 1, 2, none⟩ (.bool o')).setCell ⟨w.heap.size + 1 + 1 + 1, 3, none⟩ (.bool i')).setCell ⟨w.heap.size + 1 + 1 + 1, 4, none⟩ (.bool b')) = WF at e0 e1 e2 e3 e4 e5 e6 e7 e8 e9 eB ⊢
    go_wp2_with fail
    refine bodyPost_ret (v := .tuple #[.agg #[.bool t, .bool f, .bool o, .bool i, .bool b], .agg #[.bool t', .bool f', .bool o', .bool i', .bool b'], .int .i64 1]) (by simp [results, Try.results17, go_sem, e0, e1, e2, e3, e4, e5, e6, e7, e8, e9]) rfl ⟨⟨t, f, o, i, b⟩, ⟨t', f', o', i', b'⟩, 1, by subst hk; simp [act, fitsI, hf], rfl, ?_⟩
    exact Below.drew eB.out
  | true =>
    obtain ⟨a0, a1, a2, a3, a4, b0, b1, b2, b3, b4, z0, z1, z2, z3, z4, y0, y1, y2, y3, y4, p0, p1, p2, p3, p4, q0, q1, q2, q3, q4, bel, _sz⟩ := H8.out
    obtain ⟨d0, d1, d2, d3, d4, d5, d6, d7, d8, d9, fr, lt⟩ := HP.out
    simp only at d0 d1 d2 d3 d4 d5 d6 d7 d8 d9
    clear fr bel
    go_wp2_with fail
    refine (subscribe_any HP.out).mono ?_
    rintro e w2 ⟨x, y, c, hdo, rfl, hb2, hp2⟩
    have HD := Lib.hid hdo
    have HP2 := Lib.hid hp2
    have H9 := Lib.hid (H8.out.kept hb2 sz3' (Nat.le_of_lt lt))
    clear hb2 hp2 hdo HP a0 a1 a2 a3 a4 b0 b1 b2 b3 b4 z0 z1 z2 z3 z4 y0 y1 y2 y3 y4 p0 p1 p2 p3 p4 q0 q1 q2 q3 q4 d0 d1 d2 d3 d4 d5 d6 d7 d8 d9 sz lt
    obtain ⟨a0, a1, a2, a3, a4, b0, b1, b2, b3, b4, z0, z1, z2, z3, z4, y0, y1, y2, y3, y4, p0, p1, p2, p3, p4, q0, q1, q2, q3, q4, bel, sz⟩ := H9.out
    have HB := Lib.hid bel
    clear bel
    by_cases hc : c = 0
    · subst hc
      obtain ⟨xt, xf, xo, xi, xb⟩ := x
      obtain ⟨yt, yf, yo, yi, yb⟩ := y
      obtain ⟨d0, d1, d2, d3, d4, d5, d6, d7, d8, d9, fr, lt⟩ := HP2.out
      simp only at d0 d1 d2 d3 d4 d5 d6 d7 d8 d9
      clear fr
      go_wp2_with fail
      go_region
      obtain ⟨e0, e1, e2, e3, e4, e5, e6, e7, e8, e9⟩ := res_stored (W := w2) (b6 := w.heap.size + 1 + 1) (b7 := w.heap.size + 1 + 1 + 1) (by omega) (.bool xt) (.bool xf) (.bool xo) (.bool xi) (.bool xb) (.bool yt) (.bool yf) (.bool yo) (.bool yi) (.bool yb) z0 z1 z2 z3 z4 y0 y1 y2 y3 y4
      have eB := Lib.hid (res_below (b6 := w.heap.size + 1 + 1) (b7 := w.heap.size + 1 + 1 + 1) HB.out (by omega) (by omega) (.bool xt) (.bool xf) (.bool xo) (.bool xi) (.bool xb) (.bool yt) (.bool yf) (.bool yo) (.bool yi) (.bool yb))
      clear a0 a1 a2 a3 a4 b0 b1 b2 b3 b4 z0 z1 z2 z3 z4 y0 y1 y2 y3 y4 p0 p1 p2 p3 p4 q0 q1 q2 q3 q4 d0 d1 d2 d3 d4 d5 d6 d7 d8 d9 HB
      generalize ((((((((((w2.setCell ⟨w.heap.size + 1 + 1, 0, none⟩ (.bool xt)).setCell ⟨w.heap.size + 1 + 1, 1, none⟩ (.bool xf)).setCell ⟨w.heap.size + 1 + 1, 2, none⟩ (.bool xo)).setCell ⟨w.heap.size + 1 + 1, 3, none⟩ (.bool xi)).setCell ⟨w.heap.size + 1 + 1, 4, none⟩ (.bool xb)).setCell ⟨w.heap.size + 1 + 1 + 1, 0, none⟩ (.bool yt)).setCell ⟨w.heap.size + 1 + 1 + 1, 1, none⟩ (.bool yf)).setCell ⟨w.heap.size + 1 + 1 + 1, 2, none⟩ (.bool yo)).setCell ⟨w.heap.size + 1 + 1 + 1, 3, none⟩ (.bool yi)).setCell ⟨w.heap.size + 1 + 1 + 1, 4, none⟩ (.bool yb)) = WF at e0 e1 e2 e3 e4 e5 e6 e7 e8 e9 eB ⊢
      go_wp2_with fail
      refine bodyPost_ret (v := .tuple #[.agg #[.bool xt, .bool xf, .bool xo, .bool xi, .bool xb], .agg #[.bool yt, .bool yf, .bool yo, .bool yi, .bool yb], .int .i64 0]) (by simp [results, Try.results17, go_sem, e0, e1, e2, e3, e4, e5, e6, e7, e8, e9]) rfl ⟨⟨xt, xf, xo, xi, xb⟩, ⟨yt, yf, yo, yi, yb⟩, 0, by subst hk; simp [act, fitsI, hf, HD.out], rfl, ?_⟩
      exact Below.drew eB.out
    · have hcb : (c != 0) = true := by simpa using hc
      go_wp2_with fail
      go_region
      obtain ⟨e0, e1, e2, e3, e4, e5, e6, e7, e8, e9⟩ := res_stored (W := w2) (b6 := w.heap.size + 1 + 1) (b7 := w.heap.size + 1 + 1 + 1) (by omega) (.bool t) (.bool f) (.bool o) (.bool i) (.bool b) (.bool t') (.bool f') (.bool o') (.bool i') (.bool b') z0 z1 z2 z3 z4 y0 y1 y2 y3 y4
      have eB := Lib.hid (res_below (b6 := w.heap.size + 1 + 1) (b7 := w.heap.size + 1 + 1 + 1) HB.out (by omega) (by omega) (.bool t) (.bool f) (.bool o) (.bool i) (.bool b) (.bool t') (.bool f') (.bool o') (.bool i') (.bool b'))
      clear a0 a1 a2 a3 a4 b0 b1 b2 b3 b4 z0 z1 z2 z3 z4 y0 y1 y2 y3 y4 p0 p1 p2 p3 p4 q0 q1 q2 q3 q4 HB
      generalize ((((((((((w2.setCell ⟨w.heap.size + 1 + 1, 0, none⟩ (.bool t)).setCell ⟨w.heap.size + 1 + 1, 1, none⟩ (.bool f)).setCell ⟨w.heap.size + 1 + 1, 2, none⟩ (.bool o)).setCell ⟨w.heap.size + 1 + 1, 3, none⟩ (.bool i)).setCell ⟨w.heap.size + 1 + 1, 4, none⟩ (.bool b)).setCell ⟨w.heap.size + 1 + 1 + 1, 0, none⟩ (.bool t')).setCell ⟨w.heap.size + 1 + 1 + 1, 1, none⟩ (.bool f')).setCell ⟨w.heap.size + 1 + 1 + 1, 2, none⟩ (.bool o')).setCell ⟨w.heap.size + 1 + 1 + 1, 3, none⟩ (.bool i')).setCell ⟨w.heap.size + 1 + 1 + 1, 4, none⟩ (.bool b')) = WF at e0 e1 e2 e3 e4 e5 e6 e7 e8 e9 eB ⊢
      go_wp2_with fail
      refine bodyPost_ret (v := .tuple #[.agg #[.bool t, .bool f, .bool o, .bool i, .bool b], .agg #[.bool t', .bool f', .bool o', .bool i', .bool b'], .int .i64 c]) (by simp [results, Try.results17, go_sem, e0, e1, e2, e3, e4, e5, e6, e7, e8, e9]) rfl ⟨⟨t, f, o, i, b⟩, ⟨t', f', o', i', b'⟩, c, by subst hk; simp [act, fitsI, hf, HD.out, hc], rfl, ?_⟩
      exact Below.drew eB.out

set_option maxRecDepth 100000 in
set_option maxHeartbeats 8000000 in
theorem act2 (k : Int) (hk : k = 2) (t f o i b t' f' o' i' b' : Bool) (w : World) :
    Calls Try.prog 17 #[.agg #[.bool t, .bool f, .bool o, .bool i, .bool b], .agg #[.bool t', .bool f', .bool o', .bool i', .bool b'], .int .i64 2] w fun e w' => ∃ (x y : It) (c : Int), act ⟨t, f, o, i, b⟩ ⟨t', f', o', i', b'⟩ k = (x, y, c) ∧ e = .returned (.tuple #[.agg #[.bool x.t, .bool x.f, .bool x.o, .bool x.i, .bool x.b], .agg #[.bool y.t, .bool y.f, .bool y.o, .bool y.i, .bool y.b], .int .i64 c]) ∧ Below w.heap.size w w' := by
  obtain ⟨W, hW⟩ : ∃ W, W = ((((w.alloc (.cells #[.bool t, .bool f, .bool o, .bool i, .bool b] 23)).alloc (.cells #[.bool t', .bool f', .bool o', .bool i', .bool b'] 23)).alloc (.cells #[.bool false, .bool false, .bool false, .bool false, .bool false] 23)).alloc (.cells #[.bool false, .bool false, .bool false, .bool false, .bool false] 23)).alloc (.map #[] 0) := ⟨_, rfl⟩
  have hmm := @run_makeMap Try.prog
  have own0 : W.ownsMap Try.prog 3 RF (w.heap.size + 4) 0 (.map []) := by
    have := World.ownsMap_made (((((w.alloc (.cells #[.bool t, .bool f, .bool o, .bool i, .bool b] 23)).alloc (.cells #[.bool t', .bool f', .bool o', .bool i', .bool b'] 23)).alloc (.cells #[.bool false, .bool false, .bool false, .bool false, .bool false] 23)).alloc (.cells #[.bool false, .bool false, .bool false, .bool false, .bool false] 23))) Try.prog 3 RF
    rw [← hW] at this
    simpa using this
  have H0 : AB t f o i b t' f' o' i' b' w W := by rw [hW]; exact ab_start _ _ _ _ _ _ _ _ _ _ _
  obtain ⟨W1, W2, W3, W4, W5, W6, r1, r2, r3, r4, r5, r6, h6, g6⟩ := kinds_made _ _ own0
  have hl := kind_hit h6 2 22 (by decide) hit2.1 hit2.2
  have H6 := Lib.hid (H0.grown g6)
  rw [hW] at r1
  clear hW H0 h6 g6 own0
  obtain ⟨a0, a1, a2, a3, a4, b0, b1, b2, b3, b4, z0, z1, z2, z3, z4, y0, y1, y2, y3, y4, p0, p1, p2, p3, p4, q0, q1, q2, q3, q4, bel, sz⟩ := H6.out
  have sz1 : w.heap.size + 1 < W6.heap.size := by omega
  have sz2 : w.heap.size + 2 < W6.heap.size := by omega
  have sz3 : w.heap.size < W6.heap.size := by omega
  have sz3' : w.heap.size + 3 < W6.heap.size := sz
  clear bel z0 z1 z2 z3 z4 y0 y1 y2 y3 y4 p0 p1 p2 p3 p4 q0 q1 q2 q3 q4
  go_enter Try.func17, Try.ntmps17
  go_wp2_with fail
  refine (fits_any _ _ _ _ _ _ _ _ _ _ _).mono ?_
  rintro e w1 ⟨rfl, hb⟩
  clear a0 a1 a2 a3 a4 b0 b1 b2 b3 b4
  have HP := Lib.hid ((pair_laid W6 t f o i b t' f' o' i' b').kept hb)
  have hbl : Below W6.heap.size W6 w1 := (Below.alloc (Below.refl _ _) (Nat.le_refl _) _).trans (hb.mono (by simp))
  have H8 := Lib.hid (H6.out.kept hbl sz (Nat.le_refl _))
  clear hb hbl H6
  cases hf : fitsB t f o i b t' f' o' i' b' with
  | false =>
    obtain ⟨a0, a1, a2, a3, a4, b0, b1, b2, b3, b4, z0, z1, z2, z3, z4, y0, y1, y2, y3, y4, p0, p1, p2, p3, p4, q0, q1, q2, q3, q4, bel, sz⟩ := H8.out
    have HB := Lib.hid bel
    clear bel
    go_wp2_with fail
    go_region
    obtain ⟨e0, e1, e2, e3, e4, e5, e6, e7, e8, e9⟩ := res_stored (W := w1) (b6 := w.heap.size + 1 + 1) (b7 := w.heap.size + 1 + 1 + 1) (by omega) (.bool t) (.bool f) (.bool o) (.bool i) (.bool b) (.bool t') (.bool f') (.bool o') (.bool i') (.bool b') z0 z1 z2 z3 z4 y0 y1 y2 y3 y4
    have eB := Lib.hid (res_below (b6 := w.heap.size + 1 + 1) (b7 := w.heap.size + 1 + 1 + 1) HB.out (by omega) (by omega) (.bool t) (.bool f) (.bool o) (.bool i) (.bool b) (.bool t') (.bool f') (.bool o') (.bool i') (.bool b'))
    clear a0 a1 a2 a3 a4 b0 b1 b2 b3 b4 z0 z1 z2 z3 z4 y0 y1 y2 y3 y4 p0 p1 p2 p3 p4 q0 q1 q2 q3 q4 HB
    generalize ((((((((((w1.setCell ⟨w.heap.size + 1 + 1, 0, none⟩ (.bool t)).setCell ⟨w.heap.size + 1 + 1, 1, none⟩ (.bool f)).setCell ⟨w.heap.size + 1 + 1, 2, none⟩ (.bool o)).setCell ⟨w.heap.size + 1 + 1, 3, none⟩ (.bool i)).setCell ⟨w.heap.size + 1 + 1, 4, none⟩ (.bool b)).setCell ⟨w.heap.size + 1 + 1 + 1, 0, none⟩ (.bool t')).setCell ⟨w.heap.size + 1 + 1 + 1, 1, none⟩ (.bool f')).setCell ⟨w.heap.size + 1 + 1 + 1, 2, none⟩ (.bool o')).setCell ⟨w.heap.size + 1 + 1 + 1, 3, none⟩ (.bool i')).setCell ⟨w.heap.size + 1 + 1 + 1, 4, none⟩ (.bool b')) = WF at e0 e1 e2 e3 e4 e5 e6 e7 e8 e9 eB ⊢
    go_wp2_with fail
    refine bodyPost_ret (v := .tuple #[.agg #[.bool t, .bool f, .bool o, .bool i, .bool b], .agg #[.bool t', .bool f', .bool o', .bool i', .bool b'], .int .i64 1]) (by simp [results, Try.results17, go_sem, e0, e1, e2, e3, e4, e5, e6, e7, e8, e9]) rfl ⟨⟨t, f, o, i, b⟩, ⟨t', f', o', i', b'⟩, 1, by subst hk; simp [act, fitsI, hf], rfl, ?_⟩
    exact Below.drew eB.out
  | true =>
    obtain ⟨a0, a1, a2, a3, a4, b0, b1, b2, b3, b4, z0, z1, z2, z3, z4, y0, y1, y2, y3, y4, p0, p1, p2, p3, p4, q0, q1, q2, q3, q4, bel, _sz⟩ := H8.out
    obtain ⟨d0, d1, d2, d3, d4, d5, d6, d7, d8, d9, fr, lt⟩ := HP.out
    simp only at d0 d1 d2 d3 d4 d5 d6 d7 d8 d9
    clear fr bel
    go_wp2_with fail
    refine (subscribed_any HP.out).mono ?_
    rintro e w2 ⟨x, y, c, hdo, rfl, hb2, hp2⟩
    have HD := Lib.hid hdo
    have HP2 := Lib.hid hp2
    have H9 := Lib.hid (H8.out.kept hb2 sz3' (Nat.le_of_lt lt))
    clear hb2 hp2 hdo HP a0 a1 a2 a3 a4 b0 b1 b2 b3 b4 z0 z1 z2 z3 z4 y0 y1 y2 y3 y4 p0 p1 p2 p3 p4 q0 q1 q2 q3 q4 d0 d1 d2 d3 d4 d5 d6 d7 d8 d9 sz lt
    obtain ⟨a0, a1, a2, a3, a4, b0, b1, b2, b3, b4, z0, z1, z2, z3, z4, y0, y1, y2, y3, y4, p0, p1, p2, p3, p4, q0, q1, q2, q3, q4, bel, sz⟩ := H9.out
    have HB := Lib.hid bel
    clear bel
    by_cases hc : c = 0
    · subst hc
      obtain ⟨xt, xf, xo, xi, xb⟩ := x
      obtain ⟨yt, yf, yo, yi, yb⟩ := y
      obtain ⟨d0, d1, d2, d3, d4, d5, d6, d7, d8, d9, fr, lt⟩ := HP2.out
      simp only at d0 d1 d2 d3 d4 d5 d6 d7 d8 d9
      clear fr
      go_wp2_with fail
      go_region
      obtain ⟨e0, e1, e2, e3, e4, e5, e6, e7, e8, e9⟩ := res_stored (W := w2) (b6 := w.heap.size + 1 + 1) (b7 := w.heap.size + 1 + 1 + 1) (by omega) (.bool xt) (.bool xf) (.bool xo) (.bool xi) (.bool xb) (.bool yt) (.bool yf) (.bool yo) (.bool yi) (.bool yb) z0 z1 z2 z3 z4 y0 y1 y2 y3 y4
      have eB := Lib.hid (res_below (b6 := w.heap.size + 1 + 1) (b7 := w.heap.size + 1 + 1 + 1) HB.out (by omega) (by omega) (.bool xt) (.bool xf) (.bool xo) (.bool xi) (.bool xb) (.bool yt) (.bool yf) (.bool yo) (.bool yi) (.bool yb))
      clear a0 a1 a2 a3 a4 b0 b1 b2 b3 b4 z0 z1 z2 z3 z4 y0 y1 y2 y3 y4 p0 p1 p2 p3 p4 q0 q1 q2 q3 q4 d0 d1 d2 d3 d4 d5 d6 d7 d8 d9 HB
      generalize ((((((((((w2.setCell ⟨w.heap.size + 1 + 1, 0, none⟩ (.bool xt)).setCell ⟨w.heap.size + 1 + 1, 1, none⟩ (.bool xf)).setCell ⟨w.heap.size + 1 + 1, 2, none⟩ (.bool xo)).setCell ⟨w.heap.size + 1 + 1, 3, none⟩ (.bool xi)).setCell ⟨w.heap.size + 1 + 1, 4, none⟩ (.bool xb)).setCell ⟨w.heap.size + 1 + 1 + 1, 0, none⟩ (.bool yt)).setCell ⟨w.heap.size + 1 + 1 + 1, 1, none⟩ (.bool yf)).setCell ⟨w.heap.size + 1 + 1 + 1, 2, none⟩ (.bool yo)).setCell ⟨w.heap.size + 1 + 1 + 1, 3, none⟩ (.bool yi)).setCell ⟨w.heap.size + 1 + 1 + 1, 4, none⟩ (.bool yb)) = WF at e0 e1 e2 e3 e4 e5 e6 e7 e8 e9 eB ⊢
      go_wp2_with fail
      refine bodyPost_ret (v := .tuple #[.agg #[.bool xt, .bool xf, .bool xo, .bool xi, .bool xb], .agg #[.bool yt, .bool yf, .bool yo, .bool yi, .bool yb], .int .i64 0]) (by simp [results, Try.results17, go_sem, e0, e1, e2, e3, e4, e5, e6, e7, e8, e9]) rfl ⟨⟨xt, xf, xo, xi, xb⟩, ⟨yt, yf, yo, yi, yb⟩, 0, by subst hk; simp [act, fitsI, hf, HD.out], rfl, ?_⟩
      exact Below.drew eB.out
    · have hcb : (c != 0) = true := by simpa using hc
      go_wp2_with fail
      go_region
      obtain ⟨e0, e1, e2, e3, e4, e5, e6, e7, e8, e9⟩ := res_stored (W := w2) (b6 := w.heap.size + 1 + 1) (b7 := w.heap.size + 1 + 1 + 1) (by omega) (.bool t) (.bool f) (.bool o) (.bool i) (.bool b) (.bool t') (.bool f') (.bool o') (.bool i') (.bool b') z0 z1 z2 z3 z4 y0 y1 y2 y3 y4
      have eB := Lib.hid (res_below (b6 := w.heap.size + 1 + 1) (b7 := w.heap.size + 1 + 1 + 1) HB.out (by omega) (by omega) (.bool t) (.bool f) (.bool o) (.bool i) (.bool b) (.bool t') (.bool f') (.bool o') (.bool i') (.bool b'))
      clear a0 a1 a2 a3 a4 b0 b1 b2 b3 b4 z0 z1 z2 z3 z4 y0 y1 y2 y3 y4 p0 p1 p2 p3 p4 q0 q1 q2 q3 q4 HB
      generalize ((((((((((w2.setCell ⟨w.heap.size + 1 + 1, 0, none⟩ (.bool t)).setCell ⟨w.heap.size + 1 + 1, 1, none⟩ (.bool f)).setCell ⟨w.heap.size + 1 + 1, 2, none⟩ (.bool o)).setCell ⟨w.heap.size + 1 + 1, 3, none⟩ (.bool i)).setCell ⟨w.heap.size + 1 + 1, 4, none⟩ (.bool b)).setCell ⟨w.heap.size + 1 + 1 + 1, 0, none⟩ (.bool t')).setCell ⟨w.heap.size + 1 + 1 + 1, 1, none⟩ (.bool f')).setCell ⟨w.heap.size + 1 + 1 + 1, 2, none⟩ (.bool o')).setCell ⟨w.heap.size + 1 + 1 + 1, 3, none⟩ (.bool i')).setCell ⟨w.heap.size + 1 + 1 + 1, 4, none⟩ (.bool b')) = WF at e0 e1 e2 e3 e4 e5 e6 e7 e8 e9 eB ⊢
      go_wp2_with fail
      refine bodyPost_ret (v := .tuple #[.agg #[.bool t, .bool f, .bool o, .bool i, .bool b], .agg #[.bool t', .bool f', .bool o', .bool i', .bool b'], .int .i64 c]) (by simp [results, Try.results17, go_sem, e0, e1, e2, e3, e4, e5, e6, e7, e8, e9]) rfl ⟨⟨t, f, o, i, b⟩, ⟨t', f', o', i', b'⟩, c, by subst hk; simp [act, fitsI, hf, HD.out, hc], rfl, ?_⟩
      exact Below.drew eB.out

set_option maxRecDepth 100000 in
set_option maxHeartbeats 8000000 in
theorem act3 (k : Int) (hk : k = 3) (t f o i b t' f' o' i' b' : Bool) (w : World) :
    Calls Try.prog 17 #[.agg #[.bool t, .bool f, .bool o, .bool i, .bool b], .agg #[.bool t', .bool f', .bool o', .bool i', .bool b'], .int .i64 3] w fun e w' => ∃ (x y : It) (c : Int), act ⟨t, f, o, i, b⟩ ⟨t', f', o', i', b'⟩ k = (x, y, c) ∧ e = .returned (.tuple #[.agg #[.bool x.t, .bool x.f, .bool x.o, .bool x.i, .bool x.b], .agg #[.bool y.t, .bool y.f, .bool y.o, .bool y.i, .bool y.b], .int .i64 c]) ∧ Below w.heap.size w w' := by
  obtain ⟨W, hW⟩ : ∃ W, W = ((((w.alloc (.cells #[.bool t, .bool f, .bool o, .bool i, .bool b] 23)).alloc (.cells #[.bool t', .bool f', .bool o', .bool i', .bool b'] 23)).alloc (.cells #[.bool false, .bool false, .bool false, .bool false, .bool false] 23)).alloc (.cells #[.bool false, .bool false, .bool false, .bool false, .bool false] 23)).alloc (.map #[] 0) := ⟨_, rfl⟩
  have hmm := @run_makeMap Try.prog
  have own0 : W.ownsMap Try.prog 3 RF (w.heap.size + 4) 0 (.map []) := by
    have := World.ownsMap_made (((((w.alloc (.cells #[.bool t, .bool f, .bool o, .bool i, .bool b] 23)).alloc (.cells #[.bool t', .bool f', .bool o', .bool i', .bool b'] 23)).alloc (.cells #[.bool false, .bool false, .bool false, .bool false, .bool false] 23)).alloc (.cells #[.bool false, .bool false, .bool false, .bool false, .bool false] 23))) Try.prog 3 RF
    rw [← hW] at this
    simpa using this
  have H0 : AB t f o i b t' f' o' i' b' w W := by rw [hW]; exact ab_start _ _ _ _ _ _ _ _ _ _ _
  obtain ⟨W1, W2, W3, W4, W5, W6, r1, r2, r3, r4, r5, r6, h6, g6⟩ := kinds_made _ _ own0
  have hl := kind_hit h6 3 23 (by decide) hit3.1 hit3.2
  have H6 := Lib.hid (H0.grown g6)
  rw [hW] at r1
  clear hW H0 h6 g6 own0
  obtain ⟨a0, a1, a2, a3, a4, b0, b1, b2, b3, b4, z0, z1, z2, z3, z4, y0, y1, y2, y3, y4, p0, p1, p2, p3, p4, q0, q1, q2, q3, q4, bel, sz⟩ := H6.out
  have sz1 : w.heap.size + 1 < W6.heap.size := by omega
  have sz2 : w.heap.size + 2 < W6.heap.size := by omega
  have sz3 : w.heap.size < W6.heap.size := by omega
  have sz3' : w.heap.size + 3 < W6.heap.size := sz
  clear bel z0 z1 z2 z3 z4 y0 y1 y2 y3 y4 p0 p1 p2 p3 p4 q0 q1 q2 q3 q4
  go_enter Try.func17, Try.ntmps17
  go_wp2_with fail
  refine (fits_any _ _ _ _ _ _ _ _ _ _ _).mono ?_
  rintro e w1 ⟨rfl, hb⟩
  clear a0 a1 a2 a3 a4 b0 b1 b2 b3 b4
  have HP := Lib.hid ((pair_laid W6 t f o i b t' f' o' i' b').kept hb)
  have hbl : Below W6.heap.size W6 w1 := (Below.alloc (Below.refl _ _) (Nat.le_refl _) _).trans (hb.mono (by simp))
  have H8 := Lib.hid (H6.out.kept hbl sz (Nat.le_refl _))
  clear hb hbl H6
  cases hf : fitsB t f o i b t' f' o' i' b' with
  | false =>
    obtain ⟨a0, a1, a2, a3, a4, b0, b1, b2, b3, b4, z0, z1, z2, z3, z4, y0, y1, y2, y3, y4, p0, p1, p2, p3, p4, q0, q1, q2, q3, q4, bel, sz⟩ := H8.out
    have HB := Lib.hid bel
    clear bel
    go_wp2_with fail
    go_region
    obtain ⟨e0, e1, e2, e3, e4, e5, e6, e7, e8, e9⟩ := res_stored (W := w1) (b6 := w.heap.size + 1 + 1) (b7 := w.heap.size + 1 + 1 + 1) (by omega) (.bool t) (.bool f) (.bool o) (.bool i) (.bool b) (.bool t') (.bool f') (.bool o') (.bool i') (.bool b') z0 z1 z2 z3 z4 y0 y1 y2 y3 y4
    have eB := Lib.hid (res_below (b6 := w.heap.size + 1 + 1) (b7 := w.heap.size + 1 + 1 + 1) HB.out (by omega) (by omega) (.bool t) (.bool f) (.bool o) (.bool i) (.bool b) (.bool t') (.bool f') (.bool o') (.bool i') (.bool b'))
    clear a0 a1 a2 a3 a4 b0 b1 b2 b3 b4 z0 z1 z2 z3 z4 y0 y1 y2 y3 y4 p0 p1 p2 p3 p4 q0 q1 q2 q3 q4 HB
    generalize ((((((((((w1.setCell ⟨w.heap.size + 1 + 1, 0, none⟩ (.bool t)).setCell ⟨w.heap.size + 1 + 1, 1, none⟩ (.bool f)).setCell ⟨w.heap.size + 1 + 1, 2, none⟩ (.bool o)).setCell ⟨w.heap.size + 1 + 1, 3, none⟩ (.bool i)).setCell ⟨w.heap.size + 1 + 1, 4, none⟩ (.bool b)).setCell ⟨w.heap.size + 1 + 1 + 1, 0, none⟩ (.bool t')).setCell ⟨w.heap.size + 1 + 1 + 1, 1, none⟩ (.bool f')).setCell ⟨w.heap.size + 1 + 1 + 1, 2, none⟩ (.bool o')).setCell ⟨w.heap.size + 1 + 1 + 1, 3, none⟩ (.bool i')).setCell ⟨w.heap.size + 1 + 1 + 1, 4, none⟩ (.bool b')) = WF at e0 e1 e2 e3 e4 e5 e6 e7 e8 e9 eB ⊢
    go_wp2_with fail
    refine bodyPost_ret (v := .tuple #[.agg #[.bool t, .bool f, .bool o, .bool i, .bool b], .agg #[.bool t', .bool f', .bool o', .bool i', .bool b'], .int .i64 1]) (by simp [results, Try.results17, go_sem, e0, e1, e2, e3, e4, e5, e6, e7, e8, e9]) rfl ⟨⟨t, f, o, i, b⟩, ⟨t', f', o', i', b'⟩, 1, by subst hk; simp [act, fitsI, hf], rfl, ?_⟩
    exact Below.drew eB.out
  | true =>
    obtain ⟨a0, a1, a2, a3, a4, b0, b1, b2, b3, b4, z0, z1, z2, z3, z4, y0, y1, y2, y3, y4, p0, p1, p2, p3, p4, q0, q1, q2, q3, q4, bel, _sz⟩ := H8.out
    obtain ⟨d0, d1, d2, d3, d4, d5, d6, d7, d8, d9, fr, lt⟩ := HP.out
    simp only at d0 d1 d2 d3 d4 d5 d6 d7 d8 d9
    clear fr bel
    go_wp2_with fail
    refine (unsubscribe_any HP.out).mono ?_
    rintro e w2 ⟨x, y, c, hdo, rfl, hb2, hp2⟩
    have HD := Lib.hid hdo
    have HP2 := Lib.hid hp2
    have H9 := Lib.hid (H8.out.kept hb2 sz3' (Nat.le_of_lt lt))
    clear hb2 hp2 hdo HP a0 a1 a2 a3 a4 b0 b1 b2 b3 b4 z0 z1 z2 z3 z4 y0 y1 y2 y3 y4 p0 p1 p2 p3 p4 q0 q1 q2 q3 q4 d0 d1 d2 d3 d4 d5 d6 d7 d8 d9 sz lt
    obtain ⟨a0, a1, a2, a3, a4, b0, b1, b2, b3, b4, z0, z1, z2, z3, z4, y0, y1, y2, y3, y4, p0, p1, p2, p3, p4, q0, q1, q2, q3, q4, bel, sz⟩ := H9.out
    have HB := Lib.hid bel
    clear bel
    by_cases hc : c = 0
    · subst hc
      obtain ⟨xt, xf, xo, xi, xb⟩ := x
      obtain ⟨yt, yf, yo, yi, yb⟩ := y
      obtain ⟨d0, d1, d2, d3, d4, d5, d6, d7, d8, d9, fr, lt⟩ := HP2.out
      simp only at d0 d1 d2 d3 d4 d5 d6 d7 d8 d9
      clear fr
      go_wp2_with fail
      go_region
      obtain ⟨e0, e1, e2, e3, e4, e5, e6, e7, e8, e9⟩ := res_stored (W := w2) (b6 := w.heap.size + 1 + 1) (b7 := w.heap.size + 1 + 1 + 1) (by omega) (.bool xt) (.bool xf) (.bool xo) (.bool xi) (.bool xb) (.bool yt) (.bool yf) (.bool yo) (.bool yi) (.bool yb) z0 z1 z2 z3 z4 y0 y1 y2 y3 y4
      have eB := Lib.hid (res_below (b6 := w.heap.size + 1 + 1) (b7 := w.heap.size + 1 + 1 + 1) HB.out (by omega) (by omega) (.bool xt) (.bool xf) (.bool xo) (.bool xi) (.bool xb) (.bool yt) (.bool yf) (.bool yo) (.bool yi) (.bool yb))
      clear a0 a1 a2 a3 a4 b0 b1 b2 b3 b4 z0 z1 z2 z3 z4 y0 y1 y2 y3 y4 p0 p1 p2 p3 p4 q0 q1 q2 q3 q4 d0 d1 d2 d3 d4 d5 d6 d7 d8 d9 HB
      generalize ((((((((((w2.setCell ⟨w.heap.size + 1 + 1, 0, none⟩ (.bool xt)).setCell ⟨w.heap.size + 1 + 1, 1, none⟩ (.bool xf)).setCell ⟨w.heap.size + 1 + 1, 2, none⟩ (.bool xo)).setCell ⟨w.heap.size + 1 + 1, 3, none⟩ (.bool xi)).setCell ⟨w.heap.size + 1 + 1, 4, none⟩ (.bool xb)).setCell ⟨w.heap.size + 1 + 1 + 1, 0, none⟩ (.bool yt)).setCell ⟨w.heap.size + 1 + 1 + 1, 1, none⟩ (.bool yf)).setCell ⟨w.heap.size + 1 + 1 + 1, 2, none⟩ (.bool yo)).setCell ⟨w.heap.size + 1 + 1 + 1, 3, none⟩ (.bool yi)).setCell ⟨w.heap.size + 1 + 1 + 1, 4, none⟩ (.bool yb)) = WF at e0 e1 e2 e3 e4 e5 e6 e7 e8 e9 eB ⊢
      go_wp2_with fail
      refine bodyPost_ret (v := .tuple #[.agg #[.bool xt, .bool xf, .bool xo, .bool xi, .bool xb], .agg #[.bool yt, .bool yf, .bool yo, .bool yi, .bool yb], .int .i64 0]) (by simp [results, Try.results17, go_sem, e0, e1, e2, e3, e4, e5, e6, e7, e8, e9]) rfl ⟨⟨xt, xf, xo, xi, xb⟩, ⟨yt, yf, yo, yi, yb⟩, 0, by subst hk; simp [act, fitsI, hf, HD.out], rfl, ?_⟩
      exact Below.drew eB.out
    · have hcb : (c != 0) = true := by simpa using hc
      go_wp2_with fail
      go_region
      obtain ⟨e0, e1, e2, e3, e4, e5, e6, e7, e8, e9⟩ := res_stored (W := w2) (b6 := w.heap.size + 1 + 1) (b7 := w.heap.size + 1 + 1 + 1) (by omega) (.bool t) (.bool f) (.bool o) (.bool i) (.bool b) (.bool t') (.bool f') (.bool o') (.bool i') (.bool b') z0 z1 z2 z3 z4 y0 y1 y2 y3 y4
      have eB := Lib.hid (res_below (b6 := w.heap.size + 1 + 1) (b7 := w.heap.size + 1 + 1 + 1) HB.out (by omega) (by omega) (.bool t) (.bool f) (.bool o) (.bool i) (.bool b) (.bool t') (.bool f') (.bool o') (.bool i') (.bool b'))
      clear a0 a1 a2 a3 a4 b0 b1 b2 b3 b4 z0 z1 z2 z3 z4 y0 y1 y2 y3 y4 p0 p1 p2 p3 p4 q0 q1 q2 q3 q4 HB
      generalize ((((((((((w2.setCell ⟨w.heap.size + 1 + 1, 0, none⟩ (.bool t)).setCell ⟨w.heap.size + 1 + 1, 1, none⟩ (.bool f)).setCell ⟨w.heap.size + 1 + 1, 2, none⟩ (.bool o)).setCell ⟨w.heap.size + 1 + 1, 3, none⟩ (.bool i)).setCell ⟨w.heap.size + 1 + 1, 4, none⟩ (.bool b)).setCell ⟨w.heap.size + 1 + 1 + 1, 0, none⟩ (.bool t')).setCell ⟨w.heap.size + 1 + 1 + 1, 1, none⟩ (.bool f')).setCell ⟨w.heap.size + 1 + 1 + 1, 2, none⟩ (.bool o')).setCell ⟨w.heap.size + 1 + 1 + 1, 3, none⟩ (.bool i')).setCell ⟨w.heap.size + 1 + 1 + 1, 4, none⟩ (.bool b')) = WF at e0 e1 e2 e3 e4 e5 e6 e7 e8 e9 eB ⊢
      go_wp2_with fail
      refine bodyPost_ret (v := .tuple #[.agg #[.bool t, .bool f, .bool o, .bool i, .bool b], .agg #[.bool t', .bool f', .bool o', .bool i', .bool b'], .int .i64 c]) (by simp [results, Try.results17, go_sem, e0, e1, e2, e3, e4, e5, e6, e7, e8, e9]) rfl ⟨⟨t, f, o, i, b⟩, ⟨t', f', o', i', b'⟩, c, by subst hk; simp [act, fitsI, hf, HD.out, hc], rfl, ?_⟩
      exact Below.drew eB.out

set_option maxRecDepth 100000 in
set_option maxHeartbeats 8000000 in
theorem act4 (k : Int) (hk : k = 4) (t f o i b t' f' o' i' b' : Bool) (w : World) :
    Calls Try.prog 17 #[.agg #[.bool t, .bool f, .bool o, .bool i, .bool b], .agg #[.bool t', .bool f', .bool o', .bool i', .bool b'], .int .i64 4] w fun e w' => ∃ (x y : It) (c : Int), act ⟨t, f, o, i, b⟩ ⟨t', f', o', i', b'⟩ k = (x, y, c) ∧ e = .returned (.tuple #[.agg #[.bool x.t, .bool x.f, .bool x.o, .bool x.i, .bool x.b], .agg #[.bool y.t, .bool y.f, .bool y.o, .bool y.i, .bool y.b], .int .i64 c]) ∧ Below w.heap.size w w' := by
  obtain ⟨W, hW⟩ : ∃ W, W = ((((w.alloc (.cells #[.bool t, .bool f, .bool o, .bool i, .bool b] 23)).alloc (.cells #[.bool t', .bool f', .bool o', .bool i', .bool b'] 23)).alloc (.cells #[.bool false, .bool false, .bool false, .bool false, .bool false] 23)).alloc (.cells #[.bool false, .bool false, .bool false, .bool false, .bool false] 23)).alloc (.map #[] 0) := ⟨_, rfl⟩
  have hmm := @run_makeMap Try.prog
  have own0 : W.ownsMap Try.prog 3 RF (w.heap.size + 4) 0 (.map []) := by
    have := World.ownsMap_made (((((w.alloc (.cells #[.bool t, .bool f, .bool o, .bool i, .bool b] 23)).alloc (.cells #[.bool t', .bool f', .bool o', .bool i', .bool b'] 23)).alloc (.cells #[.bool false, .bool false, .bool false, .bool false, .bool false] 23)).alloc (.cells #[.bool false, .bool false, .bool false, .bool false, .bool false] 23))) Try.prog 3 RF
    rw [← hW] at this
    simpa using this
  have H0 : AB t f o i b t' f' o' i' b' w W := by rw [hW]; exact ab_start _ _ _ _ _ _ _ _ _ _ _
  obtain ⟨W1, W2, W3, W4, W5, W6, r1, r2, r3, r4, r5, r6, h6, g6⟩ := kinds_made _ _ own0
  have hl := kind_hit h6 4 24 (by decide) hit4.1 hit4.2
  have H6 := Lib.hid (H0.grown g6)
  rw [hW] at r1
  clear hW H0 h6 g6 own0
  obtain ⟨a0, a1, a2, a3, a4, b0, b1, b2, b3, b4, z0, z1, z2, z3, z4, y0, y1, y2, y3, y4, p0, p1, p2, p3, p4, q0, q1, q2, q3, q4, bel, sz⟩ := H6.out
  have sz1 : w.heap.size + 1 < W6.heap.size := by omega
  have sz2 : w.heap.size + 2 < W6.heap.size := by omega
  have sz3 : w.heap.size < W6.heap.size := by omega
  have sz3' : w.heap.size + 3 < W6.heap.size := sz
  clear bel z0 z1 z2 z3 z4 y0 y1 y2 y3 y4 p0 p1 p2 p3 p4 q0 q1 q2 q3 q4
  go_enter Try.func17, Try.ntmps17
  go_wp2_with fail
  refine (fits_any _ _ _ _ _ _ _ _ _ _ _).mono ?_
  rintro e w1 ⟨rfl, hb⟩
  clear a0 a1 a2 a3 a4 b0 b1 b2 b3 b4
  have HP := Lib.hid ((pair_laid W6 t f o i b t' f' o' i' b').kept hb)
  have hbl : Below W6.heap.size W6 w1 := (Below.alloc (Below.refl _ _) (Nat.le_refl _) _).trans (hb.mono (by simp))
  have H8 := Lib.hid (H6.out.kept hbl sz (Nat.le_refl _))
  clear hb hbl H6
  cases hf : fitsB t f o i b t' f' o' i' b' with
  | false =>
    obtain ⟨a0, a1, a2, a3, a4, b0, b1, b2, b3, b4, z0, z1, z2, z3, z4, y0, y1, y2, y3, y4, p0, p1, p2, p3, p4, q0, q1, q2, q3, q4, bel, sz⟩ := H8.out
    have HB := Lib.hid bel
    clear bel
    go_wp2_with fail
    go_region
    obtain ⟨e0, e1, e2, e3, e4, e5, e6, e7, e8, e9⟩ := res_stored (W := w1) (b6 := w.heap.size + 1 + 1) (b7 := w.heap.size + 1 + 1 + 1) (by omega) (.bool t) (.bool f) (.bool o) (.bool i) (.bool b) (.bool t') (.bool f') (.bool o') (.bool i') (.bool b') z0 z1 z2 z3 z4 y0 y1 y2 y3 y4
    have eB := Lib.hid (res_below (b6 := w.heap.size + 1 + 1) (b7 := w.heap.size + 1 + 1 + 1) HB.out (by omega) (by omega) (.bool t) (.bool f) (.bool o) (.bool i) (.bool b) (.bool t') (.bool f') (.bool o') (.bool i') (.bool b'))
    clear a0 a1 a2 a3 a4 b0 b1 b2 b3 b4 z0 z1 z2 z3 z4 y0 y1 y2 y3 y4 p0 p1 p2 p3 p4 q0 q1 q2 q3 q4 HB
    generalize ((((((((((w1.setCell ⟨w.heap.size + 1 + 1, 0, none⟩ (.bool t)).setCell ⟨w.heap.size + 1 + 1, 1, none⟩ (.bool f)).setCell ⟨w.heap.size + 1 + 1, 2, none⟩ (.bool o)).setCell ⟨w.heap.size + 1 + 1, 3, none⟩ (.bool i)).setCell ⟨w.heap.size + 1 + 1, 4, none⟩ (.bool b)).setCell ⟨w.heap.size + 1 + 1 + 1, 0, none⟩ (.bool t')).setCell ⟨w.heap.size + 1 + 1 + 1, 1, none⟩ (.bool f')).setCell ⟨w.heap.size + 1 + 1 + 1, 2, none⟩ (.bool o')).setCell ⟨w.heap.size + 1 + 1 + 1, 3, none⟩ (.bool i')).setCell ⟨w.heap.size + 1 + 1 + 1, 4, none⟩ (.bool b')) = WF at e0 e1 e2 e3 e4 e5 e6 e7 e8 e9 eB ⊢
    go_wp2_with fail
    refine bodyPost_ret (v := .tuple #[.agg #[.bool t, .bool f, .bool o, .bool i, .bool b], .agg #[.bool t', .bool f', .bool o', .bool i', .bool b'], .int .i64 1]) (by simp [results, Try.results17, go_sem, e0, e1, e2, e3, e4, e5, e6, e7, e8, e9]) rfl ⟨⟨t, f, o, i, b⟩, ⟨t', f', o', i', b'⟩, 1, by subst hk; simp [act, fitsI, hf], rfl, ?_⟩
    exact Below.drew eB.out
  | true =>
    obtain ⟨a0, a1, a2, a3, a4, b0, b1, b2, b3, b4, z0, z1, z2, z3, z4, y0, y1, y2, y3, y4, p0, p1, p2, p3, p4, q0, q1, q2, q3, q4, bel, _sz⟩ := H8.out
    obtain ⟨d0, d1, d2, d3, d4, d5, d6, d7, d8, d9, fr, lt⟩ := HP.out
    simp only at d0 d1 d2 d3 d4 d5 d6 d7 d8 d9
    clear fr bel
    go_wp2_with fail
    refine (unsubscribed_any HP.out).mono ?_
    rintro e w2 ⟨x, y, c, hdo, rfl, hb2, hp2⟩
    have HD := Lib.hid hdo
    have HP2 := Lib.hid hp2
    have H9 := Lib.hid (H8.out.kept hb2 sz3' (Nat.le_of_lt lt))
    clear hb2 hp2 hdo HP a0 a1 a2 a3 a4 b0 b1 b2 b3 b4 z0 z1 z2 z3 z4 y0 y1 y2 y3 y4 p0 p1 p2 p3 p4 q0 q1 q2 q3 q4 d0 d1 d2 d3 d4 d5 d6 d7 d8 d9 sz lt
    obtain ⟨a0, a1, a2, a3, a4, b0, b1, b2, b3, b4, z0, z1, z2, z3, z4, y0, y1, y2, y3, y4, p0, p1, p2, p3, p4, q0, q1, q2, q3, q4, bel, sz⟩ := H9.out
    have HB := Lib.hid bel
    clear bel
    by_cases hc : c = 0
    · subst hc
      obtain ⟨xt, xf, xo, xi, xb⟩ := x
      obtain ⟨yt, yf, yo, yi, yb⟩ := y
      obtain ⟨d0, d1, d2, d3, d4, d5, d6, d7, d8, d9, fr, lt⟩ := HP2.out
      simp only at d0 d1 d2 d3 d4 d5 d6 d7 d8 d9
      clear fr
      go_wp2_with fail
      go_region
      obtain ⟨e0, e1, e2, e3, e4, e5, e6, e7, e8, e9⟩ := res_stored (W := w2) (b6 := w.heap.size + 1 + 1) (b7 := w.heap.size + 1 + 1 + 1) (by omega) (.bool xt) (.bool xf) (.bool xo) (.bool xi) (.bool xb) (.bool yt) (.bool yf) (.bool yo) (.bool yi) (.bool yb) z0 z1 z2 z3 z4 y0 y1 y2 y3 y4
      have eB := Lib.hid (res_below (b6 := w.heap.size + 1 + 1) (b7 := w.heap.size + 1 + 1 + 1) HB.out (by omega) (by omega) (.bool xt) (.bool xf) (.bool xo) (.bool xi) (.bool xb) (.bool yt) (.bool yf) (.bool yo) (.bool yi) (.bool yb))
      clear a0 a1 a2 a3 a4 b0 b1 b2 b3 b4 z0 z1 z2 z3 z4 y0 y1 y2 y3 y4 p0 p1 p2 p3 p4 q0 q1 q2 q3 q4 d0 d1 d2 d3 d4 d5 d6 d7 d8 d9 HB
      generalize ((((((((((w2.setCell ⟨w.heap.size + 1 + 1, 0, none⟩ (.bool xt)).setCell ⟨w.heap.size + 1 + 1, 1, none⟩ (.bool xf)).setCell ⟨w.heap.size + 1 + 1, 2, none⟩ (.bool xo)).setCell ⟨w.heap.size + 1 + 1, 3, none⟩ (.bool xi)).setCell ⟨w.heap.size + 1 + 1, 4, none⟩ (.bool xb)).setCell ⟨w.heap.size + 1 + 1 + 1, 0, none⟩ (.bool yt)).setCell ⟨w.heap.size + 1 + 1 + 1, 1, none⟩ (.bool yf)).setCell ⟨w.heap.size + 1 + 1 + 1, 2, none⟩ (.bool yo)).setCell ⟨w.heap.size + 1 + 1 + 1, 3, none⟩ (.bool yi)).setCell ⟨w.heap.size + 1 + 1 + 1, 4, none⟩ (.bool yb)) = WF at e0 e1 e2 e3 e4 e5 e6 e7 e8 e9 eB ⊢
      go_wp2_with fail
      refine bodyPost_ret (v := .tuple #[.agg #[.bool xt, .bool xf, .bool xo, .bool xi, .bool xb], .agg #[.bool yt, .bool yf, .bool yo, .bool yi, .bool yb], .int .i64 0]) (by simp [results, Try.results17, go_sem, e0, e1, e2, e3, e4, e5, e6, e7, e8, e9]) rfl ⟨⟨xt, xf, xo, xi, xb⟩, ⟨yt, yf, yo, yi, yb⟩, 0, by subst hk; simp [act, fitsI, hf, HD.out], rfl, ?_⟩
      exact Below.drew eB.out
    · have hcb : (c != 0) = true := by simpa using hc
      go_wp2_with fail
      go_region
      obtain ⟨e0, e1, e2, e3, e4, e5, e6, e7, e8, e9⟩ := res_stored (W := w2) (b6 := w.heap.size + 1 + 1) (b7 := w.heap.size + 1 + 1 + 1) (by omega) (.bool t) (.bool f) (.bool o) (.bool i) (.bool b) (.bool t') (.bool f') (.bool o') (.bool i') (.bool b') z0 z1 z2 z3 z4 y0 y1 y2 y3 y4
      have eB := Lib.hid (res_below (b6 := w.heap.size + 1 + 1) (b7 := w.heap.size + 1 + 1 + 1) HB.out (by omega) (by omega) (.bool t) (.bool f) (.bool o) (.bool i) (.bool b) (.bool t') (.bool f') (.bool o') (.bool i') (.bool b'))
      clear a0 a1 a2 a3 a4 b0 b1 b2 b3 b4 z0 z1 z2 z3 z4 y0 y1 y2 y3 y4 p0 p1 p2 p3 p4 q0 q1 q2 q3 q4 HB
      generalize ((((((((((w2.setCell ⟨w.heap.size + 1 + 1, 0, none⟩ (.bool t)).setCell ⟨w.heap.size + 1 + 1, 1, none⟩ (.bool f)).setCell ⟨w.heap.size + 1 + 1, 2, none⟩ (.bool o)).setCell ⟨w.heap.size + 1 + 1, 3, none⟩ (.bool i)).setCell ⟨w.heap.size + 1 + 1, 4, none⟩ (.bool b)).setCell ⟨w.heap.size + 1 + 1 + 1, 0, none⟩ (.bool t')).setCell ⟨w.heap.size + 1 + 1 + 1, 1, none⟩ (.bool f')).setCell ⟨w.heap.size + 1 + 1 + 1, 2, none⟩ (.bool o')).setCell ⟨w.heap.size + 1 + 1 + 1, 3, none⟩ (.bool i')).setCell ⟨w.heap.size + 1 + 1 + 1, 4, none⟩ (.bool b')) = WF at e0 e1 e2 e3 e4 e5 e6 e7 e8 e9 eB ⊢
      go_wp2_with fail
      refine bodyPost_ret (v := .tuple #[.agg #[.bool t, .bool f, .bool o, .bool i, .bool b], .agg #[.bool t', .bool f', .bool o', .bool i', .bool b'], .int .i64 c]) (by simp [results, Try.results17, go_sem, e0, e1, e2, e3, e4, e5, e6, e7, e8, e9]) rfl ⟨⟨t, f, o, i, b⟩, ⟨t', f', o', i', b'⟩, c, by subst hk; simp [act, fitsI, hf, HD.out, hc], rfl, ?_⟩
      exact Below.drew eB.out

set_option maxRecDepth 100000 in
set_option maxHeartbeats 8000000 in
theorem act5 (k : Int) (hk : k = 5) (t f o i b t' f' o' i' b' : Bool) (w : World) :
    Calls Try.prog 17 #[.agg #[.bool t, .bool f, .bool o, .bool i, .bool b], .agg #[.bool t', .bool f', .bool o', .bool i', .bool b'], .int .i64 5] w fun e w' => ∃ (x y : It) (c : Int), act ⟨t, f, o, i, b⟩ ⟨t', f', o', i', b'⟩ k = (x, y, c) ∧ e = .returned (.tuple #[.agg #[.bool x.t, .bool x.f, .bool x.o, .bool x.i, .bool x.b], .agg #[.bool y.t, .bool y.f, .bool y.o, .bool y.i, .bool y.b], .int .i64 c]) ∧ Below w.heap.size w w' := by
  obtain ⟨W, hW⟩ : ∃ W, W = ((((w.alloc (.cells #[.bool t, .bool f, .bool o, .bool i, .bool b] 23)).alloc (.cells #[.bool t', .bool f', .bool o', .bool i', .bool b'] 23)).alloc (.cells #[.bool false, .bool false, .bool false, .bool false, .bool false] 23)).alloc (.cells #[.bool false, .bool false, .bool false, .bool false, .bool false] 23)).alloc (.map #[] 0) := ⟨_, rfl⟩
  have hmm := @run_makeMap Try.prog
  have own0 : W.ownsMap Try.prog 3 RF (w.heap.size + 4) 0 (.map []) := by
    have := World.ownsMap_made (((((w.alloc (.cells #[.bool t, .bool f, .bool o, .bool i, .bool b] 23)).alloc (.cells #[.bool t', .bool f', .bool o', .bool i', .bool b'] 23)).alloc (.cells #[.bool false, .bool false, .bool false, .bool false, .bool false] 23)).alloc (.cells #[.bool false, .bool false, .bool false, .bool false, .bool false] 23))) Try.prog 3 RF
    rw [← hW] at this
    simpa using this
  have H0 : AB t f o i b t' f' o' i' b' w W := by rw [hW]; exact ab_start _ _ _ _ _ _ _ _ _ _ _
  obtain ⟨W1, W2, W3, W4, W5, W6, r1, r2, r3, r4, r5, r6, h6, g6⟩ := kinds_made _ _ own0
  have hl := kind_hit h6 5 25 (by decide) hit5.1 hit5.2
  have H6 := Lib.hid (H0.grown g6)
  rw [hW] at r1
  clear hW H0 h6 g6 own0
  obtain ⟨a0, a1, a2, a3, a4, b0, b1, b2, b3, b4, z0, z1, z2, z3, z4, y0, y1, y2, y3, y4, p0, p1, p2, p3, p4, q0, q1, q2, q3, q4, bel, sz⟩ := H6.out
  have sz1 : w.heap.size + 1 < W6.heap.size := by omega
  have sz2 : w.heap.size + 2 < W6.heap.size := by omega
  have sz3 : w.heap.size < W6.heap.size := by omega
  have sz3' : w.heap.size + 3 < W6.heap.size := sz
  clear bel z0 z1 z2 z3 z4 y0 y1 y2 y3 y4 p0 p1 p2 p3 p4 q0 q1 q2 q3 q4
  go_enter Try.func17, Try.ntmps17
  go_wp2_with fail
  refine (fits_any _ _ _ _ _ _ _ _ _ _ _).mono ?_
  rintro e w1 ⟨rfl, hb⟩
  clear a0 a1 a2 a3 a4 b0 b1 b2 b3 b4
  have HP := Lib.hid ((pair_laid W6 t f o i b t' f' o' i' b').kept hb)
  have hbl : Below W6.heap.size W6 w1 := (Below.alloc (Below.refl _ _) (Nat.le_refl _) _).trans (hb.mono (by simp))
  have H8 := Lib.hid (H6.out.kept hbl sz (Nat.le_refl _))
  clear hb hbl H6
  cases hf : fitsB t f o i b t' f' o' i' b' with
  | false =>
    obtain ⟨a0, a1, a2, a3, a4, b0, b1, b2, b3, b4, z0, z1, z2, z3, z4, y0, y1, y2, y3, y4, p0, p1, p2, p3, p4, q0, q1, q2, q3, q4, bel, sz⟩ := H8.out
    have HB := Lib.hid bel
    clear bel
    go_wp2_with fail
    go_region
    obtain ⟨e0, e1, e2, e3, e4, e5, e6, e7, e8, e9⟩ := res_stored (W := w1) (b6 := w.heap.size + 1 + 1) (b7 := w.heap.size + 1 + 1 + 1) (by omega) (.bool t) (.bool f) (.bool o) (.bool i) (.bool b) (.bool t') (.bool f') (.bool o') (.bool i') (.bool b') z0 z1 z2 z3 z4 y0 y1 y2 y3 y4
    have eB := Lib.hid (res_below (b6 := w.heap.size + 1 + 1) (b7 := w.heap.size + 1 + 1 + 1) HB.out (by omega) (by omega) (.bool t) (.bool f) (.bool o) (.bool i) (.bool b) (.bool t') (.bool f') (.bool o') (.bool i') (.bool b'))
    clear a0 a1 a2 a3 a4 b0 b1 b2 b3 b4 z0 z1 z2 z3 z4 y0 y1 y2 y3 y4 p0 p1 p2 p3 p4 q0 q1 q2 q3 q4 HB
    generalize ((((((((((w1.setCell ⟨w.heap.size + 1 + 1, 0, none⟩ (.bool t)).setCell ⟨w.heap.size + 1 + 1, 1, none⟩ (.bool f)).setCell ⟨w.heap.size + 1 + 1, 2, none⟩ (.bool o)).setCell ⟨w.heap.size + 1 + 1, 3, none⟩ (.bool i)).setCell ⟨w.heap.size + 1 + 1, 4, none⟩ (.bool b)).setCell ⟨w.heap.size + 1 + 1 + 1, 0, none⟩ (.bool t')).setCell ⟨w.heap.size + 1 + 1 + 1, 1, none⟩ (.bool f')).setCell ⟨w.heap.size + 1 + 1 + 1, 2, none⟩ (.bool o')).setCell ⟨w.heap.size + 1 + 1 + 1, 3, none⟩ (.bool i')).setCell ⟨w.heap.size + 1 + 1 + 1, 4, none⟩ (.bool b')) = WF at e0 e1 e2 e3 e4 e5 e6 e7 e8 e9 eB ⊢
    go_wp2_with fail
    refine bodyPost_ret (v := .tuple #[.agg #[.bool t, .bool f, .bool o, .bool i, .bool b], .agg #[.bool t', .bool f', .bool o', .bool i', .bool b'], .int .i64 1]) (by simp [results, Try.results17, go_sem, e0, e1, e2, e3, e4, e5, e6, e7, e8, e9]) rfl ⟨⟨t, f, o, i, b⟩, ⟨t', f', o', i', b'⟩, 1, by subst hk; simp [act, fitsI, hf], rfl, ?_⟩
    exact Below.drew eB.out
  | true =>
    obtain ⟨a0, a1, a2, a3, a4, b0, b1, b2, b3, b4, z0, z1, z2, z3, z4, y0, y1, y2, y3, y4, p0, p1, p2, p3, p4, q0, q1, q2, q3, q4, bel, _sz⟩ := H8.out
    obtain ⟨d0, d1, d2, d3, d4, d5, d6, d7, d8, d9, fr, lt⟩ := HP.out
    simp only at d0 d1 d2 d3 d4 d5 d6 d7 d8 d9
    clear fr bel
    go_wp2_with fail
    refine (block_any HP.out).mono ?_
    rintro e w2 ⟨x, y, c, hdo, rfl, hb2, hp2⟩
    have HD := Lib.hid hdo
    have HP2 := Lib.hid hp2
    have H9 := Lib.hid (H8.out.kept hb2 sz3' (Nat.le_of_lt lt))
    clear hb2 hp2 hdo HP a0 a1 a2 a3 a4 b0 b1 b2 b3 b4 z0 z1 z2 z3 z4 y0 y1 y2 y3 y4 p0 p1 p2 p3 p4 q0 q1 q2 q3 q4 d0 d1 d2 d3 d4 d5 d6 d7 d8 d9 sz lt
    obtain ⟨a0, a1, a2, a3, a4, b0, b1, b2, b3, b4, z0, z1, z2, z3, z4, y0, y1, y2, y3, y4, p0, p1, p2, p3, p4, q0, q1, q2, q3, q4, bel, sz⟩ := H9.out
    have HB := Lib.hid bel
    clear bel
    by_cases hc : c = 0
    · subst hc
      obtain ⟨xt, xf, xo, xi, xb⟩ := x
      obtain ⟨yt, yf, yo, yi, yb⟩ := y
      obtain ⟨d0, d1, d2, d3, d4, d5, d6, d7, d8, d9, fr, lt⟩ := HP2.out
      simp only at d0 d1 d2 d3 d4 d5 d6 d7 d8 d9
      clear fr
      go_wp2_with fail
      go_region
      obtain ⟨e0, e1, e2, e3, e4, e5, e6, e7, e8, e9⟩ := res_stored (W := w2) (b6 := w.heap.size + 1 + 1) (b7 := w.heap.size + 1 + 1 + 1) (by omega) (.bool xt) (.bool xf) (.bool xo) (.bool xi) (.bool xb) (.bool yt) (.bool yf) (.bool yo) (.bool yi) (.bool yb) z0 z1 z2 z3 z4 y0 y1 y2 y3 y4
      have eB := Lib.hid (res_below (b6 := w.heap.size + 1 + 1) (b7 := w.heap.size + 1 + 1 + 1) HB.out (by omega) (by omega) (.bool xt) (.bool xf) (.bool xo) (.bool xi) (.bool xb) (.bool yt) (.bool yf) (.bool yo) (.bool yi) (.bool yb))
      clear a0 a1 a2 a3 a4 b0 b1 b2 b3 b4 z0 z1 z2 z3 z4 y0 y1 y2 y3 y4 p0 p1 p2 p3 p4 q0 q1 q2 q3 q4 d0 d1 d2 d3 d4 d5 d6 d7 d8 d9 HB
      generalize ((((((((((w2.setCell ⟨w.heap.size + 1 + 1, 0, none⟩ (.bool xt)).setCell ⟨w.heap.size + 1 + 1, 1, none⟩ (.bool xf)).setCell ⟨w.heap.size + 1 + 1, 2, none⟩ (.bool xo)).setCell ⟨w.heap.size + 1 + 1, 3, none⟩ (.bool xi)).setCell ⟨w.heap.size + 1 + 1, 4, none⟩ (.bool xb)).setCell ⟨w.heap.size + 1 + 1 + 1, 0, none⟩ (.bool yt)).setCell ⟨w.heap.size + 1 + 1 + 1, 1, none⟩ (.bool yf)).setCell ⟨w.heap.size + 1 + 1 + 1, 2, none⟩ (.bool yo)).setCell ⟨w.heap.size + 1 + 1 + 1, 3, none⟩ (.bool yi)).setCell ⟨w.heap.size + 1 + 1 + 1, 4, none⟩ (.bool yb)) = WF at e0 e1 e2 e3 e4 e5 e6 e7 e8 e9 eB ⊢
      go_wp2_with fail
      refine bodyPost_ret (v := .tuple #[.agg #[.bool xt, .bool xf, .bool xo, .bool xi, .bool xb], .agg #[.bool yt, .bool yf, .bool yo, .bool yi, .bool yb], .int .i64 0]) (by simp [results, Try.results17, go_sem, e0, e1, e2, e3, e4, e5, e6, e7, e8, e9]) rfl ⟨⟨xt, xf, xo, xi, xb⟩, ⟨yt, yf, yo, yi, yb⟩, 0, by subst hk; simp [act, fitsI, hf, HD.out], rfl, ?_⟩
      exact Below.drew eB.out
    · have hcb : (c != 0) = true := by simpa using hc
      go_wp2_with fail
      go_region
      obtain ⟨e0, e1, e2, e3, e4, e5, e6, e7, e8, e9⟩ := res_stored (W := w2) (b6 := w.heap.size + 1 + 1) (b7 := w.heap.size + 1 + 1 + 1) (by omega) (.bool t) (.bool f) (.bool o) (.bool i) (.bool b) (.bool t') (.bool f') (.bool o') (.bool i') (.bool b') z0 z1 z2 z3 z4 y0 y1 y2 y3 y4
      have eB := Lib.hid (res_below (b6 := w.heap.size + 1 + 1) (b7 := w.heap.size + 1 + 1 + 1) HB.out (by omega) (by omega) (.bool t) (.bool f) (.bool o) (.bool i) (.bool b) (.bool t') (.bool f') (.bool o') (.bool i') (.bool b'))
      clear a0 a1 a2 a3 a4 b0 b1 b2 b3 b4 z0 z1 z2 z3 z4 y0 y1 y2 y3 y4 p0 p1 p2 p3 p4 q0 q1 q2 q3 q4 HB
      generalize ((((((((((w2.setCell ⟨w.heap.size + 1 + 1, 0, none⟩ (.bool t)).setCell ⟨w.heap.size + 1 + 1, 1, none⟩ (.bool f)).setCell ⟨w.heap.size + 1 + 1, 2, none⟩ (.bool o)).setCell ⟨w.heap.size + 1 + 1, 3, none⟩ (.bool i)).setCell ⟨w.heap.size + 1 + 1, 4, none⟩ (.bool b)).setCell ⟨w.heap.size + 1 + 1 + 1, 0, none⟩ (.bool t')).setCell ⟨w.heap.size + 1 + 1 + 1, 1, none⟩ (.bool f')).setCell ⟨w.heap.size + 1 + 1 + 1, 2, none⟩ (.bool o')).setCell ⟨w.heap.size + 1 + 1 + 1, 3, none⟩ (.bool i')).setCell ⟨w.heap.size + 1 + 1 + 1, 4, none⟩ (.bool b')) = WF at e0 e1 e2 e3 e4 e5 e6 e7 e8 e9 eB ⊢
      go_wp2_with fail
      refine bodyPost_ret (v := .tuple #[.agg #[.bool t, .bool f, .bool o, .bool i, .bool b], .agg #[.bool t', .bool f', .bool o', .bool i', .bool b'], .int .i64 c]) (by simp [results, Try.results17, go_sem, e0, e1, e2, e3, e4, e5, e6, e7, e8, e9]) rfl ⟨⟨t, f, o, i, b⟩, ⟨t', f', o', i', b'⟩, c, by subst hk; simp [act, fitsI, hf, HD.out, hc], rfl, ?_⟩
      exact Below.drew eB.out

set_option maxRecDepth 100000 in
set_option maxHeartbeats 8000000 in
theorem act6 (k : Int) (hk : k = 6) (t f o i b t' f' o' i' b' : Bool) (w : World) :
    Calls Try.prog 17 #[.agg #[.bool t, .bool f, .bool o, .bool i, .bool b], .agg #[.bool t', .bool f', .bool o', .bool i', .bool b'], .int .i64 6] w fun e w' => ∃ (x y : It) (c : Int), act ⟨t, f, o, i, b⟩ ⟨t', f', o', i', b'⟩ k = (x, y, c) ∧ e = .returned (.tuple #[.agg #[.bool x.t, .bool x.f, .bool x.o, .bool x.i, .bool x.b], .agg #[.bool y.t, .bool y.f, .bool y.o, .bool y.i, .bool y.b], .int .i64 c]) ∧ Below w.heap.size w w' := by
  obtain ⟨W, hW⟩ : ∃ W, W = ((((w.alloc (.cells #[.bool t, .bool f, .bool o, .bool i, .bool b] 23)).alloc (.cells #[.bool t', .bool f', .bool o', .bool i', .bool b'] 23)).alloc (.cells #[.bool false, .bool false, .bool false, .bool false, .bool false] 23)).alloc (.cells #[.bool false, .bool false, .bool false, .bool false, .bool false] 23)).alloc (.map #[] 0) := ⟨_, rfl⟩
  have hmm := @run_makeMap Try.prog
  have own0 : W.ownsMap Try.prog 3 RF (w.heap.size + 4) 0 (.map []) := by
    have := World.ownsMap_made (((((w.alloc (.cells #[.bool t, .bool f, .bool o, .bool i, .bool b] 23)).alloc (.cells #[.bool t', .bool f', .bool o', .bool i', .bool b'] 23)).alloc (.cells #[.bool false, .bool false, .bool false, .bool false, .bool false] 23)).alloc (.cells #[.bool false, .bool false, .bool false, .bool false, .bool false] 23))) Try.prog 3 RF
    rw [← hW] at this
    simpa using this
  have H0 : AB t f o i b t' f' o' i' b' w W := by rw [hW]; exact ab_start _ _ _ _ _ _ _ _ _ _ _
  obtain ⟨W1, W2, W3, W4, W5, W6, r1, r2, r3, r4, r5, r6, h6, g6⟩ := kinds_made _ _ own0
  have hl := kind_hit h6 6 26 (by decide) hit6.1 hit6.2
  have H6 := Lib.hid (H0.grown g6)
  rw [hW] at r1
  clear hW H0 h6 g6 own0
  obtain ⟨a0, a1, a2, a3, a4, b0, b1, b2, b3, b4, z0, z1, z2, z3, z4, y0, y1, y2, y3, y4, p0, p1, p2, p3, p4, q0, q1, q2, q3, q4, bel, sz⟩ := H6.out
  have sz1 : w.heap.size + 1 < W6.heap.size := by omega
  have sz2 : w.heap.size + 2 < W6.heap.size := by omega
  have sz3 : w.heap.size < W6.heap.size := by omega
  have sz3' : w.heap.size + 3 < W6.heap.size := sz
  clear bel z0 z1 z2 z3 z4 y0 y1 y2 y3 y4 p0 p1 p2 p3 p4 q0 q1 q2 q3 q4
  go_enter Try.func17, Try.ntmps17
  go_wp2_with fail
  refine (fits_any _ _ _ _ _ _ _ _ _ _ _).mono ?_
  rintro e w1 ⟨rfl, hb⟩
  clear a0 a1 a2 a3 a4 b0 b1 b2 b3 b4
  have HP := Lib.hid ((pair_laid W6 t f o i b t' f' o' i' b').kept hb)
  have hbl : Below W6.heap.size W6 w1 := (Below.alloc (Below.refl _ _) (Nat.le_refl _) _).trans (hb.mono (by simp))
  have H8 := Lib.hid (H6.out.kept hbl sz (Nat.le_refl _))
  clear hb hbl H6
  cases hf : fitsB t f o i b t' f' o' i' b' with
  | false =>
    obtain ⟨a0, a1, a2, a3, a4, b0, b1, b2, b3, b4, z0, z1, z2, z3, z4, y0, y1, y2, y3, y4, p0, p1, p2, p3, p4, q0, q1, q2, q3, q4, bel, sz⟩ := H8.out
    have HB := Lib.hid bel
    clear bel
    go_wp2_with fail
    go_region
    obtain ⟨e0, e1, e2, e3, e4, e5, e6, e7, e8, e9⟩ := res_stored (W := w1) (b6 := w.heap.size + 1 + 1) (b7 := w.heap.size + 1 + 1 + 1) (by omega) (.bool t) (.bool f) (.bool o) (.bool i) (.bool b) (.bool t') (.bool f') (.bool o') (.bool i') (.bool b') z0 z1 z2 z3 z4 y0 y1 y2 y3 y4
    have eB := Lib.hid (res_below (b6 := w.heap.size + 1 + 1) (b7 := w.heap.size + 1 + 1 + 1) HB.out (by omega) (by omega) (.bool t) (.bool f) (.bool o) (.bool i) (.bool b) (.bool t') (.bool f') (.bool o') (.bool i') (.bool b'))
    clear a0 a1 a2 a3 a4 b0 b1 b2 b3 b4 z0 z1 z2 z3 z4 y0 y1 y2 y3 y4 p0 p1 p2 p3 p4 q0 q1 q2 q3 q4 HB
    generalize ((((((((((w1.setCell ⟨w.heap.size + 1 + 1, 0, none⟩ (.bool t)).setCell ⟨w.heap.size + 1 + 1, 1, none⟩ (.bool f)).setCell ⟨w.heap.size + 1 + 1, 2, none⟩ (.bool o)).setCell ⟨w.heap.size + 1 + 1, 3, none⟩ (.bool i)).setCell ⟨w.heap.size + 1 + 1, 4, none⟩ (.bool b)).setCell ⟨w.heap.size + 1 + 1 + 1, 0, none⟩ (.bool t')).setCell ⟨w.heap.size + 1 + 1 + 1, 1, none⟩ (.bool f')).setCell ⟨w.heap.size + 1 + 1 + 1, 2, none⟩ (.bool o')).setCell ⟨w.heap.size + 1 + 1 + 1, 3, none⟩ (.bool i')).setCell ⟨w.heap.size + 1 + 1 + 1, 4, none⟩ (.bool b')) = WF at e0 e1 e2 e3 e4 e5 e6 e7 e8 e9 eB ⊢
    go_wp2_with fail
    refine bodyPost_ret (v := .tuple #[.agg #[.bool t, .bool f, .bool o, .bool i, .bool b], .agg #[.bool t', .bool f', .bool o', .bool i', .bool b'], .int .i64 1]) (by simp [results, Try.results17, go_sem, e0, e1, e2, e3, e4, e5, e6, e7, e8, e9]) rfl ⟨⟨t, f, o, i, b⟩, ⟨t', f', o', i', b'⟩, 1, by subst hk; simp [act, fitsI, hf], rfl, ?_⟩
    exact Below.drew eB.out
  | true =>
    obtain ⟨a0, a1, a2, a3, a4, b0, b1, b2, b3, b4, z0, z1, z2, z3, z4, y0, y1, y2, y3, y4, p0, p1, p2, p3, p4, q0, q1, q2, q3, q4, bel, _sz⟩ := H8.out
    obtain ⟨d0, d1, d2, d3, d4, d5, d6, d7, d8, d9, fr, lt⟩ := HP.out
    simp only at d0 d1 d2 d3 d4 d5 d6 d7 d8 d9
    clear fr bel
    go_wp2_with fail
    refine (unblock_any HP.out).mono ?_
    rintro e w2 ⟨x, y, c, hdo, rfl, hb2, hp2⟩
    have HD := Lib.hid hdo
    have HP2 := Lib.hid hp2
    have H9 := Lib.hid (H8.out.kept hb2 sz3' (Nat.le_of_lt lt))
    clear hb2 hp2 hdo HP a0 a1 a2 a3 a4 b0 b1 b2 b3 b4 z0 z1 z2 z3 z4 y0 y1 y2 y3 y4 p0 p1 p2 p3 p4 q0 q1 q2 q3 q4 d0 d1 d2 d3 d4 d5 d6 d7 d8 d9 sz lt
    obtain ⟨a0, a1, a2, a3, a4, b0, b1, b2, b3, b4, z0, z1, z2, z3, z4, y0, y1, y2, y3, y4, p0, p1, p2, p3, p4, q0, q1, q2, q3, q4, bel, sz⟩ := H9.out
    have HB := Lib.hid bel
    clear bel
    by_cases hc : c = 0
    · subst hc
      obtain ⟨xt, xf, xo, xi, xb⟩ := x
      obtain ⟨yt, yf, yo, yi, yb⟩ := y
      obtain ⟨d0, d1, d2, d3, d4, d5, d6, d7, d8, d9, fr, lt⟩ := HP2.out
      simp only at d0 d1 d2 d3 d4 d5 d6 d7 d8 d9
      clear fr
      go_wp2_with fail
      go_region
      obtain ⟨e0, e1, e2, e3, e4, e5, e6, e7, e8, e9⟩ := res_stored (W := w2) (b6 := w.heap.size + 1 + 1) (b7 := w.heap.size + 1 + 1 + 1) (by omega) (.bool xt) (.bool xf) (.bool xo) (.bool xi) (.bool xb) (.bool yt) (.bool yf) (.bool yo) (.bool yi) (.bool yb) z0 z1 z2 z3 z4 y0 y1 y2 y3 y4
      have eB := Lib.hid (res_below (b6 := w.heap.size + 1 + 1) (b7 := w.heap.size + 1 + 1 + 1) HB.out (by omega) (by omega) (.bool xt) (.bool xf) (.bool xo) (.bool xi) (.bool xb) (.bool yt) (.bool yf) (.bool yo) (.bool yi) (.bool yb))
      clear a0 a1 a2 a3 a4 b0 b1 b2 b3 b4 z0 z1 z2 z3 z4 y0 y1 y2 y3 y4 p0 p1 p2 p3 p4 q0 q1 q2 q3 q4 d0 d1 d2 d3 d4 d5 d6 d7 d8 d9 HB
      generalize ((((((((((w2.setCell ⟨w.heap.size + 1 + 1, 0, none⟩ (.bool xt)).setCell ⟨w.heap.size + 1 + 1, 1, none⟩ (.bool xf)).setCell ⟨w.heap.size + 1 + 1, 2, none⟩ (.bool xo)).setCell ⟨w.heap.size + 1 + 1, 3, none⟩ (.bool xi)).setCell ⟨w.heap.size + 1 + 1, 4, none⟩ (.bool xb)).setCell ⟨w.heap.size + 1 + 1 + 1, 0, none⟩ (.bool yt)).setCell ⟨w.heap.size + 1 + 1 + 1, 1, none⟩ (.bool yf)).setCell ⟨w.heap.size + 1 + 1 + 1, 2, none⟩ (.bool yo)).setCell ⟨w.heap.size + 1 + 1 + 1, 3, none⟩ (.bool yi)).setCell ⟨w.heap.size + 1 + 1 + 1, 4, none⟩ (.bool yb)) = WF at e0 e1 e2 e3 e4 e5 e6 e7 e8 e9 eB ⊢
      go_wp2_with fail
      refine bodyPost_ret (v := .tuple #[.agg #[.bool xt, .bool xf, .bool xo, .bool xi, .bool xb], .agg #[.bool yt, .bool yf, .bool yo, .bool yi, .bool yb], .int .i64 0]) (by simp [results, Try.results17, go_sem, e0, e1, e2, e3, e4, e5, e6, e7, e8, e9]) rfl ⟨⟨xt, xf, xo, xi, xb⟩, ⟨yt, yf, yo, yi, yb⟩, 0, by subst hk; simp [act, fitsI, hf, HD.out], rfl, ?_⟩
      exact Below.drew eB.out
    · have hcb : (c != 0) = true := by simpa using hc
      go_wp2_with fail
      go_region
      obtain ⟨e0, e1, e2, e3, e4, e5, e6, e7, e8, e9⟩ := res_stored (W := w2) (b6 := w.heap.size + 1 + 1) (b7 := w.heap.size + 1 + 1 + 1) (by omega) (.bool t) (.bool f) (.bool o) (.bool i) (.bool b) (.bool t') (.bool f') (.bool o') (.bool i') (.bool b') z0 z1 z2 z3 z4 y0 y1 y2 y3 y4
      have eB := Lib.hid (res_below (b6 := w.heap.size + 1 + 1) (b7 := w.heap.size + 1 + 1 + 1) HB.out (by omega) (by omega) (.bool t) (.bool f) (.bool o) (.bool i) (.bool b) (.bool t') (.bool f') (.bool o') (.bool i') (.bool b'))
      clear a0 a1 a2 a3 a4 b0 b1 b2 b3 b4 z0 z1 z2 z3 z4 y0 y1 y2 y3 y4 p0 p1 p2 p3 p4 q0 q1 q2 q3 q4 HB
      generalize ((((((((((w2.setCell ⟨w.heap.size + 1 + 1, 0, none⟩ (.bool t)).setCell ⟨w.heap.size + 1 + 1, 1, none⟩ (.bool f)).setCell ⟨w.heap.size + 1 + 1, 2, none⟩ (.bool o)).setCell ⟨w.heap.size + 1 + 1, 3, none⟩ (.bool i)).setCell ⟨w.heap.size + 1 + 1, 4, none⟩ (.bool b)).setCell ⟨w.heap.size + 1 + 1 + 1, 0, none⟩ (.bool t')).setCell ⟨w.heap.size + 1 + 1 + 1, 1, none⟩ (.bool f')).setCell ⟨w.heap.size + 1 + 1 + 1, 2, none⟩ (.bool o')).setCell ⟨w.heap.size + 1 + 1 + 1, 3, none⟩ (.bool i')).setCell ⟨w.heap.size + 1 + 1 + 1, 4, none⟩ (.bool b')) = WF at e0 e1 e2 e3 e4 e5 e6 e7 e8 e9 eB ⊢
      go_wp2_with fail
      refine bodyPost_ret (v := .tuple #[.agg #[.bool t, .bool f, .bool o, .bool i, .bool b], .agg #[.bool t', .bool f', .bool o', .bool i', .bool b'], .int .i64 c]) (by simp [results, Try.results17, go_sem, e0, e1, e2, e3, e4, e5, e6, e7, e8, e9]) rfl ⟨⟨t, f, o, i, b⟩, ⟨t', f', o', i', b'⟩, c, by subst hk; simp [act, fitsI, hf, HD.out, hc], rfl, ?_⟩
      exact Below.drew eB.out

set_option maxRecDepth 100000 in
set_option maxHeartbeats 8000000 in
theorem act_miss (k : Int) (hk : k < 1 ∨ 6 < k) (hw : (Lit.int .i64 k).wf = true) (t f o i b t' f' o' i' b' : Bool) (w : World) :
    Calls Try.prog 17 #[.agg #[.bool t, .bool f, .bool o, .bool i, .bool b], .agg #[.bool t', .bool f', .bool o', .bool i', .bool b'], .int .i64 k] w fun e w' => ∃ (x y : It) (c : Int), act ⟨t, f, o, i, b⟩ ⟨t', f', o', i', b'⟩ k = (x, y, c) ∧ e = .returned (.tuple #[.agg #[.bool x.t, .bool x.f, .bool x.o, .bool x.i, .bool x.b], .agg #[.bool y.t, .bool y.f, .bool y.o, .bool y.i, .bool y.b], .int .i64 c]) ∧ Below w.heap.size w w' := by
  obtain ⟨W, hW⟩ : ∃ W, W = ((((w.alloc (.cells #[.bool t, .bool f, .bool o, .bool i, .bool b] 23)).alloc (.cells #[.bool t', .bool f', .bool o', .bool i', .bool b'] 23)).alloc (.cells #[.bool false, .bool false, .bool false, .bool false, .bool false] 23)).alloc (.cells #[.bool false, .bool false, .bool false, .bool false, .bool false] 23)).alloc (.map #[] 0) := ⟨_, rfl⟩
  have hmm := @run_makeMap Try.prog
  have own0 : W.ownsMap Try.prog 3 RF (w.heap.size + 4) 0 (.map []) := by
    have := World.ownsMap_made (((((w.alloc (.cells #[.bool t, .bool f, .bool o, .bool i, .bool b] 23)).alloc (.cells #[.bool t', .bool f', .bool o', .bool i', .bool b'] 23)).alloc (.cells #[.bool false, .bool false, .bool false, .bool false, .bool false] 23)).alloc (.cells #[.bool false, .bool false, .bool false, .bool false, .bool false] 23))) Try.prog 3 RF
    rw [← hW] at this
    simpa using this
  have H0 : AB t f o i b t' f' o' i' b' w W := by rw [hW]; exact ab_start _ _ _ _ _ _ _ _ _ _ _
  obtain ⟨W1, W2, W3, W4, W5, W6, r1, r2, r3, r4, r5, r6, h6, g6⟩ := kinds_made _ _ own0
  obtain ⟨v, hl⟩ := kind_miss h6 k hw (missk k hk)
  have H6 := Lib.hid (H0.grown g6)
  rw [hW] at r1
  clear hW H0 h6 g6 own0
  obtain ⟨a0, a1, a2, a3, a4, b0, b1, b2, b3, b4, z0, z1, z2, z3, z4, y0, y1, y2, y3, y4, p0, p1, p2, p3, p4, q0, q1, q2, q3, q4, bel, sz⟩ := H6.out
  have H7 := Lib.hid (H6.out.kept (Below.alloc (Below.refl _ _) (Nat.le_refl _) (.cells #[.bool t, .bool f, .bool o, .bool i, .bool b, .bool t', .bool f', .bool o', .bool i', .bool b'] 39)) sz (Nat.le_refl _))
  have HK := Lib.hid hk
  have sz1 : w.heap.size + 1 < W6.heap.size := by omega
  have sz2 : w.heap.size + 2 < W6.heap.size := by omega
  have sz3 : w.heap.size < W6.heap.size := by omega
  clear bel hk hw
  go_enter Try.func17, Try.ntmps17
  go_wp2_with fail
  clear a0 a1 a2 a3 a4 b0 b1 b2 b3 b4 z0 z1 z2 z3 z4 y0 y1 y2 y3 y4 p0 p1 p2 p3 p4 q0 q1 q2 q3 q4 sz sz1 sz2 sz3
  generalize (W6.alloc (.cells #[.bool t, .bool f, .bool o, .bool i, .bool b, .bool t', .bool f', .bool o', .bool i', .bool b'] 39)) = W7 at H7 ⊢
  obtain ⟨a0, a1, a2, a3, a4, b0, b1, b2, b3, b4, z0, z1, z2, z3, z4, y0, y1, y2, y3, y4, p0, p1, p2, p3, p4, q0, q1, q2, q3, q4, bel, sz⟩ := H7.out
  have HB := Lib.hid bel
  clear bel
  go_region
  obtain ⟨e0, e1, e2, e3, e4, e5, e6, e7, e8, e9⟩ := res_stored (W := W7) (b6 := w.heap.size + 1 + 1) (b7 := w.heap.size + 1 + 1 + 1) (by omega) (.bool t) (.bool f) (.bool o) (.bool i) (.bool b) (.bool t') (.bool f') (.bool o') (.bool i') (.bool b') z0 z1 z2 z3 z4 y0 y1 y2 y3 y4
  have eB := Lib.hid (res_below (b6 := w.heap.size + 1 + 1) (b7 := w.heap.size + 1 + 1 + 1) HB.out (by omega) (by omega) (.bool t) (.bool f) (.bool o) (.bool i) (.bool b) (.bool t') (.bool f') (.bool o') (.bool i') (.bool b'))
  clear a0 a1 a2 a3 a4 b0 b1 b2 b3 b4 z0 z1 z2 z3 z4 y0 y1 y2 y3 y4 p0 p1 p2 p3 p4 q0 q1 q2 q3 q4 sz HB
  generalize ((((((((((W7.setCell ⟨w.heap.size + 1 + 1, 0, none⟩ (.bool t)).setCell ⟨w.heap.size + 1 + 1, 1, none⟩ (.bool f)).setCell ⟨w.heap.size + 1 + 1, 2, none⟩ (.bool o)).setCell ⟨w.heap.size + 1 + 1, 3, none⟩ (.bool i)).setCell ⟨w.heap.size + 1 + 1, 4, none⟩ (.bool b)).setCell ⟨w.heap.size + 1 + 1 + 1, 0, none⟩ (.bool t')).setCell ⟨w.heap.size + 1 + 1 + 1, 1, none⟩ (.bool f')).setCell ⟨w.heap.size + 1 + 1 + 1, 2, none⟩ (.bool o')).setCell ⟨w.heap.size + 1 + 1 + 1, 3, none⟩ (.bool i')).setCell ⟨w.heap.size + 1 + 1 + 1, 4, none⟩ (.bool b')) = WF at e0 e1 e2 e3 e4 e5 e6 e7 e8 e9 eB ⊢
  go_wp2_with fail
  refine bodyPost_ret (v := .tuple #[.agg #[.bool t, .bool f, .bool o, .bool i, .bool b], .agg #[.bool t', .bool f', .bool o', .bool i', .bool b'], .int .i64 1]) (by simp [results, Try.results17, go_sem, e0, e1, e2, e3, e4, e5, e6, e7, e8, e9]) rfl ⟨⟨t, f, o, i, b⟩, ⟨t', f', o', i', b'⟩, 1, by simp [act, HK.out], rfl, ?_⟩
  exact Below.drew eB.out

theorem act_any (k : Int) (hk0 : -9223372036854775808 ≤ k) (hk1 : k ≤ 9223372036854775807) (t f o i b t' f' o' i' b' : Bool) (w : World) :
    Calls Try.prog 17 #[.agg #[.bool t, .bool f, .bool o, .bool i, .bool b], .agg #[.bool t', .bool f', .bool o', .bool i', .bool b'], .int .i64 k] w fun e w' => ∃ (x y : It) (c : Int), act ⟨t, f, o, i, b⟩ ⟨t', f', o', i', b'⟩ k = (x, y, c) ∧ e = .returned (.tuple #[.agg #[.bool x.t, .bool x.f, .bool x.o, .bool x.i, .bool x.b], .agg #[.bool y.t, .bool y.f, .bool y.o, .bool y.i, .bool y.b], .int .i64 c]) ∧ Below w.heap.size w w' := by
  by_cases hm : k < 1 ∨ 6 < k
  · exact act_miss k hm (lit_wf k hk0 hk1) _ _ _ _ _ _ _ _ _ _ w
  · rcases (show k = 1 ∨ k = 2 ∨ k = 3 ∨ k = 4 ∨ k = 5 ∨ k = 6 by omega) with rfl | rfl | rfl | rfl | rfl | rfl
    · exact act1 1 rfl _ _ _ _ _ _ _ _ _ _ w
    · exact act2 2 rfl _ _ _ _ _ _ _ _ _ _ w
    · exact act3 3 rfl _ _ _ _ _ _ _ _ _ _ w
    · exact act4 4 rfl _ _ _ _ _ _ _ _ _ _ w
    · exact act5 5 rfl _ _ _ _ _ _ _ _ _ _ w
    · exact act6 6 rfl _ _ _ _ _ _ _ _ _ _ w

end Go.Proofs.Ytjelnndiahkoeaa
