/-
  SubsMay: the statement in which a move is made: whatever order it is run in, the answers lie in two new boxes.
-/
import Derived.Test.YtjelnndiahkoeaaMayC
namespace Go.Proofs.Ytjelnndiahkoeaa
open Go.RowKit

noncomputable def reg14 : Code := (Try.f5.body.bind (findReg 14)).getD .skip

theorem C5.far {t f o i b : Bool} {B : Nat} {w : World} (h : C5 t f o i b B w) {a : Addr} (hne : B ≠ a.block) (v : Value) : C5 t f o i b B (w.setCell a v) :=
  ⟨cell_set_far hne h.c0, cell_set_far hne h.c1, cell_set_far hne h.c2, cell_set_far hne h.c3, cell_set_far hne h.c4, by have := h.lt; simpa using this⟩

theorem C5.fill {t f o i b : Bool} {B : Nat} {w : World} (h : C5 t f o i b B w) (z : It) : C5 z.t z.f z.o z.i z.b B (((((w.setCell ⟨B, 0, none⟩ (.bool z.t)).setCell ⟨B, 1, none⟩ (.bool z.f)).setCell ⟨B, 2, none⟩ (.bool z.o)).setCell ⟨B, 3, none⟩ (.bool z.i)).setCell ⟨B, 4, none⟩ (.bool z.b)) :=
  ⟨cell_set_off (by decide) (cell_set_off (by decide) (cell_set_off (by decide) (cell_set_off (by decide) (cell_set_same (h.c0))))), cell_set_off (by decide) (cell_set_off (by decide) (cell_set_off (by decide) (cell_set_same (cell_set_off (by decide) (h.c1))))), cell_set_off (by decide) (cell_set_off (by decide) (cell_set_same (cell_set_off (by decide) (cell_set_off (by decide) (h.c2))))), cell_set_off (by decide) (cell_set_same (cell_set_off (by decide) (cell_set_off (by decide) (cell_set_off (by decide) (h.c3))))), cell_set_same (cell_set_off (by decide) (cell_set_off (by decide) (cell_set_off (by decide) (cell_set_off (by decide) (h.c4))))), by have := h.lt; simpa using this⟩

theorem C5.far5 {t f o i b : Bool} {B D : Nat} {w : World} (h : C5 t f o i b B w) (hne : B ≠ D) (z : It) : C5 t f o i b B (((((w.setCell ⟨D, 0, none⟩ (.bool z.t)).setCell ⟨D, 1, none⟩ (.bool z.f)).setCell ⟨D, 2, none⟩ (.bool z.o)).setCell ⟨D, 3, none⟩ (.bool z.i)).setCell ⟨D, 4, none⟩ (.bool z.b)) :=
  ((((h.far hne _).far hne _).far hne _).far hne _).far hne _

theorem below5 {s : Nat} {w W : World} {D : Nat} (h : Below s w W) (hD : s ≤ D) (z : It) : Below s w (((((W.setCell ⟨D, 0, none⟩ (.bool z.t)).setCell ⟨D, 1, none⟩ (.bool z.f)).setCell ⟨D, 2, none⟩ (.bool z.o)).setCell ⟨D, 3, none⟩ (.bool z.i)).setCell ⟨D, 4, none⟩ (.bool z.b)) :=
  (((((h.setCell (p := ⟨D, 0, none⟩) hD _).setCell (p := ⟨D, 1, none⟩) hD _).setCell (p := ⟨D, 2, none⟩) hD _).setCell (p := ⟨D, 3, none⟩) hD _).setCell (p := ⟨D, 4, none⟩) hD _)

theorem pairA {wr w9 : World} (h : Below wr.heap.size wr w9) (x y : It) : Below wr.heap.size wr ((w9.alloc (.cells #[.bool x.t, .bool x.f, .bool x.o, .bool x.i, .bool x.b] 23)).alloc (.cells #[.bool y.t, .bool y.f, .bool y.o, .bool y.i, .bool y.b] 23)) ∧ C5 x.t x.f x.o x.i x.b w9.heap.size ((w9.alloc (.cells #[.bool x.t, .bool x.f, .bool x.o, .bool x.i, .bool x.b] 23)).alloc (.cells #[.bool y.t, .bool y.f, .bool y.o, .bool y.i, .bool y.b] 23)) ∧ C5 y.t y.f y.o y.i y.b (w9.heap.size + 1) ((w9.alloc (.cells #[.bool x.t, .bool x.f, .bool x.o, .bool x.i, .bool x.b] 23)).alloc (.cells #[.bool y.t, .bool y.f, .bool y.o, .bool y.i, .bool y.b] 23)) ∧ wr.heap.size ≤ w9.heap.size ∧ wr.heap.size ≤ w9.heap.size + 1 := by
  have hs := h.size
  refine ⟨(h.alloc hs _).alloc (by simp; omega) _, (C5.fresh _ _ _ _ _ _).laid _, ?_, hs, by omega⟩
  have := C5.fresh y.t y.f y.o y.i y.b (w9.alloc (.cells #[.bool x.t, .bool x.f, .bool x.o, .bool x.i, .bool x.b] 23))
  simpa using this

theorem pairC {wr w9 : World} {D : Nat} (h : Below wr.heap.size wr w9) (hD : wr.heap.size ≤ D) {t f o i b : Bool} (hz : C5 t f o i b D w9) (x y : It) : Below wr.heap.size wr ((((((w9.setCell ⟨D, 0, none⟩ (.bool x.t)).setCell ⟨D, 1, none⟩ (.bool x.f)).setCell ⟨D, 2, none⟩ (.bool x.o)).setCell ⟨D, 3, none⟩ (.bool x.i)).setCell ⟨D, 4, none⟩ (.bool x.b)).alloc (.cells #[.bool y.t, .bool y.f, .bool y.o, .bool y.i, .bool y.b] 23)) ∧ C5 x.t x.f x.o x.i x.b D ((((((w9.setCell ⟨D, 0, none⟩ (.bool x.t)).setCell ⟨D, 1, none⟩ (.bool x.f)).setCell ⟨D, 2, none⟩ (.bool x.o)).setCell ⟨D, 3, none⟩ (.bool x.i)).setCell ⟨D, 4, none⟩ (.bool x.b)).alloc (.cells #[.bool y.t, .bool y.f, .bool y.o, .bool y.i, .bool y.b] 23)) ∧ C5 y.t y.f y.o y.i y.b w9.heap.size ((((((w9.setCell ⟨D, 0, none⟩ (.bool x.t)).setCell ⟨D, 1, none⟩ (.bool x.f)).setCell ⟨D, 2, none⟩ (.bool x.o)).setCell ⟨D, 3, none⟩ (.bool x.i)).setCell ⟨D, 4, none⟩ (.bool x.b)).alloc (.cells #[.bool y.t, .bool y.f, .bool y.o, .bool y.i, .bool y.b] 23)) ∧ wr.heap.size ≤ D ∧ wr.heap.size ≤ w9.heap.size := by
  have hs := h.size
  refine ⟨(below5 h hD x).alloc (by simpa using hs) _, (hz.fill x).laid _, ?_, hD, hs⟩
  have := C5.fresh y.t y.f y.o y.i y.b (((((w9.setCell ⟨D, 0, none⟩ (.bool x.t)).setCell ⟨D, 1, none⟩ (.bool x.f)).setCell ⟨D, 2, none⟩ (.bool x.o)).setCell ⟨D, 3, none⟩ (.bool x.i)).setCell ⟨D, 4, none⟩ (.bool x.b))
  simpa using this

theorem pairD {wr w9 : World} {D E : Nat} (h : Below wr.heap.size wr w9) (hD : wr.heap.size ≤ D) (hE : wr.heap.size ≤ E) (hne : D ≠ E) {t f o i b : Bool} (hz : C5 t f o i b D w9) {t' f' o' i' b' : Bool} (hz' : C5 t' f' o' i' b' E w9) (x y : It) : Below wr.heap.size wr ((((((((((w9.setCell ⟨D, 0, none⟩ (.bool x.t)).setCell ⟨D, 1, none⟩ (.bool x.f)).setCell ⟨D, 2, none⟩ (.bool x.o)).setCell ⟨D, 3, none⟩ (.bool x.i)).setCell ⟨D, 4, none⟩ (.bool x.b)).setCell ⟨E, 0, none⟩ (.bool y.t)).setCell ⟨E, 1, none⟩ (.bool y.f)).setCell ⟨E, 2, none⟩ (.bool y.o)).setCell ⟨E, 3, none⟩ (.bool y.i)).setCell ⟨E, 4, none⟩ (.bool y.b)) ∧ C5 x.t x.f x.o x.i x.b D ((((((((((w9.setCell ⟨D, 0, none⟩ (.bool x.t)).setCell ⟨D, 1, none⟩ (.bool x.f)).setCell ⟨D, 2, none⟩ (.bool x.o)).setCell ⟨D, 3, none⟩ (.bool x.i)).setCell ⟨D, 4, none⟩ (.bool x.b)).setCell ⟨E, 0, none⟩ (.bool y.t)).setCell ⟨E, 1, none⟩ (.bool y.f)).setCell ⟨E, 2, none⟩ (.bool y.o)).setCell ⟨E, 3, none⟩ (.bool y.i)).setCell ⟨E, 4, none⟩ (.bool y.b)) ∧ C5 y.t y.f y.o y.i y.b E ((((((((((w9.setCell ⟨D, 0, none⟩ (.bool x.t)).setCell ⟨D, 1, none⟩ (.bool x.f)).setCell ⟨D, 2, none⟩ (.bool x.o)).setCell ⟨D, 3, none⟩ (.bool x.i)).setCell ⟨D, 4, none⟩ (.bool x.b)).setCell ⟨E, 0, none⟩ (.bool y.t)).setCell ⟨E, 1, none⟩ (.bool y.f)).setCell ⟨E, 2, none⟩ (.bool y.o)).setCell ⟨E, 3, none⟩ (.bool y.i)).setCell ⟨E, 4, none⟩ (.bool y.b)) ∧ wr.heap.size ≤ D ∧ wr.heap.size ≤ E :=
  ⟨below5 (below5 h hD x) hE y, (hz.fill x).far5 hne y, (hz'.far5 (Ne.symm hne) x).fill y, hD, hE⟩

theorem since0 {wr w9 : World} (hb : Below wr.drew.heap.size wr.drew w9) : Below wr.heap.size wr w9 :=
  (Below.drew (Below.refl _ _)).trans (hb.mono (by simp))
theorem since1 {wr w9 : World} {O : Obj} (hb : Below (wr.alloc O).drew.heap.size (wr.alloc O).drew w9) : Below wr.heap.size wr w9 :=
  (Below.drew ((Below.refl _ _).alloc (Nat.le_refl _) _)).trans (hb.mono (by simp))
theorem since2 {wr w9 : World} {O O' : Obj} (hb : Below ((wr.alloc O).alloc O').drew.heap.size ((wr.alloc O).alloc O').drew w9) : Below wr.heap.size wr w9 :=
  (Below.drew (((Below.refl _ _).alloc (Nat.le_refl _) _).alloc (by simp) _)).trans (hb.mono (by simp; omega))

theorem boxed1 {wr w9 : World} (hb : Below ((wr.alloc (.cells #[.bool false, .bool false, .bool false, .bool false, .bool false] 23)).drew).heap.size ((wr.alloc (.cells #[.bool false, .bool false, .bool false, .bool false, .bool false] 23)).drew) w9) : w9.cell? ⟨wr.heap.size, 0, none⟩ = some (.bool false) ∧ w9.cell? ⟨wr.heap.size, 1, none⟩ = some (.bool false) ∧ w9.cell? ⟨wr.heap.size, 2, none⟩ = some (.bool false) ∧ w9.cell? ⟨wr.heap.size, 3, none⟩ = some (.bool false) ∧ w9.cell? ⟨wr.heap.size, 4, none⟩ = some (.bool false) ∧ (∀ j, w9.frozen? ⟨wr.heap.size, j, none⟩ = false) := by
  have hz : ((wr.alloc (.cells #[.bool false, .bool false, .bool false, .bool false, .bool false] 23)).drew).heap.size = wr.heap.size + 1 := by simp
  refine ⟨?_, ?_, ?_, ?_, ?_, fun j => ?_⟩
  all_goals first
    | (rw [hb.cell (by show wr.heap.size < _; omega)]; simp)
    | (rw [hb.frozen (by show wr.heap.size < _; omega)]; simp)

theorem boxed2 {wr w9 : World} (hb : Below (((wr.alloc (.cells #[.bool false, .bool false, .bool false, .bool false, .bool false] 23)).alloc (.cells #[.bool false, .bool false, .bool false, .bool false, .bool false] 23)).drew).heap.size (((wr.alloc (.cells #[.bool false, .bool false, .bool false, .bool false, .bool false] 23)).alloc (.cells #[.bool false, .bool false, .bool false, .bool false, .bool false] 23)).drew) w9) : (w9.cell? ⟨wr.heap.size, 0, none⟩ = some (.bool false) ∧ w9.cell? ⟨wr.heap.size, 1, none⟩ = some (.bool false) ∧ w9.cell? ⟨wr.heap.size, 2, none⟩ = some (.bool false) ∧ w9.cell? ⟨wr.heap.size, 3, none⟩ = some (.bool false) ∧ w9.cell? ⟨wr.heap.size, 4, none⟩ = some (.bool false) ∧ (∀ j, w9.frozen? ⟨wr.heap.size, j, none⟩ = false)) ∧ (w9.cell? ⟨wr.heap.size + 1, 0, none⟩ = some (.bool false) ∧ w9.cell? ⟨wr.heap.size + 1, 1, none⟩ = some (.bool false) ∧ w9.cell? ⟨wr.heap.size + 1, 2, none⟩ = some (.bool false) ∧ w9.cell? ⟨wr.heap.size + 1, 3, none⟩ = some (.bool false) ∧ w9.cell? ⟨wr.heap.size + 1, 4, none⟩ = some (.bool false) ∧ (∀ j, w9.frozen? ⟨wr.heap.size + 1, j, none⟩ = false)) := by
  have hz : (((wr.alloc (.cells #[.bool false, .bool false, .bool false, .bool false, .bool false] 23)).alloc (.cells #[.bool false, .bool false, .bool false, .bool false, .bool false] 23)).drew).heap.size = wr.heap.size + 1 + 1 := by simp
  refine ⟨⟨?_, ?_, ?_, ?_, ?_, fun j => ?_⟩, ⟨?_, ?_, ?_, ?_, ?_, fun j => ?_⟩⟩
  all_goals first
    | (rw [hb.cell (by show wr.heap.size < _; omega)]; simp; done)
    | (rw [hb.frozen (by show wr.heap.size < _; omega)]; simp; done)
    | (rw [hb.cell (by show wr.heap.size + 1 < _; omega)]; simp; done)
    | (rw [hb.frozen (by show wr.heap.size + 1 < _; omega)]; simp; done)

theorem sized1 {wr w9 : World} (hb : Below ((wr.alloc (.cells #[.bool false, .bool false, .bool false, .bool false, .bool false] 23)).drew).heap.size ((wr.alloc (.cells #[.bool false, .bool false, .bool false, .bool false, .bool false] 23)).drew) w9) : wr.heap.size < w9.heap.size ∧ wr.heap.size ≠ w9.heap.size := by
  have hz : ((wr.alloc (.cells #[.bool false, .bool false, .bool false, .bool false, .bool false] 23)).drew).heap.size = wr.heap.size + 1 := by simp
  have := hb.size
  omega
theorem sized2 {wr w9 : World} (hb : Below (((wr.alloc (.cells #[.bool false, .bool false, .bool false, .bool false, .bool false] 23)).alloc (.cells #[.bool false, .bool false, .bool false, .bool false, .bool false] 23)).drew).heap.size (((wr.alloc (.cells #[.bool false, .bool false, .bool false, .bool false, .bool false] 23)).alloc (.cells #[.bool false, .bool false, .bool false, .bool false, .bool false] 23)).drew) w9) : wr.heap.size < w9.heap.size ∧ wr.heap.size ≠ w9.heap.size ∧ wr.heap.size + 1 < w9.heap.size ∧ wr.heap.size + 1 ≠ w9.heap.size := by
  have hz : (((wr.alloc (.cells #[.bool false, .bool false, .bool false, .bool false, .bool false] 23)).alloc (.cells #[.bool false, .bool false, .bool false, .bool false, .bool false] 23)).drew).heap.size = wr.heap.size + 1 + 1 := by simp
  have := hb.size
  omega

theorem ss_of {W : World} {B : Nat} {x y : It} {p : Addr} {kd : Int} (h : P10 W B x y) (he : W.cell? p = some (.int .i64 kd)) :
    W.cell? ⟨B, 0, none⟩ = some (.bool x.t) ∧ W.cell? ⟨B, 1, none⟩ = some (.bool x.f) ∧ W.cell? ⟨B, 2, none⟩ = some (.bool x.o) ∧ W.cell? ⟨B, 3, none⟩ = some (.bool x.i) ∧ W.cell? ⟨B, 4, none⟩ = some (.bool x.b) ∧ W.cell? ⟨B, 5, none⟩ = some (.bool y.t) ∧ W.cell? ⟨B, 6, none⟩ = some (.bool y.f) ∧ W.cell? ⟨B, 7, none⟩ = some (.bool y.o) ∧ W.cell? ⟨B, 8, none⟩ = some (.bool y.i) ∧ W.cell? ⟨B, 9, none⟩ = some (.bool y.b) ∧ W.cell? p = some (.int .i64 kd) :=
  ⟨h.c0, h.c1, h.c2, h.c3, h.c4, h.c5, h.c6, h.c7, h.c8, h.c9, he⟩


set_option maxRecDepth 100000 in
set_option maxHeartbeats 8000000 in
theorem drawn0 {t f o i b b' : Bool} {kd : Int} {bk off len cap k : Nat} {w wr : World} {c1 c2 c4 c5 c6 c10 c11 c12 c13 c14 c15 c16 c17 c18 c19 c20 c21 c22 c23 c24 c25 c26 c27 c28 c29 c30 c31 c32 c33 c34 c35 c36 c37 c38 c39 c40 c41 c42 c43 c44 c45 c46 c47 c48 c49 c50 c51 c52 c53 c54 c55 c56 c57 c58 c59 c60 c61 c62 c63 c64 c65 c66 c67 c68 c69 c70 c71 c72 c73 c74 c75 c76 c77 c78 c79 c80 c81 c82 c83 c84 c85 c86 c87 c88 c89 c90 c91 c92 c93 c94 c95 c96 c97 c98 c99 c100 c101 c102 c103 c104 c105 c106 c107 c108 c109 c110 c111 c112 c113 c114 c115 c116 c117 c118 c119 c120 c121 c122 c123 c124 c125 c126 c127 c128 c129 c130 c131 c132 c133 c134 c135 c136 c137 c138 c139 c140 c141 c142 c143 c144 c145 c146 c147 c148 c149 c150 c151 c152 c153 c154 c155 c156 c157 c158 c159 c160 c161 c162 c163 c164 c165 c166 c167 c168 c169 c170 c171 c172 c173 c174 c175 c176 c177 c178 c179 c180 c181 c182 c183 c184 c185 c186 c187 c188 : Value} {K2 : Act → World → Prop} (hM : MM ⟨t, f, o, i, b⟩ ⟨f, t, i, o, b'⟩ o i t f b b' w wr)
    (e1 : wr.cell? ⟨bk, off + k * 2 + 1, none⟩ = some (.int .i64 kd)) (hbk : bk < w.heap.size) (hlt : k < len) (hK0 : IntKind.i64.min ≤ kd) (hK1 : kd ≤ IntKind.i64.max)
    (hK2 : ∀ (u31 u32 u33 u34 u35 u36 u37 u38 u39 u40 u41 u42 u43 u44 u45 u46 : Value) (P Q : Nat) (x y : It) (c : Int) (w9 : World), act ⟨t, f, o, i, b⟩ ⟨f, t, i, o, b'⟩ kd = (x, y, c) → MM ⟨t, f, o, i, b⟩ ⟨f, t, i, o, b'⟩ o i t f b b' w w9 → wr.heap.size ≤ P → wr.heap.size ≤ Q → C5 x.t x.f x.o x.i x.b P w9 → C5 y.t y.f y.o y.i y.b Q w9 → K2 ⟨#[.slice (some ⟨bk, off, none⟩) len cap, c1, c2, .pointer (some ⟨w.heap.size, 0, none⟩), c4, c5, c6, .int .i64 (k : Int), .int .i64 0, .int .i64 1, .pointer (some ⟨P, 0, none⟩), .pointer (some ⟨Q, 0, none⟩), .int .i64 c, c13, c14, c15, c16, c17, c18, c19, c20, c21, c22, c23, c24, c25, c26, c27, c28, c29, c30, u31, u32, u33, u34, u35, u36, u37, u38, u39, u40, u41, u42, u43, u44, u45, u46, c47, c48, c49, c50, c51, c52, c53, c54, c55, c56, c57, c58, c59, c60, c61, c62, c63, c64, c65, c66, c67, c68, c69, c70, c71, c72, c73, c74, c75, c76, c77, c78, c79, c80, c81, c82, c83, c84, c85, c86, c87, c88, c89, c90, c91, c92, c93, c94, c95, c96, c97, c98, c99, c100, c101, c102, c103, c104, c105, c106, c107, c108, c109, c110, c111, c112, c113, c114, c115, c116, c117, c118, c119, c120, c121, c122, c123, c124, c125, c126, c127, c128, c129, c130, c131, c132, c133, c134, c135, c136, c137, c138, c139, c140, c141, c142, c143, c144, c145, c146, c147, c148, c149, c150, c151, c152, c153, c154, c155, c156, c157, c158, c159, c160, c161, c162, c163, c164, c165, c166, c167, c168, c169, c170, c171, c172, c173, c174, c175, c176, c177, c178, c179, c180, c181, c182, c183, c184, c185, c186, c187, c188], []⟩ w9) :
    Code.wp Try.prog reg14 (Exit.then K2 (fun _ _ _ => False)) ⟨#[.slice (some ⟨bk, off, none⟩) len cap, c1, c2, .pointer (some ⟨w.heap.size, 0, none⟩), c4, c5, c6, .int .i64 (k : Int), .int .i64 0, .int .i64 1, c10, c11, c12, c13, c14, c15, c16, c17, c18, c19, c20, c21, c22, c23, c24, c25, c26, c27, c28, c29, c30, c31, c32, c33, c34, c35, c36, c37, c38, c39, c40, c41, c42, c43, c44, c45, c46, c47, c48, c49, c50, c51, c52, c53, c54, c55, c56, c57, c58, c59, c60, c61, c62, c63, c64, c65, c66, c67, c68, c69, c70, c71, c72, c73, c74, c75, c76, c77, c78, c79, c80, c81, c82, c83, c84, c85, c86, c87, c88, c89, c90, c91, c92, c93, c94, c95, c96, c97, c98, c99, c100, c101, c102, c103, c104, c105, c106, c107, c108, c109, c110, c111, c112, c113, c114, c115, c116, c117, c118, c119, c120, c121, c122, c123, c124, c125, c126, c127, c128, c129, c130, c131, c132, c133, c134, c135, c136, c137, c138, c139, c140, c141, c142, c143, c144, c145, c146, c147, c148, c149, c150, c151, c152, c153, c154, c155, c156, c157, c158, c159, c160, c161, c162, c163, c164, c165, c166, c167, c168, c169, c170, c171, c172, c173, c174, c175, c176, c177, c178, c179, c180, c181, c182, c183, c184, c185, c186, c187, c188], []⟩ wr := by
  have dk : decide ((k : Int) < (len : Int)) = true := by simp; omega
  have cl := hM.it.lt
  obtain ⟨d0, d1, d2, d3, d4, d5, d6, d7, d8, d9, df, cl2⟩ := hM.it
  have HM := Lib.hid hM
  clear hM
  have n1 : wr.heap.size ≠ w.heap.size := by omega
  have n2 : wr.heap.size + 1 ≠ w.heap.size := by omega
  have n3 : wr.heap.size ≠ bk := by omega
  have n4 : wr.heap.size + 1 ≠ bk := by omega
  conv => arg 2; whnf
  go_region_held3 (fun w' => w'.cell? ⟨w.heap.size, 0, none⟩ = some (.bool t) ∧ w'.cell? ⟨w.heap.size, 1, none⟩ = some (.bool f) ∧ w'.cell? ⟨w.heap.size, 2, none⟩ = some (.bool o) ∧ w'.cell? ⟨w.heap.size, 3, none⟩ = some (.bool i) ∧ w'.cell? ⟨w.heap.size, 4, none⟩ = some (.bool b) ∧ w'.cell? ⟨w.heap.size, 5, none⟩ = some (.bool f) ∧ w'.cell? ⟨w.heap.size, 6, none⟩ = some (.bool t) ∧ w'.cell? ⟨w.heap.size, 7, none⟩ = some (.bool i) ∧ w'.cell? ⟨w.heap.size, 8, none⟩ = some (.bool o) ∧ w'.cell? ⟨w.heap.size, 9, none⟩ = some (.bool b') ∧ w'.cell? ⟨bk, off + k * 2 + 1, none⟩ = some (.int .i64 kd)) (go_keep)
    (first
      | (go_at_call 17; refine (act_any _ hK0 hK1 _ _ _ _ _ _ _ _ _ _ _).mono ?_; rintro e w9 ⟨x, y, c, ha, rfl, hb9⟩; have hq := hb9.size; have E0 : ∀ j, w9.cell? ⟨w.heap.size, j, none⟩ = _ := fun j => hb9.cell (by simp; try omega); have E1 : w9.cell? ⟨bk, off + k * 2 + 1, none⟩ = _ := hb9.cell (by simp; try omega); have G0 := boxed2 hb9; obtain ⟨G1, G2, G3, G4⟩ := sized2 hb9)
      | (go_at_call 17; refine (act_any _ hK0 hK1 _ _ _ _ _ _ _ _ _ _ _).mono ?_; rintro e w9 ⟨x, y, c, ha, rfl, hb9⟩; have hq := hb9.size; have E0 : ∀ j, w9.cell? ⟨w.heap.size, j, none⟩ = _ := fun j => hb9.cell (by simp; try omega); have E1 : w9.cell? ⟨bk, off + k * 2 + 1, none⟩ = _ := hb9.cell (by simp; try omega); have G0 := boxed1 hb9; obtain ⟨G1, G2⟩ := sized1 hb9)
      | (go_at_call 17; refine (act_any _ hK0 hK1 _ _ _ _ _ _ _ _ _ _ _).mono ?_; rintro e w9 ⟨x, y, c, ha, rfl, hb9⟩; have hq := hb9.size; have E0 : ∀ j, w9.cell? ⟨w.heap.size, j, none⟩ = _ := fun j => hb9.cell (by simp; try omega); have E1 : w9.cell? ⟨bk, off + k * 2 + 1, none⟩ = _ := hb9.cell (by simp; try omega)))
  · obtain ⟨g1, g2, g3, g4, g5⟩ := pairA (since0 hb9) x y
    exact hK2 _ _ _ _ _ _ _ _ _ _ _ _ _ _ _ _ _ _ x y c _ ha (HM.out.kept g1) g4 g5 g2 g3
  · obtain ⟨g1, g2, g3, g4, g5⟩ := pairA (since0 hb9) y x
    exact hK2 _ _ _ _ _ _ _ _ _ _ _ _ _ _ _ _ _ _ x y c _ ha (HM.out.kept g1) g5 g4 g3 g2
  · obtain ⟨z0, z1, z2, z3, z4, -⟩ := G0
    obtain ⟨g1, g2, g3, g4, g5⟩ := pairC (since1 hb9) (Nat.le_refl _) ⟨z0, z1, z2, z3, z4, G1⟩ x y
    exact hK2 _ _ _ _ _ _ _ _ _ _ _ _ _ _ _ _ _ _ x y c _ ha (HM.out.kept g1) g4 g5 g2 g3
  · obtain ⟨⟨z0, z1, z2, z3, z4, -⟩, ⟨v0, v1, v2, v3, v4, -⟩⟩ := G0
    obtain ⟨g1, g2, g3, g4, g5⟩ := pairD (since2 hb9) (Nat.le_refl _) (Nat.le_succ _) (by omega) ⟨z0, z1, z2, z3, z4, G1⟩ ⟨v0, v1, v2, v3, v4, G3⟩ x y
    exact hK2 _ _ _ _ _ _ _ _ _ _ _ _ _ _ _ _ _ _ x y c _ ha (HM.out.kept g1) g4 g5 g2 g3
  · obtain ⟨z0, z1, z2, z3, z4, -⟩ := G0
    obtain ⟨g1, g2, g3, g4, g5⟩ := pairC (since1 hb9) (Nat.le_refl _) ⟨z0, z1, z2, z3, z4, G1⟩ y x
    exact hK2 _ _ _ _ _ _ _ _ _ _ _ _ _ _ _ _ _ _ x y c _ ha (HM.out.kept g1) g5 g4 g3 g2
  · obtain ⟨⟨z0, z1, z2, z3, z4, -⟩, ⟨v0, v1, v2, v3, v4, -⟩⟩ := G0
    obtain ⟨g1, g2, g3, g4, g5⟩ := pairD (since2 hb9) (Nat.le_succ _) (Nat.le_refl _) (by omega) ⟨v0, v1, v2, v3, v4, G3⟩ ⟨z0, z1, z2, z3, z4, G1⟩ x y
    exact hK2 _ _ _ _ _ _ _ _ _ _ _ _ _ _ _ _ _ _ x y c _ ha (HM.out.kept g1) g4 g5 g2 g3

set_option maxRecDepth 100000 in
set_option maxHeartbeats 8000000 in
theorem drawn1 {t f o i b b' : Bool} {kd : Int} {bk off len cap k : Nat} {w wr : World} {c1 c2 c4 c5 c6 c10 c11 c12 c13 c14 c15 c16 c17 c18 c19 c20 c21 c22 c23 c24 c25 c26 c27 c28 c29 c30 c31 c32 c33 c34 c35 c36 c37 c38 c39 c40 c41 c42 c43 c44 c45 c46 c47 c48 c49 c50 c51 c52 c53 c54 c55 c56 c57 c58 c59 c60 c61 c62 c63 c64 c65 c66 c67 c68 c69 c70 c71 c72 c73 c74 c75 c76 c77 c78 c79 c80 c81 c82 c83 c84 c85 c86 c87 c88 c89 c90 c91 c92 c93 c94 c95 c96 c97 c98 c99 c100 c101 c102 c103 c104 c105 c106 c107 c108 c109 c110 c111 c112 c113 c114 c115 c116 c117 c118 c119 c120 c121 c122 c123 c124 c125 c126 c127 c128 c129 c130 c131 c132 c133 c134 c135 c136 c137 c138 c139 c140 c141 c142 c143 c144 c145 c146 c147 c148 c149 c150 c151 c152 c153 c154 c155 c156 c157 c158 c159 c160 c161 c162 c163 c164 c165 c166 c167 c168 c169 c170 c171 c172 c173 c174 c175 c176 c177 c178 c179 c180 c181 c182 c183 c184 c185 c186 c187 c188 : Value} {K2 : Act → World → Prop} (hM : MM ⟨t, f, o, i, b⟩ ⟨f, t, i, o, b'⟩ o i t f b b' w wr)
    (e1 : wr.cell? ⟨bk, off + k * 2 + 1, none⟩ = some (.int .i64 kd)) (hbk : bk < w.heap.size) (hlt : k < len) (hK0 : IntKind.i64.min ≤ kd) (hK1 : kd ≤ IntKind.i64.max)
    (hK2 : ∀ (u31 u32 u33 u34 u35 u36 u37 u38 u39 u40 u41 u42 u43 u44 u45 u46 : Value) (P Q : Nat) (x y : It) (c : Int) (w9 : World), act ⟨f, t, i, o, b'⟩ ⟨t, f, o, i, b⟩ kd = (x, y, c) → MM ⟨t, f, o, i, b⟩ ⟨f, t, i, o, b'⟩ o i t f b b' w w9 → wr.heap.size ≤ P → wr.heap.size ≤ Q → C5 x.t x.f x.o x.i x.b P w9 → C5 y.t y.f y.o y.i y.b Q w9 → K2 ⟨#[.slice (some ⟨bk, off, none⟩) len cap, c1, c2, .pointer (some ⟨w.heap.size, 0, none⟩), c4, c5, c6, .int .i64 (k : Int), .int .i64 1, .int .i64 0, .pointer (some ⟨P, 0, none⟩), .pointer (some ⟨Q, 0, none⟩), .int .i64 c, c13, c14, c15, c16, c17, c18, c19, c20, c21, c22, c23, c24, c25, c26, c27, c28, c29, c30, u31, u32, u33, u34, u35, u36, u37, u38, u39, u40, u41, u42, u43, u44, u45, u46, c47, c48, c49, c50, c51, c52, c53, c54, c55, c56, c57, c58, c59, c60, c61, c62, c63, c64, c65, c66, c67, c68, c69, c70, c71, c72, c73, c74, c75, c76, c77, c78, c79, c80, c81, c82, c83, c84, c85, c86, c87, c88, c89, c90, c91, c92, c93, c94, c95, c96, c97, c98, c99, c100, c101, c102, c103, c104, c105, c106, c107, c108, c109, c110, c111, c112, c113, c114, c115, c116, c117, c118, c119, c120, c121, c122, c123, c124, c125, c126, c127, c128, c129, c130, c131, c132, c133, c134, c135, c136, c137, c138, c139, c140, c141, c142, c143, c144, c145, c146, c147, c148, c149, c150, c151, c152, c153, c154, c155, c156, c157, c158, c159, c160, c161, c162, c163, c164, c165, c166, c167, c168, c169, c170, c171, c172, c173, c174, c175, c176, c177, c178, c179, c180, c181, c182, c183, c184, c185, c186, c187, c188], []⟩ w9) :
    Code.wp Try.prog reg14 (Exit.then K2 (fun _ _ _ => False)) ⟨#[.slice (some ⟨bk, off, none⟩) len cap, c1, c2, .pointer (some ⟨w.heap.size, 0, none⟩), c4, c5, c6, .int .i64 (k : Int), .int .i64 1, .int .i64 0, c10, c11, c12, c13, c14, c15, c16, c17, c18, c19, c20, c21, c22, c23, c24, c25, c26, c27, c28, c29, c30, c31, c32, c33, c34, c35, c36, c37, c38, c39, c40, c41, c42, c43, c44, c45, c46, c47, c48, c49, c50, c51, c52, c53, c54, c55, c56, c57, c58, c59, c60, c61, c62, c63, c64, c65, c66, c67, c68, c69, c70, c71, c72, c73, c74, c75, c76, c77, c78, c79, c80, c81, c82, c83, c84, c85, c86, c87, c88, c89, c90, c91, c92, c93, c94, c95, c96, c97, c98, c99, c100, c101, c102, c103, c104, c105, c106, c107, c108, c109, c110, c111, c112, c113, c114, c115, c116, c117, c118, c119, c120, c121, c122, c123, c124, c125, c126, c127, c128, c129, c130, c131, c132, c133, c134, c135, c136, c137, c138, c139, c140, c141, c142, c143, c144, c145, c146, c147, c148, c149, c150, c151, c152, c153, c154, c155, c156, c157, c158, c159, c160, c161, c162, c163, c164, c165, c166, c167, c168, c169, c170, c171, c172, c173, c174, c175, c176, c177, c178, c179, c180, c181, c182, c183, c184, c185, c186, c187, c188], []⟩ wr := by
  have dk : decide ((k : Int) < (len : Int)) = true := by simp; omega
  have cl := hM.it.lt
  obtain ⟨d0, d1, d2, d3, d4, d5, d6, d7, d8, d9, df, cl2⟩ := hM.it
  have HM := Lib.hid hM
  clear hM
  have n1 : wr.heap.size ≠ w.heap.size := by omega
  have n2 : wr.heap.size + 1 ≠ w.heap.size := by omega
  have n3 : wr.heap.size ≠ bk := by omega
  have n4 : wr.heap.size + 1 ≠ bk := by omega
  conv => arg 2; whnf
  go_region_held3 (fun w' => w'.cell? ⟨w.heap.size, 0, none⟩ = some (.bool t) ∧ w'.cell? ⟨w.heap.size, 1, none⟩ = some (.bool f) ∧ w'.cell? ⟨w.heap.size, 2, none⟩ = some (.bool o) ∧ w'.cell? ⟨w.heap.size, 3, none⟩ = some (.bool i) ∧ w'.cell? ⟨w.heap.size, 4, none⟩ = some (.bool b) ∧ w'.cell? ⟨w.heap.size, 5, none⟩ = some (.bool f) ∧ w'.cell? ⟨w.heap.size, 6, none⟩ = some (.bool t) ∧ w'.cell? ⟨w.heap.size, 7, none⟩ = some (.bool i) ∧ w'.cell? ⟨w.heap.size, 8, none⟩ = some (.bool o) ∧ w'.cell? ⟨w.heap.size, 9, none⟩ = some (.bool b') ∧ w'.cell? ⟨bk, off + k * 2 + 1, none⟩ = some (.int .i64 kd)) (go_keep)
    (first
      | (go_at_call 17; refine (act_any _ hK0 hK1 _ _ _ _ _ _ _ _ _ _ _).mono ?_; rintro e w9 ⟨x, y, c, ha, rfl, hb9⟩; have hq := hb9.size; have E0 : ∀ j, w9.cell? ⟨w.heap.size, j, none⟩ = _ := fun j => hb9.cell (by simp; try omega); have E1 : w9.cell? ⟨bk, off + k * 2 + 1, none⟩ = _ := hb9.cell (by simp; try omega); have G0 := boxed2 hb9; obtain ⟨G1, G2, G3, G4⟩ := sized2 hb9)
      | (go_at_call 17; refine (act_any _ hK0 hK1 _ _ _ _ _ _ _ _ _ _ _).mono ?_; rintro e w9 ⟨x, y, c, ha, rfl, hb9⟩; have hq := hb9.size; have E0 : ∀ j, w9.cell? ⟨w.heap.size, j, none⟩ = _ := fun j => hb9.cell (by simp; try omega); have E1 : w9.cell? ⟨bk, off + k * 2 + 1, none⟩ = _ := hb9.cell (by simp; try omega); have G0 := boxed1 hb9; obtain ⟨G1, G2⟩ := sized1 hb9)
      | (go_at_call 17; refine (act_any _ hK0 hK1 _ _ _ _ _ _ _ _ _ _ _).mono ?_; rintro e w9 ⟨x, y, c, ha, rfl, hb9⟩; have hq := hb9.size; have E0 : ∀ j, w9.cell? ⟨w.heap.size, j, none⟩ = _ := fun j => hb9.cell (by simp; try omega); have E1 : w9.cell? ⟨bk, off + k * 2 + 1, none⟩ = _ := hb9.cell (by simp; try omega)))
  · obtain ⟨g1, g2, g3, g4, g5⟩ := pairA (since0 hb9) x y
    exact hK2 _ _ _ _ _ _ _ _ _ _ _ _ _ _ _ _ _ _ x y c _ ha (HM.out.kept g1) g4 g5 g2 g3
  · obtain ⟨g1, g2, g3, g4, g5⟩ := pairA (since0 hb9) y x
    exact hK2 _ _ _ _ _ _ _ _ _ _ _ _ _ _ _ _ _ _ x y c _ ha (HM.out.kept g1) g5 g4 g3 g2
  · obtain ⟨z0, z1, z2, z3, z4, -⟩ := G0
    obtain ⟨g1, g2, g3, g4, g5⟩ := pairC (since1 hb9) (Nat.le_refl _) ⟨z0, z1, z2, z3, z4, G1⟩ x y
    exact hK2 _ _ _ _ _ _ _ _ _ _ _ _ _ _ _ _ _ _ x y c _ ha (HM.out.kept g1) g4 g5 g2 g3
  · obtain ⟨⟨z0, z1, z2, z3, z4, -⟩, ⟨v0, v1, v2, v3, v4, -⟩⟩ := G0
    obtain ⟨g1, g2, g3, g4, g5⟩ := pairD (since2 hb9) (Nat.le_refl _) (Nat.le_succ _) (by omega) ⟨z0, z1, z2, z3, z4, G1⟩ ⟨v0, v1, v2, v3, v4, G3⟩ x y
    exact hK2 _ _ _ _ _ _ _ _ _ _ _ _ _ _ _ _ _ _ x y c _ ha (HM.out.kept g1) g4 g5 g2 g3
  · obtain ⟨z0, z1, z2, z3, z4, -⟩ := G0
    obtain ⟨g1, g2, g3, g4, g5⟩ := pairC (since1 hb9) (Nat.le_refl _) ⟨z0, z1, z2, z3, z4, G1⟩ y x
    exact hK2 _ _ _ _ _ _ _ _ _ _ _ _ _ _ _ _ _ _ x y c _ ha (HM.out.kept g1) g5 g4 g3 g2
  · obtain ⟨⟨z0, z1, z2, z3, z4, -⟩, ⟨v0, v1, v2, v3, v4, -⟩⟩ := G0
    obtain ⟨g1, g2, g3, g4, g5⟩ := pairD (since2 hb9) (Nat.le_succ _) (Nat.le_refl _) (by omega) ⟨v0, v1, v2, v3, v4, G3⟩ ⟨z0, z1, z2, z3, z4, G1⟩ x y
    exact hK2 _ _ _ _ _ _ _ _ _ _ _ _ _ _ _ _ _ _ x y c _ ha (HM.out.kept g1) g4 g5 g2 g3

end Go.Proofs.Ytjelnndiahkoeaa
