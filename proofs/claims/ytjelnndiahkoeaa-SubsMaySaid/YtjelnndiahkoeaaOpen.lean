/-
  Arguments that are structs or arrays of whole numbers, bools and strings, opened cell by cell (off 'okWide', no reading is touched). No program.
-/
import Derived.ProofKit
import Derived.OpenShut
import Derived.ShutString
namespace Go.Proofs.Ytjelnndiahkoeaa
open Go.ChangeShapes Go.WideShapes Go.ChangeAt Go.RowKit

section
variable {P : Program} {W : World} {r : Reach} {b : Nat} {t : TypeId} {v : Value}

theorem open_cells {ts : List TypeId} {u : TypeDesc} (hu : P.underlying t = some u) (hk : (∃ fs, u = .struct fs) ∨ (∃ n e, u = .array n e)) (ht : P.cellTypes P.depth t = some ts) (hn : P.cellsOf t = ts.length) (h : Value.okWide P W r b t v) :
    ∃ cs : Array Value, v = .agg cs ∧ cs.size = ts.length ∧ ∀ (i : Nat) u c, ts[i]? = some u → cs[i]? = some c → Cell.okWide P W r b u c := by
  have h' : ∃ cs, v = .agg cs ∧ cs.size = P.cellsOf t ∧ Row.okWide P W r b t cs := by
    unfold Value.okWide at h
    rw [hu] at h
    rcases hk with ⟨fs, rfl⟩ | ⟨n, e, rfl⟩ <;> exact h
  obtain ⟨cs, rfl, hsz, ts', ht', _, hrow⟩ := h'
  rw [ht] at ht'
  cases ht'
  refine ⟨cs, rfl, by omega, ?_⟩
  intro i u c hi hc
  obtain ⟨u', hu', hok⟩ := hrow i c hc
  have hlt : i < ts.length := (List.getElem?_eq_some_iff.1 hi).1
  rw [Nat.mod_eq_of_lt hlt, hi] at hu'
  cases hu'
  exact hok

theorem cell_int {k : IntKind} {c : Value} (hu : P.underlying t = some (.int k)) (h : Cell.okWide P W r b t c) : ∃ n, c = .int k n ∧ k.min ≤ n ∧ n ≤ k.max := by
  simp only [Cell.okWide, hu, Cell.ok] at h
  cases c <;> simp_all [IntKind.has]

theorem cell_bool {c : Value} (hu : P.underlying t = some .bool) (h : Cell.okWide P W r b t c) : ∃ x, c = .bool x := by
  simp only [Cell.okWide, hu, Cell.ok] at h
  cases c <;> simp_all

theorem cell_string {c : Value} (hu : P.underlying t = some .string) (h : Cell.okWide P W r b t c) : ∃ s, c = .string s ∧ s.size ≤ maxLen := by
  simp only [Cell.okWide, hu, Cell.ok] at h
  cases c <;> simp_all


  unfold maxLen
  omega

theorem arr2 {cs : Array Value} (h : cs.size = 2) : ∃ a b, cs = #[a, b] := ⟨cs[0], cs[1], by ext i hi; simpa using h; match i, hi with | 0, _ => rfl | 1, _ => rfl⟩
theorem arr4 {cs : Array Value} (h : cs.size = 4) : ∃ a b c d, cs = #[a, b, c, d] := ⟨cs[0], cs[1], cs[2], cs[3], by ext i hi; simpa using h; match i, hi with | 0, _ => rfl | 1, _ => rfl | 2, _ => rfl | 3, _ => rfl⟩
theorem arr5 {cs : Array Value} (h : cs.size = 5) : ∃ a b c d e, cs = #[a, b, c, d, e] := ⟨cs[0], cs[1], cs[2], cs[3], cs[4], by ext i hi; simpa using h; match i, hi with | 0, _ => rfl | 1, _ => rfl | 2, _ => rfl | 3, _ => rfl | 4, _ => rfl⟩
end
end Go.Proofs.Ytjelnndiahkoeaa
