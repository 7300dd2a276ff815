/-
  A slice of ints that came in, opened: its length, and its elements' cells. No program.
-/
import Derived.Test.YtlidfgpjhoddjaaMoreW
import Derived.ProofKit
import Derived.OpenShut
namespace Go.Proofs.Ytlidfgpjhoddjaa
open Go.ChangeShapes Go.WideShapes Go.ChangeAt Go.RowKit

theorem open_row {H : Type} {enc : TypeId × Value → H} {P : Program} {W : World} {r : Reach} {b : Nat} {t e : TypeId} {v : Value} {d : DataW H} {p : List MemPlace} (hT : P.underlying t = some (.slice e)) (hE : P.underlying e = some (.int .i64)) (hc : P.cellsOf e = 1)
    (hv : Value.okWide P W r b t v) (h : DataW.Trod enc P W 0 (fun _ => true) true t v d p) :
    ∃ a len cap zs, v = .slice a len cap ∧ len ≤ 9223372036854775807 ∧ IsRow W a len zs := by
  obtain ⟨a, len, cap, rfl⟩ := okWide_slice hT hv
  refine ⟨a, len, cap, ?_⟩
  obtain ⟨fuel, hf⟩ := h
  rcases open_ints hT hE hc hf with ⟨hcs, _⟩ | ⟨x, l, c, zs, hcs, _, hl, hm, hz, _, hcell, hwz⟩
  · simp [Value.cells] at hcs
    obtain ⟨rfl, rfl, rfl⟩ := hcs
    exact ⟨[], rfl, by omega, .inl rfl⟩
  · simp [Value.cells] at hcs
    obtain ⟨rfl, rfl, rfl⟩ := hcs
    unfold maxLen at hm
    refine ⟨zs, rfl, by omega, ?_⟩
    by_cases h0 : len = 0
    · exact .inl h0
    · right
      obtain ⟨bb, off, spot⟩ := x
      have hzl : zs.length = cap := by simpa using hz
      have hc0 := hcell 0 (by omega)
      have hspot : spot = none := by simpa [Addr.add] using World.cell?_spot hc0
      subst hspot
      refine ⟨bb, off, rfl, fun i hi => ?_⟩
      have := hcell i (by omega)
      have hadd : (⟨bb, off, none⟩ : Addr).add i = ⟨bb, off + i, none⟩ := by unfold Addr.add; split <;> simp_all
      rw [hadd] at this
      exact this

end Go.Proofs.Ytlidfgpjhoddjaa
