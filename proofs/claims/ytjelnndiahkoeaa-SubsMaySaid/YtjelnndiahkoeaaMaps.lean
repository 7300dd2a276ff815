/-
  The two map literals of subs: the methods by kind, the names by sides: what is laid, and what is looked up.
-/
import Derived.Test.YtjelnndiahkoeaaRows
import Derived.WalkKit
import Derived.WalkSpells
import Derived.WalkLawsBesides
import Derived.Lib.Hide
import Derived.Maps.OwnSet
import Derived.Maps.AppendAt
import Derived.DeepKeys4
namespace Go.Proofs.Ytjelnndiahkoeaa
open Go.RowKit Go.Maps

theorem laidOutP : laidOutB Try.prog = true := by kernel_rfl
theorem row34 : (34 : TypeId) < Try.prog.types.size := of_decide_eq_true (by kernel_rfl)
theorem wide34 : (match Try.prog.underlying 34 with | some (.array _ _) | some (.struct _) => true | _ => false) = true := by kernel_rfl
theorem law34 : Keyed Try.prog 34 := Keyed.of_law (deep_law_laid laidOutP (m := 2) (by omega) row34 (by kernel_rfl) wide34)
theorem law3 : Keyed Try.prog 3 := int_keyed Try.underlying3
theorem zeroS (w : World) : (zeroValue 9).run Try.prog w = .ok (.string ByteArray.empty) w := by kernel_rfl
theorem zeroF (w : World) : (zeroValue 41).run Try.prog w = .ok .nilFunc w := by kernel_rfl

/-- What a pair of bools reads as, as a map's key. -/
def kl2 (x y : Bool) : Lit := .string (keyBytes [.bool x, .bool y])
theorem key2 (x y : Bool) : keyOf Try.prog 34 (.agg #[.bool x, .bool y]) = some (kl2 x y) := by cases x <;> cases y <;> kernel_rfl
theorem keyI (k : Int) (h : (Lit.int .i64 k).wf = true) : keyOf Try.prog 3 (.int .i64 k) = some (.int .i64 k) := keyOf_int_mk Try.underlying3 h

/-- How a function reads, to us: by its number. -/
def RF (v : Value) : Option (DataW Unit × List MemPlace) :=
  match v with
  | .func (.func n) a b => if a = #[] ∧ b = #[] then some (.lit (.int .i64 n), []) else none
  | .nilFunc => some (.nil, [])
  | _ => none

theorem RF_mk (n : Nat) : RF (.func (.func n) #[] #[]) = some (.lit (.int .i64 n), []) := by simp [RF]

theorem RF_inv {v : Value} {n : Nat} {ps : List MemPlace} (h : RF v = some (.lit (.int .i64 n), ps)) : v = .func (.func n) #[] #[] := by
  unfold RF at h
  split at h
  · split at h
    · rename_i hc
      obtain ⟨rfl, rfl⟩ := hc
      simp at h; have h2 := h.1; have h3 := Int.ofNat_inj.1 h2; rw [h3]
    · cases h
  · simp at h
  · cases h


/-- What the methods' map reads as. -/
def DF : DataW Unit := (DataW.put (DataW.put (DataW.put (DataW.put (DataW.put (DataW.put (.map []) (.int .i64 1) (.lit (.int .i64 21))) (.int .i64 2) (.lit (.int .i64 22))) (.int .i64 3) (.lit (.int .i64 23))) (.int .i64 4) (.lit (.int .i64 24))) (.int .i64 5) (.lit (.int .i64 25))) (.int .i64 6) (.lit (.int .i64 26)))

theorem kinds_made (W : World) (r : Nat) (h0 : W.ownsMap Try.prog 3 RF r 0 (.map [])) :
    ∃ W1 W2 W3 W4 W5 W6 : World, (Instr.mapUpdate 44 (.map (some r)) (.int .i64 1) (.func (.func 21) #[] #[])).run Try.prog W = .ok () W1 ∧ (Instr.mapUpdate 44 (.map (some r)) (.int .i64 2) (.func (.func 22) #[] #[])).run Try.prog W1 = .ok () W2 ∧ (Instr.mapUpdate 44 (.map (some r)) (.int .i64 3) (.func (.func 23) #[] #[])).run Try.prog W2 = .ok () W3 ∧ (Instr.mapUpdate 44 (.map (some r)) (.int .i64 4) (.func (.func 24) #[] #[])).run Try.prog W3 = .ok () W4 ∧ (Instr.mapUpdate 44 (.map (some r)) (.int .i64 5) (.func (.func 25) #[] #[])).run Try.prog W4 = .ok () W5 ∧ (Instr.mapUpdate 44 (.map (some r)) (.int .i64 6) (.func (.func 26) #[] #[])).run Try.prog W5 = .ok () W6 ∧
      W6.ownsMap Try.prog 3 RF r 6 DF ∧ W.grownBy W6 (some r) := by
  obtain ⟨W1, r1, h1, g1⟩ := h0.update law3 Try.underlying44 (by decide) (key := .int .i64 1) (val := .func (.func 21) #[] #[]) (d := .lit (.int .i64 21)) (ps := []) (keyI 1 (by decide)) (RF_mk _)
  obtain ⟨W2, r2, h2, g2⟩ := h1.update law3 Try.underlying44 (by decide) (key := .int .i64 2) (val := .func (.func 22) #[] #[]) (d := .lit (.int .i64 22)) (ps := []) (keyI 2 (by decide)) (RF_mk _)
  obtain ⟨W3, r3, h3, g3⟩ := h2.update law3 Try.underlying44 (by decide) (key := .int .i64 3) (val := .func (.func 23) #[] #[]) (d := .lit (.int .i64 23)) (ps := []) (keyI 3 (by decide)) (RF_mk _)
  obtain ⟨W4, r4, h4, g4⟩ := h3.update law3 Try.underlying44 (by decide) (key := .int .i64 4) (val := .func (.func 24) #[] #[]) (d := .lit (.int .i64 24)) (ps := []) (keyI 4 (by decide)) (RF_mk _)
  obtain ⟨W5, r5, h5, g5⟩ := h4.update law3 Try.underlying44 (by decide) (key := .int .i64 5) (val := .func (.func 25) #[] #[]) (d := .lit (.int .i64 25)) (ps := []) (keyI 5 (by decide)) (RF_mk _)
  obtain ⟨W6, r6, h6, g6⟩ := h5.update law3 Try.underlying44 (by decide) (key := .int .i64 6) (val := .func (.func 26) #[] #[]) (d := .lit (.int .i64 26)) (ps := []) (keyI 6 (by decide)) (RF_mk _)
  exact ⟨W1, W2, W3, W4, W5, W6, r1, r2, r3, r4, r5, r6, h6, ((((g1.trans g2).trans g3).trans g4).trans g5).trans g6⟩

theorem kind_hit {W : World} {r : Nat} (h : W.ownsMap Try.prog 3 RF r 6 DF) (k : Int) (n : Nat) (hk : (Lit.int .i64 k).wf = true) (hat : DF.atKey (.int .i64 k) .nil = .lit (.int .i64 n)) (hh : Maps.has DF (.int .i64 k) = true) :
    (Instr.lookup 44 (.map (some r)) (.int .i64 k) true).run Try.prog W = .ok (.tuple #[.func (.func n) #[] #[], .bool true]) W := by
  obtain ⟨v, ps, hrun, hv⟩ := h.look_ok law3 Try.underlying44 (zeroF W) (zd := .nil) (zp := []) rfl (keyI k hk)
  rw [hat] at hv
  rw [hh] at hrun
  rw [RF_inv hv] at hrun
  exact hrun

theorem kind_miss {W : World} {r : Nat} (h : W.ownsMap Try.prog 3 RF r 6 DF) (k : Int) (hk : (Lit.int .i64 k).wf = true) (hh : Maps.has DF (.int .i64 k) = false) :
    ∃ v, (Instr.lookup 44 (.map (some r)) (.int .i64 k) true).run Try.prog W = .ok (.tuple #[v, .bool false]) W := by
  obtain ⟨v, ps, hrun, hv⟩ := h.look_ok law3 Try.underlying44 (zeroF W) (zd := .nil) (zp := []) rfl (keyI k hk)
  rw [hh] at hrun
  exact ⟨v, hrun⟩

theorem hit1 : DF.atKey (.int .i64 1) .nil = .lit (.int .i64 21) ∧ Maps.has DF (.int .i64 1) = true := ⟨by rfl, by rfl⟩
theorem hit2 : DF.atKey (.int .i64 2) .nil = .lit (.int .i64 22) ∧ Maps.has DF (.int .i64 2) = true := ⟨by rfl, by rfl⟩
theorem hit3 : DF.atKey (.int .i64 3) .nil = .lit (.int .i64 23) ∧ Maps.has DF (.int .i64 3) = true := ⟨by rfl, by rfl⟩
theorem hit4 : DF.atKey (.int .i64 4) .nil = .lit (.int .i64 24) ∧ Maps.has DF (.int .i64 4) = true := ⟨by rfl, by rfl⟩
theorem hit5 : DF.atKey (.int .i64 5) .nil = .lit (.int .i64 25) ∧ Maps.has DF (.int .i64 5) = true := ⟨by rfl, by rfl⟩
theorem hit6 : DF.atKey (.int .i64 6) .nil = .lit (.int .i64 26) ∧ Maps.has DF (.int .i64 6) = true := ⟨by rfl, by rfl⟩
theorem missk (k : Int) (h : k < 1 ∨ 6 < k) : Maps.has DF (.int .i64 k) = false := by
  have e : DF = .map [(.int .i64 1, .lit (.int .i64 21)), (.int .i64 2, .lit (.int .i64 22)), (.int .i64 3, .lit (.int .i64 23)), (.int .i64 4, .lit (.int .i64 24)), (.int .i64 5, .lit (.int .i64 25)), (.int .i64 6, .lit (.int .i64 26))] := by rfl
  rw [e]
  simp [Maps.has, Lit.sameKey]
  omega

/-- What the names' map reads as. -/
def DN : DataW Unit := (DataW.put (DataW.put (DataW.put (DataW.put (.map []) (kl2 true true) (.lit (.string [98, 111, 116, 104]))) (kl2 true false) (.lit (.string [116, 111]))) (kl2 false true) (.lit (.string [102, 114, 111, 109]))) (kl2 false false) (.lit (.string [110, 111, 110, 101])))

theorem names_made (W : World) (r : Nat) (h0 : W.ownsMap Try.prog 34 (plainElem (H := Unit) Try.prog 9) r 0 (.map [])) :
    ∃ W1 W2 W3 W4 : World, (Instr.mapUpdate 40 (.map (some r)) (.agg #[.bool true, .bool true]) (.string ⟨#[98, 111, 116, 104]⟩)).run Try.prog W = .ok () W1 ∧ (Instr.mapUpdate 40 (.map (some r)) (.agg #[.bool true, .bool false]) (.string ⟨#[116, 111]⟩)).run Try.prog W1 = .ok () W2 ∧ (Instr.mapUpdate 40 (.map (some r)) (.agg #[.bool false, .bool true]) (.string ⟨#[102, 114, 111, 109]⟩)).run Try.prog W2 = .ok () W3 ∧ (Instr.mapUpdate 40 (.map (some r)) (.agg #[.bool false, .bool false]) (.string ⟨#[110, 111, 110, 101]⟩)).run Try.prog W3 = .ok () W4 ∧
      W4.ownsMap Try.prog 34 (plainElem (H := Unit) Try.prog 9) r 4 DN ∧ W.grownBy W1 (some r) ∧ W.grownBy W2 (some r) ∧ W.grownBy W3 (some r) ∧ W.grownBy W4 (some r) := by
  obtain ⟨W1, r1, h1, g1⟩ := h0.update law34 Try.underlying40 (by decide) (key := .agg #[.bool true, .bool true]) (val := .string ⟨#[98, 111, 116, 104]⟩) (d := (.lit (.string [98, 111, 116, 104]))) (ps := []) (key2 _ _) (plainElem_string Try.underlying9 (by decide))
  obtain ⟨W2, r2, h2, g2⟩ := h1.update law34 Try.underlying40 (by decide) (key := .agg #[.bool true, .bool false]) (val := .string ⟨#[116, 111]⟩) (d := (.lit (.string [116, 111]))) (ps := []) (key2 _ _) (plainElem_string Try.underlying9 (by decide))
  obtain ⟨W3, r3, h3, g3⟩ := h2.update law34 Try.underlying40 (by decide) (key := .agg #[.bool false, .bool true]) (val := .string ⟨#[102, 114, 111, 109]⟩) (d := (.lit (.string [102, 114, 111, 109]))) (ps := []) (key2 _ _) (plainElem_string Try.underlying9 (by decide))
  obtain ⟨W4, r4, h4, g4⟩ := h3.update law34 Try.underlying40 (by decide) (key := .agg #[.bool false, .bool false]) (val := .string ⟨#[110, 111, 110, 101]⟩) (d := (.lit (.string [110, 111, 110, 101]))) (ps := []) (key2 _ _) (plainElem_string Try.underlying9 (by decide))
  exact ⟨W1, W2, W3, W4, r1, r2, r3, r4, h4, g1, g1.trans g2, (g1.trans g2).trans g3, ((g1.trans g2).trans g3).trans g4⟩

/-- How an item is called. -/
def nameB (t f : Bool) : ByteArray := if t then (if f then ⟨#[98, 111, 116, 104]⟩ else ⟨#[116, 111]⟩) else (if f then ⟨#[102, 114, 111, 109]⟩ else ⟨#[110, 111, 110, 101]⟩)

theorem name_at (t f : Bool) : DN.atKey (kl2 t f) (.lit (.string [])) = .lit (.string (nameB t f).data.toList) := by cases t <;> cases f <;> rfl

theorem name_hit {W : World} {r n : Nat} {D : DataW Unit} (h : W.ownsMap Try.prog 34 (plainElem (H := Unit) Try.prog 9) r n D) (t f : Bool) (hat : D.atKey (kl2 t f) (.lit (.string [])) = .lit (.string (nameB t f).data.toList)) :
    (Instr.lookup 40 (.map (some r)) (.agg #[.bool t, .bool f]) false).run Try.prog W = .ok (.string (nameB t f)) W := by
  obtain ⟨v, ps, hrun, hv⟩ := h.lookup law34 Try.underlying40 (zeroS W) (zd := .lit (.string [])) (zp := []) (by simp [plainElem, Try.underlying9]) (key2 t f)
  rw [hat] at hv
  unfold plainElem at hv
  rw [Try.underlying9] at hv
  cases v <;> simp at hv
  rename_i s
  have : s = nameB t f := by
    have h2 := hv.2.1
    cases s; congr 1
  rw [this] at hrun
  exact hrun
end Go.Proofs.Ytjelnndiahkoeaa
