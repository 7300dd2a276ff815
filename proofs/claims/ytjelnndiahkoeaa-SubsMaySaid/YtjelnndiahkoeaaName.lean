/-
  How an item is called: the map literal of four names, laid in whatever order.
-/
import Derived.Test.YtjelnndiahkoeaaSmall
import Derived.Deep.RegionHeld3
namespace Go.Proofs.Ytjelnndiahkoeaa
open Go.RowKit Go.Maps


/-- What the names' map reads as, by which of them are laid. -/
def DS (a b c d : Bool) : DataW Unit :=
  .map ((if d then [(kl2 false false, .lit (.string [110, 111, 110, 101]))] else []) ++ (if c then [(kl2 false true, .lit (.string [102, 114, 111, 109]))] else []) ++ (if b then [(kl2 true false, .lit (.string [116, 111]))] else []) ++ (if a then [(kl2 true true, .lit (.string [98, 111, 116, 104]))] else []))

theorem ownsMap_four {W : World} {r n : Nat} {a b c d : Bool} (h : W.ownsMap Try.prog 34 (plainElem (H := Unit) Try.prog 9) r n (DS a b c d)) : W.ownsMap Try.prog 34 (plainElem (H := Unit) Try.prog 9) r 4 (DS a b c d) := by
  obtain ⟨es, clock, hb, F, hs, hD⟩ := h
  refine ⟨es, clock, hb, F, ?_, hD⟩
  have e1 := congrArg Maps.size hD
  rw [Maps.size_eq, length_sorted] at e1
  simp only [List.length_map, Array.length_toList] at e1
  rw [← e1]
  cases a <;> cases b <;> cases c <;> cases d <;> decide

/-- The names' map, some of them laid. -/
def MapIn (W : World) (r : Nat) (a b c d : Bool) : Prop := W.ownsMap Try.prog 34 (plainElem (H := Unit) Try.prog 9) r 4 (DS a b c d)
def MapOK (W : World) (r : Nat) : Prop := ∃ a b c d, MapIn W r a b c d
def Has0 (W : World) (r : Nat) : Prop := ∃ b c d, MapIn W r true b c d
def Has1 (W : World) (r : Nat) : Prop := ∃ a c d, MapIn W r a true c d
def Has2 (W : World) (r : Nat) : Prop := ∃ a b d, MapIn W r a b true d
def Has3 (W : World) (r : Nat) : Prop := ∃ a b c, MapIn W r a b c true
/-- How many of the names are laid is told by the map alone. -/
theorem MapIn.one {W : World} {r : Nat} {a b c d a' b' c' d' : Bool} (h : MapIn W r a b c d) (h' : MapIn W r a' b' c' d') : a = a' ∧ b = b' ∧ c = c' ∧ d = d' := by
  obtain ⟨es, clock, hb, F, hs, hD⟩ := h
  obtain ⟨es', clock', hb', F', hs', hD'⟩ := h'
  rw [hb] at hb'
  injection hb' with hb'
  injection hb' with h1 h2
  subst h1
  have e : DS a b c d = DS a' b' c' d' := hD.trans hD'.symm
  revert e
  cases a <;> cases b <;> cases c <;> cases d <;> cases a' <;> cases b' <;> cases c' <;> cases d' <;> simp [DS, kl2, keyBytes]

/-- The world in which a name has been laid in the map. -/
noncomputable def insW (W : World) (r : Nat) (x y : Bool) (s : ByteArray) : World :=
  open Classical in if h : MapOK W r ∧ ∃ W', (Instr.mapUpdate 40 (.map (some r)) (.agg #[.bool x, .bool y]) (.string s)).run Try.prog W = .ok () W' ∧ W.grownBy W' (some r) then h.2.choose else W

theorem ins_grown (W : World) (r : Nat) (x y : Bool) (s : ByteArray) : W.grownBy (insW W r x y s) (some r) := by
  unfold insW
  split
  · rename_i h; exact h.2.choose_spec.2
  · exact ⟨rfl, rfl, rfl, Nat.le_refl _, fun _ _ _ => rfl⟩

theorem ins_not {W : World} {r : Nat} (h : ¬ MapOK W r) (x y : Bool) (s : ByteArray) : insW W r x y s = W := by
  unfold insW
  rw [dif_neg (fun hh => h hh.1)]

theorem ins_run0 {W : World} {r : Nat} {a b c d : Bool} (h : MapIn W r a b c d) :
    (Instr.mapUpdate 40 (.map (some r)) (.agg #[.bool true, .bool true]) (.string ⟨#[98, 111, 116, 104]⟩)).run Try.prog W = .ok () (insW W r true true ⟨#[98, 111, 116, 104]⟩) ∧ MapIn (insW W r true true ⟨#[98, 111, 116, 104]⟩) r true b c d := by
  obtain ⟨W', r1, h1, g1⟩ := World.ownsMap.update h law34 Try.underlying40 (by decide) (key := .agg #[.bool true, .bool true]) (val := .string ⟨#[98, 111, 116, 104]⟩) (d := .lit (.string [98, 111, 116, 104])) (ps := []) (key2 _ _) (plainElem_string Try.underlying9 (by decide))
  have hex : MapOK W r ∧ ∃ W', (Instr.mapUpdate 40 (.map (some r)) (.agg #[.bool true, .bool true]) (.string ⟨#[98, 111, 116, 104]⟩)).run Try.prog W = .ok () W' ∧ W.grownBy W' (some r) := ⟨⟨_, _, _, _, h⟩, W', r1, g1⟩
  have e : insW W r true true ⟨#[98, 111, 116, 104]⟩ = W' := by
    unfold insW
    rw [dif_pos hex]
    have h2 : Result.ok () W' = Result.ok () hex.2.choose := r1.symm.trans hex.2.choose_spec.1
    injection h2 with _ h3
    exact h3.symm
  rw [e]
  have e2 : (DS a b c d).put (kl2 true true) (.lit (.string [98, 111, 116, 104])) = DS true b c d := by cases a <;> cases b <;> cases c <;> cases d <;> rfl
  rw [e2] at h1
  exact ⟨r1, ownsMap_four h1⟩

theorem ins_run1 {W : World} {r : Nat} {a b c d : Bool} (h : MapIn W r a b c d) :
    (Instr.mapUpdate 40 (.map (some r)) (.agg #[.bool true, .bool false]) (.string ⟨#[116, 111]⟩)).run Try.prog W = .ok () (insW W r true false ⟨#[116, 111]⟩) ∧ MapIn (insW W r true false ⟨#[116, 111]⟩) r a true c d := by
  obtain ⟨W', r1, h1, g1⟩ := World.ownsMap.update h law34 Try.underlying40 (by decide) (key := .agg #[.bool true, .bool false]) (val := .string ⟨#[116, 111]⟩) (d := .lit (.string [116, 111])) (ps := []) (key2 _ _) (plainElem_string Try.underlying9 (by decide))
  have hex : MapOK W r ∧ ∃ W', (Instr.mapUpdate 40 (.map (some r)) (.agg #[.bool true, .bool false]) (.string ⟨#[116, 111]⟩)).run Try.prog W = .ok () W' ∧ W.grownBy W' (some r) := ⟨⟨_, _, _, _, h⟩, W', r1, g1⟩
  have e : insW W r true false ⟨#[116, 111]⟩ = W' := by
    unfold insW
    rw [dif_pos hex]
    have h2 : Result.ok () W' = Result.ok () hex.2.choose := r1.symm.trans hex.2.choose_spec.1
    injection h2 with _ h3
    exact h3.symm
  rw [e]
  have e2 : (DS a b c d).put (kl2 true false) (.lit (.string [116, 111])) = DS a true c d := by cases a <;> cases b <;> cases c <;> cases d <;> rfl
  rw [e2] at h1
  exact ⟨r1, ownsMap_four h1⟩

theorem ins_run2 {W : World} {r : Nat} {a b c d : Bool} (h : MapIn W r a b c d) :
    (Instr.mapUpdate 40 (.map (some r)) (.agg #[.bool false, .bool true]) (.string ⟨#[102, 114, 111, 109]⟩)).run Try.prog W = .ok () (insW W r false true ⟨#[102, 114, 111, 109]⟩) ∧ MapIn (insW W r false true ⟨#[102, 114, 111, 109]⟩) r a b true d := by
  obtain ⟨W', r1, h1, g1⟩ := World.ownsMap.update h law34 Try.underlying40 (by decide) (key := .agg #[.bool false, .bool true]) (val := .string ⟨#[102, 114, 111, 109]⟩) (d := .lit (.string [102, 114, 111, 109])) (ps := []) (key2 _ _) (plainElem_string Try.underlying9 (by decide))
  have hex : MapOK W r ∧ ∃ W', (Instr.mapUpdate 40 (.map (some r)) (.agg #[.bool false, .bool true]) (.string ⟨#[102, 114, 111, 109]⟩)).run Try.prog W = .ok () W' ∧ W.grownBy W' (some r) := ⟨⟨_, _, _, _, h⟩, W', r1, g1⟩
  have e : insW W r false true ⟨#[102, 114, 111, 109]⟩ = W' := by
    unfold insW
    rw [dif_pos hex]
    have h2 : Result.ok () W' = Result.ok () hex.2.choose := r1.symm.trans hex.2.choose_spec.1
    injection h2 with _ h3
    exact h3.symm
  rw [e]
  have e2 : (DS a b c d).put (kl2 false true) (.lit (.string [102, 114, 111, 109])) = DS a b true d := by cases a <;> cases b <;> cases c <;> cases d <;> rfl
  rw [e2] at h1
  exact ⟨r1, ownsMap_four h1⟩

theorem ins_run3 {W : World} {r : Nat} {a b c d : Bool} (h : MapIn W r a b c d) :
    (Instr.mapUpdate 40 (.map (some r)) (.agg #[.bool false, .bool false]) (.string ⟨#[110, 111, 110, 101]⟩)).run Try.prog W = .ok () (insW W r false false ⟨#[110, 111, 110, 101]⟩) ∧ MapIn (insW W r false false ⟨#[110, 111, 110, 101]⟩) r a b c true := by
  obtain ⟨W', r1, h1, g1⟩ := World.ownsMap.update h law34 Try.underlying40 (by decide) (key := .agg #[.bool false, .bool false]) (val := .string ⟨#[110, 111, 110, 101]⟩) (d := .lit (.string [110, 111, 110, 101])) (ps := []) (key2 _ _) (plainElem_string Try.underlying9 (by decide))
  have hex : MapOK W r ∧ ∃ W', (Instr.mapUpdate 40 (.map (some r)) (.agg #[.bool false, .bool false]) (.string ⟨#[110, 111, 110, 101]⟩)).run Try.prog W = .ok () W' ∧ W.grownBy W' (some r) := ⟨⟨_, _, _, _, h⟩, W', r1, g1⟩
  have e : insW W r false false ⟨#[110, 111, 110, 101]⟩ = W' := by
    unfold insW
    rw [dif_pos hex]
    have h2 : Result.ok () W' = Result.ok () hex.2.choose := r1.symm.trans hex.2.choose_spec.1
    injection h2 with _ h3
    exact h3.symm
  rw [e]
  have e2 : (DS a b c d).put (kl2 false false) (.lit (.string [110, 111, 110, 101])) = DS a b c true := by cases a <;> cases b <;> cases c <;> cases d <;> rfl
  rw [e2] at h1
  exact ⟨r1, ownsMap_four h1⟩

theorem ok_ins0 (W : World) (r : Nat) : MapOK (insW W r true true ⟨#[98, 111, 116, 104]⟩) r = MapOK W r := by
  by_cases h : MapOK W r
  · have ⟨_, _, _, _, h'⟩ := h
    exact propext ⟨fun _ => h, fun _ => ⟨_, _, _, _, (ins_run0 h').2⟩⟩
  · rw [ins_not h]

theorem has_ins0 (W : World) (r : Nat) : Has0 (insW W r true true ⟨#[98, 111, 116, 104]⟩) r = MapOK W r := by
  by_cases h : MapOK W r
  · have ⟨_, _, _, _, h'⟩ := h
    exact propext ⟨fun _ => h, fun _ => ⟨_, _, _, (ins_run0 h').2⟩⟩
  · rw [ins_not h]
    exact propext ⟨fun ⟨_, _, _, h'⟩ => ⟨_, _, _, _, h'⟩, fun h' => absurd h' h⟩

theorem has_ins10 (W : World) (r : Nat) : Has1 (insW W r true true ⟨#[98, 111, 116, 104]⟩) r = Has1 W r := by
  by_cases h : MapOK W r
  · have ⟨_, _, _, _, h'⟩ := h
    refine propext ⟨fun ⟨_, _, _, h2⟩ => ?_, fun ⟨_, _, _, h2⟩ => ⟨_, _, _, (ins_run0 h2).2⟩⟩
    obtain ⟨-, rfl, -, -⟩ := (ins_run0 h').2.one h2
    exact ⟨_, _, _, h'⟩
  · rw [ins_not h]

theorem has_ins20 (W : World) (r : Nat) : Has2 (insW W r true true ⟨#[98, 111, 116, 104]⟩) r = Has2 W r := by
  by_cases h : MapOK W r
  · have ⟨_, _, _, _, h'⟩ := h
    refine propext ⟨fun ⟨_, _, _, h2⟩ => ?_, fun ⟨_, _, _, h2⟩ => ⟨_, _, _, (ins_run0 h2).2⟩⟩
    obtain ⟨-, -, rfl, -⟩ := (ins_run0 h').2.one h2
    exact ⟨_, _, _, h'⟩
  · rw [ins_not h]

theorem has_ins30 (W : World) (r : Nat) : Has3 (insW W r true true ⟨#[98, 111, 116, 104]⟩) r = Has3 W r := by
  by_cases h : MapOK W r
  · have ⟨_, _, _, _, h'⟩ := h
    refine propext ⟨fun ⟨_, _, _, h2⟩ => ?_, fun ⟨_, _, _, h2⟩ => ⟨_, _, _, (ins_run0 h2).2⟩⟩
    obtain ⟨-, -, -, rfl⟩ := (ins_run0 h').2.one h2
    exact ⟨_, _, _, h'⟩
  · rw [ins_not h]

theorem ok_ins1 (W : World) (r : Nat) : MapOK (insW W r true false ⟨#[116, 111]⟩) r = MapOK W r := by
  by_cases h : MapOK W r
  · have ⟨_, _, _, _, h'⟩ := h
    exact propext ⟨fun _ => h, fun _ => ⟨_, _, _, _, (ins_run1 h').2⟩⟩
  · rw [ins_not h]

theorem has_ins1 (W : World) (r : Nat) : Has1 (insW W r true false ⟨#[116, 111]⟩) r = MapOK W r := by
  by_cases h : MapOK W r
  · have ⟨_, _, _, _, h'⟩ := h
    exact propext ⟨fun _ => h, fun _ => ⟨_, _, _, (ins_run1 h').2⟩⟩
  · rw [ins_not h]
    exact propext ⟨fun ⟨_, _, _, h'⟩ => ⟨_, _, _, _, h'⟩, fun h' => absurd h' h⟩

theorem has_ins01 (W : World) (r : Nat) : Has0 (insW W r true false ⟨#[116, 111]⟩) r = Has0 W r := by
  by_cases h : MapOK W r
  · have ⟨_, _, _, _, h'⟩ := h
    refine propext ⟨fun ⟨_, _, _, h2⟩ => ?_, fun ⟨_, _, _, h2⟩ => ⟨_, _, _, (ins_run1 h2).2⟩⟩
    obtain ⟨rfl, -, -, -⟩ := (ins_run1 h').2.one h2
    exact ⟨_, _, _, h'⟩
  · rw [ins_not h]

theorem has_ins21 (W : World) (r : Nat) : Has2 (insW W r true false ⟨#[116, 111]⟩) r = Has2 W r := by
  by_cases h : MapOK W r
  · have ⟨_, _, _, _, h'⟩ := h
    refine propext ⟨fun ⟨_, _, _, h2⟩ => ?_, fun ⟨_, _, _, h2⟩ => ⟨_, _, _, (ins_run1 h2).2⟩⟩
    obtain ⟨-, -, rfl, -⟩ := (ins_run1 h').2.one h2
    exact ⟨_, _, _, h'⟩
  · rw [ins_not h]

theorem has_ins31 (W : World) (r : Nat) : Has3 (insW W r true false ⟨#[116, 111]⟩) r = Has3 W r := by
  by_cases h : MapOK W r
  · have ⟨_, _, _, _, h'⟩ := h
    refine propext ⟨fun ⟨_, _, _, h2⟩ => ?_, fun ⟨_, _, _, h2⟩ => ⟨_, _, _, (ins_run1 h2).2⟩⟩
    obtain ⟨-, -, -, rfl⟩ := (ins_run1 h').2.one h2
    exact ⟨_, _, _, h'⟩
  · rw [ins_not h]

theorem ok_ins2 (W : World) (r : Nat) : MapOK (insW W r false true ⟨#[102, 114, 111, 109]⟩) r = MapOK W r := by
  by_cases h : MapOK W r
  · have ⟨_, _, _, _, h'⟩ := h
    exact propext ⟨fun _ => h, fun _ => ⟨_, _, _, _, (ins_run2 h').2⟩⟩
  · rw [ins_not h]

theorem has_ins2 (W : World) (r : Nat) : Has2 (insW W r false true ⟨#[102, 114, 111, 109]⟩) r = MapOK W r := by
  by_cases h : MapOK W r
  · have ⟨_, _, _, _, h'⟩ := h
    exact propext ⟨fun _ => h, fun _ => ⟨_, _, _, (ins_run2 h').2⟩⟩
  · rw [ins_not h]
    exact propext ⟨fun ⟨_, _, _, h'⟩ => ⟨_, _, _, _, h'⟩, fun h' => absurd h' h⟩

theorem has_ins02 (W : World) (r : Nat) : Has0 (insW W r false true ⟨#[102, 114, 111, 109]⟩) r = Has0 W r := by
  by_cases h : MapOK W r
  · have ⟨_, _, _, _, h'⟩ := h
    refine propext ⟨fun ⟨_, _, _, h2⟩ => ?_, fun ⟨_, _, _, h2⟩ => ⟨_, _, _, (ins_run2 h2).2⟩⟩
    obtain ⟨rfl, -, -, -⟩ := (ins_run2 h').2.one h2
    exact ⟨_, _, _, h'⟩
  · rw [ins_not h]

theorem has_ins12 (W : World) (r : Nat) : Has1 (insW W r false true ⟨#[102, 114, 111, 109]⟩) r = Has1 W r := by
  by_cases h : MapOK W r
  · have ⟨_, _, _, _, h'⟩ := h
    refine propext ⟨fun ⟨_, _, _, h2⟩ => ?_, fun ⟨_, _, _, h2⟩ => ⟨_, _, _, (ins_run2 h2).2⟩⟩
    obtain ⟨-, rfl, -, -⟩ := (ins_run2 h').2.one h2
    exact ⟨_, _, _, h'⟩
  · rw [ins_not h]

theorem has_ins32 (W : World) (r : Nat) : Has3 (insW W r false true ⟨#[102, 114, 111, 109]⟩) r = Has3 W r := by
  by_cases h : MapOK W r
  · have ⟨_, _, _, _, h'⟩ := h
    refine propext ⟨fun ⟨_, _, _, h2⟩ => ?_, fun ⟨_, _, _, h2⟩ => ⟨_, _, _, (ins_run2 h2).2⟩⟩
    obtain ⟨-, -, -, rfl⟩ := (ins_run2 h').2.one h2
    exact ⟨_, _, _, h'⟩
  · rw [ins_not h]

theorem ok_ins3 (W : World) (r : Nat) : MapOK (insW W r false false ⟨#[110, 111, 110, 101]⟩) r = MapOK W r := by
  by_cases h : MapOK W r
  · have ⟨_, _, _, _, h'⟩ := h
    exact propext ⟨fun _ => h, fun _ => ⟨_, _, _, _, (ins_run3 h').2⟩⟩
  · rw [ins_not h]

theorem has_ins3 (W : World) (r : Nat) : Has3 (insW W r false false ⟨#[110, 111, 110, 101]⟩) r = MapOK W r := by
  by_cases h : MapOK W r
  · have ⟨_, _, _, _, h'⟩ := h
    exact propext ⟨fun _ => h, fun _ => ⟨_, _, _, (ins_run3 h').2⟩⟩
  · rw [ins_not h]
    exact propext ⟨fun ⟨_, _, _, h'⟩ => ⟨_, _, _, _, h'⟩, fun h' => absurd h' h⟩

theorem has_ins03 (W : World) (r : Nat) : Has0 (insW W r false false ⟨#[110, 111, 110, 101]⟩) r = Has0 W r := by
  by_cases h : MapOK W r
  · have ⟨_, _, _, _, h'⟩ := h
    refine propext ⟨fun ⟨_, _, _, h2⟩ => ?_, fun ⟨_, _, _, h2⟩ => ⟨_, _, _, (ins_run3 h2).2⟩⟩
    obtain ⟨rfl, -, -, -⟩ := (ins_run3 h').2.one h2
    exact ⟨_, _, _, h'⟩
  · rw [ins_not h]

theorem has_ins13 (W : World) (r : Nat) : Has1 (insW W r false false ⟨#[110, 111, 110, 101]⟩) r = Has1 W r := by
  by_cases h : MapOK W r
  · have ⟨_, _, _, _, h'⟩ := h
    refine propext ⟨fun ⟨_, _, _, h2⟩ => ?_, fun ⟨_, _, _, h2⟩ => ⟨_, _, _, (ins_run3 h2).2⟩⟩
    obtain ⟨-, rfl, -, -⟩ := (ins_run3 h').2.one h2
    exact ⟨_, _, _, h'⟩
  · rw [ins_not h]

theorem has_ins23 (W : World) (r : Nat) : Has2 (insW W r false false ⟨#[110, 111, 110, 101]⟩) r = Has2 W r := by
  by_cases h : MapOK W r
  · have ⟨_, _, _, _, h'⟩ := h
    refine propext ⟨fun ⟨_, _, _, h2⟩ => ?_, fun ⟨_, _, _, h2⟩ => ⟨_, _, _, (ins_run3 h2).2⟩⟩
    obtain ⟨-, -, rfl, -⟩ := (ins_run3 h').2.one h2
    exact ⟨_, _, _, h'⟩
  · rw [ins_not h]

theorem name_full {W : World} {r : Nat} (t f : Bool) (h0 : Has0 W r) (h1 : Has1 W r) (h2 : Has2 W r) (h3 : Has3 W r) :
    (Instr.lookup 40 (.map (some r)) (.agg #[.bool t, .bool f]) false).run Try.prog W = .ok (.string (nameB t f)) W := by
  obtain ⟨b, c, d, h0⟩ := h0
  obtain ⟨_, _, _, h1⟩ := h1
  obtain ⟨_, _, _, h2⟩ := h2
  obtain ⟨_, _, _, h3⟩ := h3
  obtain ⟨-, rfl, -, -⟩ := h0.one h1
  obtain ⟨-, -, rfl, -⟩ := h0.one h2
  obtain ⟨-, -, -, rfl⟩ := h0.one h3
  exact name_hit h0 t f (by cases t <;> cases f <;> rfl)

set_option maxRecDepth 100000 in
set_option maxHeartbeats 16000000 in
theorem name_any (t f o i b : Bool) (w : World) :
    Calls Try.prog 14 #[.agg #[.bool t, .bool f, .bool o, .bool i, .bool b]] w fun e w' => e = .returned (.string (nameB t f)) ∧ Below w.heap.size w w' := by
  have hmm := @run_makeMap Try.prog
  have O0 : MapOK (((w.alloc (.cells #[.bool t, .bool f, .bool o, .bool i, .bool b] 23)).alloc (.map #[] 0)).drew) (w.heap.size + 1) := by
    have := (World.ownsMap_made (w.alloc (.cells #[.bool t, .bool f, .bool o, .bool i, .bool b] 23)) Try.prog 34 (plainElem (H := Unit) Try.prog 9)).drew
    exact ⟨false, false, false, false, ownsMap_four (a := false) (b := false) (c := false) (d := false) (show World.ownsMap _ _ _ _ _ _ (.map []) by simpa using this)⟩
  have HB0 : Below w.heap.size w (((w.alloc (.cells #[.bool t, .bool f, .bool o, .bool i, .bool b] 23)).alloc (.map #[] 0)).drew) := Below.drew ((Below.alloc (Below.refl _ _) (Nat.le_refl _) _).alloc (by simp) _)
  have HK0 : (((w.alloc (.cells #[.bool t, .bool f, .bool o, .bool i, .bool b] 23)).alloc (.map #[] 0)).drew).cell? ⟨w.heap.size, 0, none⟩ = some (.bool t) ∧ (((w.alloc (.cells #[.bool t, .bool f, .bool o, .bool i, .bool b] 23)).alloc (.map #[] 0)).drew).cell? ⟨w.heap.size, 1, none⟩ = some (.bool f) := by
    refine ⟨?_, ?_⟩ <;> (show World.cell? (World.alloc _ _) _ = _; simp)
  have HBs : ∀ (W : World) (x y : Bool) (s : ByteArray), Below w.heap.size w W → Below w.heap.size w (insW W (w.heap.size + 1) x y s) := fun W x y s h => h.grown (ins_grown _ _ _ _ _) h.size (fun k hk => by simp at hk; omega)
  have hc0 : ∀ (W : World) (x y : Bool) (s : ByteArray), W.cell? ⟨w.heap.size, 0, none⟩ = some (.bool t) → (insW W (w.heap.size + 1) x y s).cell? ⟨w.heap.size, 0, none⟩ = some (.bool t) := fun W x y s h => (ins_grown _ _ _ _ _).cell h (by simp)
  have hc1 : ∀ (W : World) (x y : Bool) (s : ByteArray), W.cell? ⟨w.heap.size, 1, none⟩ = some (.bool f) → (insW W (w.heap.size + 1) x y s).cell? ⟨w.heap.size, 1, none⟩ = some (.bool f) := fun W x y s h => (ins_grown _ _ _ _ _).cell h (by simp)
  have hl : ∀ (W : World), Has0 W (w.heap.size + 1) → Has1 W (w.heap.size + 1) → Has2 W (w.heap.size + 1) → Has3 W (w.heap.size + 1) → (Instr.lookup 40 (.map (some (w.heap.size + 1))) (.agg #[.bool t, .bool f]) false).run Try.prog W = .ok (.string (nameB t f)) W := fun W h0 h1 h2 h3 => name_full t f h0 h1 h2 h3
  have hE0 : ∀ (W : World), MapOK W (w.heap.size + 1) → (Instr.mapUpdate 40 (.map (some (w.heap.size + 1))) (.agg #[.bool true, .bool true]) (.string ⟨#[98, 111, 116, 104]⟩)).run Try.prog W = .ok () (insW W (w.heap.size + 1) true true ⟨#[98, 111, 116, 104]⟩) := fun W ⟨_, _, _, _, h⟩ => (ins_run0 h).1
  have hO0 := fun W => ok_ins0 W (w.heap.size + 1)
  have hN0 := fun W => has_ins0 W (w.heap.size + 1)
  have hK10 := fun W => has_ins10 W (w.heap.size + 1)
  have hK20 := fun W => has_ins20 W (w.heap.size + 1)
  have hK30 := fun W => has_ins30 W (w.heap.size + 1)
  have hE1 : ∀ (W : World), MapOK W (w.heap.size + 1) → (Instr.mapUpdate 40 (.map (some (w.heap.size + 1))) (.agg #[.bool true, .bool false]) (.string ⟨#[116, 111]⟩)).run Try.prog W = .ok () (insW W (w.heap.size + 1) true false ⟨#[116, 111]⟩) := fun W ⟨_, _, _, _, h⟩ => (ins_run1 h).1
  have hO1 := fun W => ok_ins1 W (w.heap.size + 1)
  have hN1 := fun W => has_ins1 W (w.heap.size + 1)
  have hK01 := fun W => has_ins01 W (w.heap.size + 1)
  have hK21 := fun W => has_ins21 W (w.heap.size + 1)
  have hK31 := fun W => has_ins31 W (w.heap.size + 1)
  have hE2 : ∀ (W : World), MapOK W (w.heap.size + 1) → (Instr.mapUpdate 40 (.map (some (w.heap.size + 1))) (.agg #[.bool false, .bool true]) (.string ⟨#[102, 114, 111, 109]⟩)).run Try.prog W = .ok () (insW W (w.heap.size + 1) false true ⟨#[102, 114, 111, 109]⟩) := fun W ⟨_, _, _, _, h⟩ => (ins_run2 h).1
  have hO2 := fun W => ok_ins2 W (w.heap.size + 1)
  have hN2 := fun W => has_ins2 W (w.heap.size + 1)
  have hK02 := fun W => has_ins02 W (w.heap.size + 1)
  have hK12 := fun W => has_ins12 W (w.heap.size + 1)
  have hK32 := fun W => has_ins32 W (w.heap.size + 1)
  have hE3 : ∀ (W : World), MapOK W (w.heap.size + 1) → (Instr.mapUpdate 40 (.map (some (w.heap.size + 1))) (.agg #[.bool false, .bool false]) (.string ⟨#[110, 111, 110, 101]⟩)).run Try.prog W = .ok () (insW W (w.heap.size + 1) false false ⟨#[110, 111, 110, 101]⟩) := fun W ⟨_, _, _, _, h⟩ => (ins_run3 h).1
  have hO3 := fun W => ok_ins3 W (w.heap.size + 1)
  have hN3 := fun W => has_ins3 W (w.heap.size + 1)
  have hK03 := fun W => has_ins03 W (w.heap.size + 1)
  have hK13 := fun W => has_ins13 W (w.heap.size + 1)
  have hK23 := fun W => has_ins23 W (w.heap.size + 1)
  go_enter Try.func14, Try.ntmps14
  go_wp2_with fail
  go_region_held3 (fun w' => w'.cell? ⟨w.heap.size, 0, none⟩ = some (.bool t) ∧ w'.cell? ⟨w.heap.size, 1, none⟩ = some (.bool f)) (first | (simp; done) | (refine ⟨?_, ?_⟩ <;> repeat' (first | exact HK0.1 | exact HK0.2 | apply hc0 | apply hc1)))
    (fail)
  all_goals clear hE0 hE1 hE2 hE3 hO0 hO1 hO2 hO3 hN0 hN1 hN2 hN3 hK01 hK02 hK03 hK10 hK12 hK13 hK20 hK21 hK23 hK30 hK31 hK32 hl hmm hc0 hc1 O0
  all_goals (go_wp2_with fail)
  all_goals go_ret
  all_goals exact ⟨rfl, HBs _ _ _ _ (HBs _ _ _ _ (HBs _ _ _ _ (HBs _ _ _ _ HB0)))⟩
end Go.Proofs.Ytjelnndiahkoeaa
