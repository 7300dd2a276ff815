/-
  No cell of these rows narrows 'for every input' (looked for: loops, veiled, ifaces, maps, wideKeys, modest, calm, conditions, laid).
  DERIVED. THE GIVEN ROWS OF THIS SEAT. 5 by the template 'for every input the law returns true; each argument reads behind the call as it read before'; 0 by the template 'total and deterministic' (their statements: YtjelnndiahkoeaaTotals.lean).
  GIVEN WITH THE SEED: the statements are not yours to turn. If you find one false, say at which input.
  Laid BY PROGRAM, IN A SANDBOX (cutbox-rows.mjs): the forced cells as the released guide's own fill.sh prints them over the translation 9e8900e682aaa1ca… (all of the seat's roots in one cut). By AI agents, Wed Nov 11 2026. No macro, syntax, notation, axiom, sorry.
-/
import Derived.Test.YtjelnndiahkoeaaChecked
import GoSem.Claim
import GoSem.ClaimJoined
import GoSem.ClaimMapViews
import Derived.JoinedTies
import Derived.KernelRfl
namespace Go.Proofs.Ytjelnndiahkoeaa
/- THE CELL 'sum', in the pinned program and in every row, IS THE sha256 OF THE DUMP (.gsa) THAT YtjelnndiahkoeaaProg.lean LOADS. Nothing in Lean hashes anything: it is a label: what it is worth is what the hold of that sum in a sandbox is worth. -/
noncomputable def Try.pinned : Pinned := { name := "ytjelnndiahkoeaa", sum := "9e8900e682aaa1ca7d967e284062f1f6f44d1054b3d5dc3c4c7e3b6db834a8b1", checked := Try.checked }
namespace Rows
def none {H : Type} : Left H := { results := [], args := [] }

/-- 'rollcalllaw07.SubsTells': WHATEVER THE INPUT: true; the input reads as it did. -/
def subsTellsSpec : ChangeSpec := { name := "subsTells", fn := fun _ => fun
  | [d1, d2] => { results := [.lit (.bool true)], args := [d1, d2] }
  | _ => none }
def subsTellsRow : OpenClaim := { program := "ytjelnndiahkoeaa", sum := "9e8900e682aaa1ca7d967e284062f1f6f44d1054b3d5dc3c4c7e3b6db834a8b1", func := "rollcall/rollcalllaw07.SubsTells", spec := "subsTells", unfollowed := true, recurses := true, plainKeys := false, apart := false }
def SubsTellsSaid : Prop := subsTellsRow.holds Try.pinned (OpenSpec.ofChange subsTellsSpec)

/-- ITS FALSE NEIGHBOUR: 'it returns false'. Refute it at one input. -/
def subsTellsWrong : ChangeSpec := { name := "subsTells", fn := fun _ => fun
  | [d1, d2] => { results := [.lit (.bool false)], args := [d1, d2] }
  | _ => none }
def SubsTellsWrongFalsely : Prop := subsTellsRow.holds Try.pinned (OpenSpec.ofChange subsTellsWrong)

/-- 'rollcalllaw07.SubsActs': WHATEVER THE INPUT: true; the input reads as it did. -/
def subsActsSpec : ChangeSpec := { name := "subsActs", fn := fun _ => fun
  | [d1, d2, d3] => { results := [.lit (.bool true)], args := [d1, d2, d3] }
  | _ => none }
def subsActsRow : OpenClaim := { program := "ytjelnndiahkoeaa", sum := "9e8900e682aaa1ca7d967e284062f1f6f44d1054b3d5dc3c4c7e3b6db834a8b1", func := "rollcall/rollcalllaw07.SubsActs", spec := "subsActs", unfollowed := true, recurses := true, plainKeys := false, apart := false }
def SubsActsSaid : Prop := subsActsRow.holds Try.pinned (OpenSpec.ofChange subsActsSpec)

/-- ITS FALSE NEIGHBOUR: 'it returns false'. Refute it at one input. -/
def subsActsWrong : ChangeSpec := { name := "subsActs", fn := fun _ => fun
  | [d1, d2, d3] => { results := [.lit (.bool false)], args := [d1, d2, d3] }
  | _ => none }
def SubsActsWrongFalsely : Prop := subsActsRow.holds Try.pinned (OpenSpec.ofChange subsActsWrong)

/-- 'rollcalllaw07.SubsMay': WHATEVER THE INPUT: true; the input reads as it did. -/
def subsMaySpec : ChangeSpec := { name := "subsMay", fn := fun _ => fun
  | [d] => { results := [.lit (.bool true)], args := [d] }
  | _ => none }
def subsMayRow : OpenClaim := { program := "ytjelnndiahkoeaa", sum := "9e8900e682aaa1ca7d967e284062f1f6f44d1054b3d5dc3c4c7e3b6db834a8b1", func := "rollcall/rollcalllaw07.SubsMay", spec := "subsMay", unfollowed := true, recurses := true, plainKeys := false, apart := false }
def SubsMaySaid : Prop := subsMayRow.holds Try.pinned (OpenSpec.ofChange subsMaySpec)

/-- ITS FALSE NEIGHBOUR: 'it returns false'. Refute it at one input. -/
def subsMayWrong : ChangeSpec := { name := "subsMay", fn := fun _ => fun
  | [d] => { results := [.lit (.bool false)], args := [d] }
  | _ => none }
def SubsMayWrongFalsely : Prop := subsMayRow.holds Try.pinned (OpenSpec.ofChange subsMayWrong)

/-- 'rollcalllaw07.SubsUndo': WHATEVER THE INPUT: true; the input reads as it did. -/
def subsUndoSpec : ChangeSpec := { name := "subsUndo", fn := fun _ => fun
  | [d1, d2, d3] => { results := [.lit (.bool true)], args := [d1, d2, d3] }
  | _ => none }
def subsUndoRow : OpenClaim := { program := "ytjelnndiahkoeaa", sum := "9e8900e682aaa1ca7d967e284062f1f6f44d1054b3d5dc3c4c7e3b6db834a8b1", func := "rollcall/rollcalllaw07.SubsUndo", spec := "subsUndo", unfollowed := true, recurses := true, plainKeys := false, apart := false }
def SubsUndoSaid : Prop := subsUndoRow.holds Try.pinned (OpenSpec.ofChange subsUndoSpec)

/-- ITS FALSE NEIGHBOUR: 'it returns false'. Refute it at one input. -/
def subsUndoWrong : ChangeSpec := { name := "subsUndo", fn := fun _ => fun
  | [d1, d2, d3] => { results := [.lit (.bool false)], args := [d1, d2, d3] }
  | _ => none }
def SubsUndoWrongFalsely : Prop := subsUndoRow.holds Try.pinned (OpenSpec.ofChange subsUndoWrong)

/-- 'rollcalllaw07.SubsSides': WHATEVER THE INPUT: true; the input reads as it did. -/
def subsSidesSpec : ChangeSpec := { name := "subsSides", fn := fun _ => fun
  | [d1, d2] => { results := [.lit (.bool true)], args := [d1, d2] }
  | _ => none }
def subsSidesRow : OpenClaim := { program := "ytjelnndiahkoeaa", sum := "9e8900e682aaa1ca7d967e284062f1f6f44d1054b3d5dc3c4c7e3b6db834a8b1", func := "rollcall/rollcalllaw07.SubsSides", spec := "subsSides", unfollowed := true, recurses := true, plainKeys := false, apart := false }
def SubsSidesSaid : Prop := subsSidesRow.holds Try.pinned (OpenSpec.ofChange subsSidesSpec)

/-- ITS FALSE NEIGHBOUR: 'it returns false'. Refute it at one input. -/
def subsSidesWrong : ChangeSpec := { name := "subsSides", fn := fun _ => fun
  | [d1, d2] => { results := [.lit (.bool false)], args := [d1, d2] }
  | _ => none }
def SubsSidesWrongFalsely : Prop := subsSidesRow.holds Try.pinned (OpenSpec.ofChange subsSidesWrong)

/- THE SECOND FORM. 'bulk': how many values and letters a reading holds, each counted each time it is reached (what is shared counts as often as it is met; a slice's spare places count too). A statement '..UptoSaid' is the law's where the arguments, and the package variables that the reading takes, are together of bulk at most 1048576: NARROWER than '..Said'. Prove '..Said' where nothing that the law and all that it calls make is longer than what came in: it says more and counts as full. Else prove '..UptoSaid'. A law counts once. -/
mutual
def uptoBulk {H : Type} : DataW H → Nat
  | .lit (.string bytes) => bytes.length + 1
  | .lit _ => 1
  | .nil => 1
  | .ptr d => uptoBulk d + 1
  | .slice elems spare => uptoBulkAll elems + uptoBulkAll spare + 1
  | .agg parts => uptoBulkAll parts + 1
  | .iface _ d => uptoBulk d + 1
  | .map entries => uptoBulkEntries entries + 1
  | .held _ => 1
def uptoBulkAll {H : Type} : List (DataW H) → Nat
  | [] => 0
  | d :: r => uptoBulk d + uptoBulkAll r
def uptoBulkEntries {H : Type} : List (Lit × DataW H) → Nat
  | [] => 0
  | x :: r => uptoBulkEntry x + uptoBulkEntries r
def uptoBulkEntry {H : Type} : Lit × DataW H → Nat
  | (.string bytes, d) => bytes.length + uptoBulk d + 1
  | (_, d) => uptoBulk d + 1
 end
def uptoSmall : (H : Type) → List (DataW H) → Bool := fun _ ds => decide (uptoBulkAll ds ≤ 1048576)
def OpenSpec.upto (s : _root_.Go.ChangeSpec) : _root_.Go.OpenSpec := { _root_.Go.OpenSpec.ofChange s with cond := some uptoSmall }

/-- 'rollcalllaw07.SubsTells', WHERE WHAT IT READS IS OF BULK AT MOST 1048576: true; the input reads as it did. -/
def subsTellsUptoRow : OpenClaim := { program := "ytjelnndiahkoeaa", sum := "9e8900e682aaa1ca7d967e284062f1f6f44d1054b3d5dc3c4c7e3b6db834a8b1", func := "rollcall/rollcalllaw07.SubsTells", spec := "subsTells", unfollowed := true, recurses := true, plainKeys := false, apart := false, narrowed := true }
def SubsTellsUptoSaid : Prop := subsTellsUptoRow.holds Try.pinned (OpenSpec.upto subsTellsSpec)

/-- 'rollcalllaw07.SubsActs', WHERE WHAT IT READS IS OF BULK AT MOST 1048576: true; the input reads as it did. -/
def subsActsUptoRow : OpenClaim := { program := "ytjelnndiahkoeaa", sum := "9e8900e682aaa1ca7d967e284062f1f6f44d1054b3d5dc3c4c7e3b6db834a8b1", func := "rollcall/rollcalllaw07.SubsActs", spec := "subsActs", unfollowed := true, recurses := true, plainKeys := false, apart := false, narrowed := true }
def SubsActsUptoSaid : Prop := subsActsUptoRow.holds Try.pinned (OpenSpec.upto subsActsSpec)

/-- 'rollcalllaw07.SubsMay', WHERE WHAT IT READS IS OF BULK AT MOST 1048576: true; the input reads as it did. -/
def subsMayUptoRow : OpenClaim := { program := "ytjelnndiahkoeaa", sum := "9e8900e682aaa1ca7d967e284062f1f6f44d1054b3d5dc3c4c7e3b6db834a8b1", func := "rollcall/rollcalllaw07.SubsMay", spec := "subsMay", unfollowed := true, recurses := true, plainKeys := false, apart := false, narrowed := true }
def SubsMayUptoSaid : Prop := subsMayUptoRow.holds Try.pinned (OpenSpec.upto subsMaySpec)

/-- 'rollcalllaw07.SubsUndo', WHERE WHAT IT READS IS OF BULK AT MOST 1048576: true; the input reads as it did. -/
def subsUndoUptoRow : OpenClaim := { program := "ytjelnndiahkoeaa", sum := "9e8900e682aaa1ca7d967e284062f1f6f44d1054b3d5dc3c4c7e3b6db834a8b1", func := "rollcall/rollcalllaw07.SubsUndo", spec := "subsUndo", unfollowed := true, recurses := true, plainKeys := false, apart := false, narrowed := true }
def SubsUndoUptoSaid : Prop := subsUndoUptoRow.holds Try.pinned (OpenSpec.upto subsUndoSpec)

/-- 'rollcalllaw07.SubsSides', WHERE WHAT IT READS IS OF BULK AT MOST 1048576: true; the input reads as it did. -/
def subsSidesUptoRow : OpenClaim := { program := "ytjelnndiahkoeaa", sum := "9e8900e682aaa1ca7d967e284062f1f6f44d1054b3d5dc3c4c7e3b6db834a8b1", func := "rollcall/rollcalllaw07.SubsSides", spec := "subsSides", unfollowed := true, recurses := true, plainKeys := false, apart := false, narrowed := true }
def SubsSidesUptoSaid : Prop := subsSidesUptoRow.holds Try.pinned (OpenSpec.upto subsSidesSpec)

end Rows
end Go.Proofs.Ytjelnndiahkoeaa
