/-
  No cell of these rows narrows 'for every input' (looked for: loops, veiled, ifaces, maps, wideKeys, modest, calm, conditions, laid).
  DERIVED. THE GIVEN ROWS OF THIS SEAT. 5 by the template 'for every input the law returns true; each argument reads behind the call as it read before'; 0 by the template 'total and deterministic' (their statements: YtlidfgpjhoddjaaTotals.lean).
  GIVEN WITH THE SEED: the statements are not yours to turn. If you find one false, say at which input.
  Laid BY PROGRAM, IN A SANDBOX (cutbox-rows.mjs): the forced cells as the released guide's own fill.sh prints them over the translation 69bf04614d7dcfc2… (all of the seat's roots in one cut). By AI agents, Wed Nov 11 2026. No macro, syntax, notation, axiom, sorry.
-/
import Derived.Test.YtlidfgpjhoddjaaChecked
import GoSem.Claim
import GoSem.ClaimJoined
import GoSem.ClaimMapViews
import Derived.JoinedTies
import Derived.KernelRfl
namespace Go.Proofs.Ytlidfgpjhoddjaa
/- THE CELL 'sum', in the pinned program and in every row, IS THE sha256 OF THE DUMP (.gsa) THAT YtlidfgpjhoddjaaProg.lean LOADS. Nothing in Lean hashes anything: it is a label: what it is worth is what the hold of that sum in a sandbox is worth. -/
noncomputable def Try.pinned : Pinned := { name := "ytlidfgpjhoddjaa", sum := "69bf04614d7dcfc2e2354b3efae83a55a4d115a7a8102c571becb53e9572aa30", checked := Try.checked }
namespace Rows
def none {H : Type} : Left H := { results := [], args := [] }

/-- 'rollcalllaw16.PaceTells': WHATEVER THE INPUT: true; the input reads as it did. -/
def paceTellsSpec : ChangeSpec := { name := "paceTells", fn := fun _ => fun
  | [d1, d2, d3] => { results := [.lit (.bool true)], args := [d1, d2, d3] }
  | _ => none }
def paceTellsRow : OpenClaim := { program := "ytlidfgpjhoddjaa", sum := "69bf04614d7dcfc2e2354b3efae83a55a4d115a7a8102c571becb53e9572aa30", func := "rollcall/rollcalllaw16.PaceTells", spec := "paceTells", apart := false }
def PaceTellsSaid : Prop := paceTellsRow.holds Try.pinned (OpenSpec.ofChange paceTellsSpec)

/-- ITS FALSE NEIGHBOUR: 'it returns false'. Refute it at one input. -/
def paceTellsWrong : ChangeSpec := { name := "paceTells", fn := fun _ => fun
  | [d1, d2, d3] => { results := [.lit (.bool false)], args := [d1, d2, d3] }
  | _ => none }
def PaceTellsWrongFalsely : Prop := paceTellsRow.holds Try.pinned (OpenSpec.ofChange paceTellsWrong)

/-- 'rollcalllaw16.PaceRate': WHATEVER THE INPUT: true; the input reads as it did. -/
def paceRateSpec : ChangeSpec := { name := "paceRate", fn := fun _ => fun
  | [d1, d2] => { results := [.lit (.bool true)], args := [d1, d2] }
  | _ => none }
def paceRateRow : OpenClaim := { program := "ytlidfgpjhoddjaa", sum := "69bf04614d7dcfc2e2354b3efae83a55a4d115a7a8102c571becb53e9572aa30", func := "rollcall/rollcalllaw16.PaceRate", spec := "paceRate", apart := false }
def PaceRateSaid : Prop := paceRateRow.holds Try.pinned (OpenSpec.ofChange paceRateSpec)

/-- ITS FALSE NEIGHBOUR: 'it returns false'. Refute it at one input. -/
def paceRateWrong : ChangeSpec := { name := "paceRate", fn := fun _ => fun
  | [d1, d2] => { results := [.lit (.bool false)], args := [d1, d2] }
  | _ => none }
def PaceRateWrongFalsely : Prop := paceRateRow.holds Try.pinned (OpenSpec.ofChange paceRateWrong)

/-- 'rollcalllaw16.PaceMay': WHATEVER THE INPUT: true; the input reads as it did. -/
def paceMaySpec : ChangeSpec := { name := "paceMay", fn := fun _ => fun
  | [d1, d2, d3] => { results := [.lit (.bool true)], args := [d1, d2, d3] }
  | _ => none }
def paceMayRow : OpenClaim := { program := "ytlidfgpjhoddjaa", sum := "69bf04614d7dcfc2e2354b3efae83a55a4d115a7a8102c571becb53e9572aa30", func := "rollcall/rollcalllaw16.PaceMay", spec := "paceMay", apart := false }
def PaceMaySaid : Prop := paceMayRow.holds Try.pinned (OpenSpec.ofChange paceMaySpec)

/-- ITS FALSE NEIGHBOUR: 'it returns false'. Refute it at one input. -/
def paceMayWrong : ChangeSpec := { name := "paceMay", fn := fun _ => fun
  | [d1, d2, d3] => { results := [.lit (.bool false)], args := [d1, d2, d3] }
  | _ => none }
def PaceMayWrongFalsely : Prop := paceMayRow.holds Try.pinned (OpenSpec.ofChange paceMayWrong)

/-- 'rollcalllaw16.PaceFull': WHATEVER THE INPUT: true; the input reads as it did. -/
def paceFullSpec : ChangeSpec := { name := "paceFull", fn := fun _ => fun
  | [d1, d2] => { results := [.lit (.bool true)], args := [d1, d2] }
  | _ => none }
def paceFullRow : OpenClaim := { program := "ytlidfgpjhoddjaa", sum := "69bf04614d7dcfc2e2354b3efae83a55a4d115a7a8102c571becb53e9572aa30", func := "rollcall/rollcalllaw16.PaceFull", spec := "paceFull", apart := false }
def PaceFullSaid : Prop := paceFullRow.holds Try.pinned (OpenSpec.ofChange paceFullSpec)

/-- ITS FALSE NEIGHBOUR: 'it returns false'. Refute it at one input. -/
def paceFullWrong : ChangeSpec := { name := "paceFull", fn := fun _ => fun
  | [d1, d2] => { results := [.lit (.bool false)], args := [d1, d2] }
  | _ => none }
def PaceFullWrongFalsely : Prop := paceFullRow.holds Try.pinned (OpenSpec.ofChange paceFullWrong)

/-- 'rollcalllaw16.PaceMore': WHATEVER THE INPUT: true; the input reads as it did. -/
def paceMoreSpec : ChangeSpec := { name := "paceMore", fn := fun _ => fun
  | [d1, d2, d3] => { results := [.lit (.bool true)], args := [d1, d2, d3] }
  | _ => none }
def paceMoreRow : OpenClaim := { program := "ytlidfgpjhoddjaa", sum := "69bf04614d7dcfc2e2354b3efae83a55a4d115a7a8102c571becb53e9572aa30", func := "rollcall/rollcalllaw16.PaceMore", spec := "paceMore", apart := false }
def PaceMoreSaid : Prop := paceMoreRow.holds Try.pinned (OpenSpec.ofChange paceMoreSpec)

/-- ITS FALSE NEIGHBOUR: 'it returns false'. Refute it at one input. -/
def paceMoreWrong : ChangeSpec := { name := "paceMore", fn := fun _ => fun
  | [d1, d2, d3] => { results := [.lit (.bool false)], args := [d1, d2, d3] }
  | _ => none }
def PaceMoreWrongFalsely : Prop := paceMoreRow.holds Try.pinned (OpenSpec.ofChange paceMoreWrong)

/- THE SECOND FORM. 'bulk': how many values and letters a reading holds, each counted each time it is reached (what is shared counts as often as it is met; a slice's spare places count too). A statement '..UptoSaid' is the law's where the arguments, and the package variables that the reading takes, are together of bulk at most 1048576: NARROWER than '..Said'. Prove '..Said' where nothing that the law and all that it calls make is longer than what came in: it says more and counts as full. Else prove '..UptoSaid'. A law counts once. -/
mutual
def uptoBulk {H : Type} : DataW H → Nat
  | .lit (.string bytes) => bytes.length + 1
  | .lit _ => 1
  | .nil => 1
  | .ptr d => uptoBulk d + 1
  | .slice elems spare => uptoBulkAll elems + uptoBulkAll spare + 1
  | .agg parts => uptoBulkAll parts + 1
  | .iface _ d => uptoBulk d + 1
  | .map entries => uptoBulkEntries entries + 1
  | .held _ => 1
def uptoBulkAll {H : Type} : List (DataW H) → Nat
  | [] => 0
  | d :: r => uptoBulk d + uptoBulkAll r
def uptoBulkEntries {H : Type} : List (Lit × DataW H) → Nat
  | [] => 0
  | x :: r => uptoBulkEntry x + uptoBulkEntries r
def uptoBulkEntry {H : Type} : Lit × DataW H → Nat
  | (.string bytes, d) => bytes.length + uptoBulk d + 1
  | (_, d) => uptoBulk d + 1
 end
def uptoSmall : (H : Type) → List (DataW H) → Bool := fun _ ds => decide (uptoBulkAll ds ≤ 1048576)
def OpenSpec.upto (s : _root_.Go.ChangeSpec) : _root_.Go.OpenSpec := { _root_.Go.OpenSpec.ofChange s with cond := some uptoSmall }

/-- 'rollcalllaw16.PaceTells', WHERE WHAT IT READS IS OF BULK AT MOST 1048576: true; the input reads as it did. -/
def paceTellsUptoRow : OpenClaim := { program := "ytlidfgpjhoddjaa", sum := "69bf04614d7dcfc2e2354b3efae83a55a4d115a7a8102c571becb53e9572aa30", func := "rollcall/rollcalllaw16.PaceTells", spec := "paceTells", apart := false, narrowed := true }
def PaceTellsUptoSaid : Prop := paceTellsUptoRow.holds Try.pinned (OpenSpec.upto paceTellsSpec)

/-- 'rollcalllaw16.PaceRate', WHERE WHAT IT READS IS OF BULK AT MOST 1048576: true; the input reads as it did. -/
def paceRateUptoRow : OpenClaim := { program := "ytlidfgpjhoddjaa", sum := "69bf04614d7dcfc2e2354b3efae83a55a4d115a7a8102c571becb53e9572aa30", func := "rollcall/rollcalllaw16.PaceRate", spec := "paceRate", apart := false, narrowed := true }
def PaceRateUptoSaid : Prop := paceRateUptoRow.holds Try.pinned (OpenSpec.upto paceRateSpec)

/-- 'rollcalllaw16.PaceMay', WHERE WHAT IT READS IS OF BULK AT MOST 1048576: true; the input reads as it did. -/
def paceMayUptoRow : OpenClaim := { program := "ytlidfgpjhoddjaa", sum := "69bf04614d7dcfc2e2354b3efae83a55a4d115a7a8102c571becb53e9572aa30", func := "rollcall/rollcalllaw16.PaceMay", spec := "paceMay", apart := false, narrowed := true }
def PaceMayUptoSaid : Prop := paceMayUptoRow.holds Try.pinned (OpenSpec.upto paceMaySpec)

/-- 'rollcalllaw16.PaceFull', WHERE WHAT IT READS IS OF BULK AT MOST 1048576: true; the input reads as it did. -/
def paceFullUptoRow : OpenClaim := { program := "ytlidfgpjhoddjaa", sum := "69bf04614d7dcfc2e2354b3efae83a55a4d115a7a8102c571becb53e9572aa30", func := "rollcall/rollcalllaw16.PaceFull", spec := "paceFull", apart := false, narrowed := true }
def PaceFullUptoSaid : Prop := paceFullUptoRow.holds Try.pinned (OpenSpec.upto paceFullSpec)

/-- 'rollcalllaw16.PaceMore', WHERE WHAT IT READS IS OF BULK AT MOST 1048576: true; the input reads as it did. -/
def paceMoreUptoRow : OpenClaim := { program := "ytlidfgpjhoddjaa", sum := "69bf04614d7dcfc2e2354b3efae83a55a4d115a7a8102c571becb53e9572aa30", func := "rollcall/rollcalllaw16.PaceMore", spec := "paceMore", apart := false, narrowed := true }
def PaceMoreUptoSaid : Prop := paceMoreUptoRow.holds Try.pinned (OpenSpec.upto paceMoreSpec)

end Rows
end Go.Proofs.Ytlidfgpjhoddjaa
