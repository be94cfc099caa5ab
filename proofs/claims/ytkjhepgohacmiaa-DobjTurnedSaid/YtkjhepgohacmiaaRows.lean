/-
  No cell of these rows narrows 'for every input' (looked for: loops, veiled, ifaces, maps, wideKeys, modest, calm, conditions, laid).
  DERIVED. THE GIVEN ROWS OF THIS SEAT. 3 by the template 'for every input the law returns true; each argument reads behind the call as it read before'; 0 by the template 'total and deterministic' (their statements: YtkjhepgohacmiaaTotals.lean).
  GIVEN WITH THE SEED: the statements are not yours to turn. If you find one false, say at which input.
  Laid BY PROGRAM, IN A SANDBOX (cutbox-rows.mjs): the forced cells as the released guide's own fill.sh prints them over the translation 6d2b6c7be9754596… (all of the seat's roots in one cut). By AI agents, Wed Nov 11 2026. No macro, syntax, notation, axiom, sorry.
-/
import Derived.Test.YtkjhepgohacmiaaChecked
import GoSem.Claim
import GoSem.ClaimJoined
import GoSem.ClaimMapViews
import Derived.JoinedTies
import Derived.KernelRfl
namespace Go.Proofs.Ytkjhepgohacmiaa
/- THE CELL 'sum', in the pinned program and in every row, IS THE sha256 OF THE DUMP (.gsa) THAT YtkjhepgohacmiaaProg.lean LOADS. Nothing in Lean hashes anything: it is a label: what it is worth is what the hold of that sum in a sandbox is worth. -/
noncomputable def Try.pinned : Pinned := { name := "ytkjhepgohacmiaa", sum := "6d2b6c7be9754596aee1fed0bb7e21ef8195cf9c0ba9a7d2b82fbd098c4175ff", checked := Try.checked }
namespace Rows
def none {H : Type} : Left H := { results := [], args := [] }

/-- 'lighterlaw13.DobjTells': WHATEVER THE INPUT: true; the input reads as it did. -/
def dobjTellsSpec : ChangeSpec := { name := "dobjTells", fn := fun _ => fun
  | [d] => { results := [.lit (.bool true)], args := [d] }
  | _ => none }
def dobjTellsRow : OpenClaim := { program := "ytkjhepgohacmiaa", sum := "6d2b6c7be9754596aee1fed0bb7e21ef8195cf9c0ba9a7d2b82fbd098c4175ff", func := "lighter/lighterlaw13.DobjTells", spec := "dobjTells", unfollowed := true, recurses := true, apart := false }
def DobjTellsSaid : Prop := dobjTellsRow.holds Try.pinned (OpenSpec.ofChange dobjTellsSpec)

/-- ITS FALSE NEIGHBOUR: 'it returns false'. Refute it at one input. -/
def dobjTellsWrong : ChangeSpec := { name := "dobjTells", fn := fun _ => fun
  | [d] => { results := [.lit (.bool false)], args := [d] }
  | _ => none }
def DobjTellsWrongFalsely : Prop := dobjTellsRow.holds Try.pinned (OpenSpec.ofChange dobjTellsWrong)

/-- 'lighterlaw13.DobjBack': WHATEVER THE INPUT: true; the input reads as it did. -/
def dobjBackSpec : ChangeSpec := { name := "dobjBack", fn := fun _ => fun
  | [d1, d2] => { results := [.lit (.bool true)], args := [d1, d2] }
  | _ => none }
def dobjBackRow : OpenClaim := { program := "ytkjhepgohacmiaa", sum := "6d2b6c7be9754596aee1fed0bb7e21ef8195cf9c0ba9a7d2b82fbd098c4175ff", func := "lighter/lighterlaw13.DobjBack", spec := "dobjBack", unfollowed := true, recurses := true, apart := false }
def DobjBackSaid : Prop := dobjBackRow.holds Try.pinned (OpenSpec.ofChange dobjBackSpec)

/-- ITS FALSE NEIGHBOUR: 'it returns false'. Refute it at one input. -/
def dobjBackWrong : ChangeSpec := { name := "dobjBack", fn := fun _ => fun
  | [d1, d2] => { results := [.lit (.bool false)], args := [d1, d2] }
  | _ => none }
def DobjBackWrongFalsely : Prop := dobjBackRow.holds Try.pinned (OpenSpec.ofChange dobjBackWrong)

/-- 'lighterlaw13.DobjTurned': WHATEVER THE INPUT: true; the input reads as it did. -/
def dobjTurnedSpec : ChangeSpec := { name := "dobjTurned", fn := fun _ => fun
  | [d1, d2, d3] => { results := [.lit (.bool true)], args := [d1, d2, d3] }
  | _ => none }
def dobjTurnedRow : OpenClaim := { program := "ytkjhepgohacmiaa", sum := "6d2b6c7be9754596aee1fed0bb7e21ef8195cf9c0ba9a7d2b82fbd098c4175ff", func := "lighter/lighterlaw13.DobjTurned", spec := "dobjTurned", unfollowed := true, recurses := true, apart := false }
def DobjTurnedSaid : Prop := dobjTurnedRow.holds Try.pinned (OpenSpec.ofChange dobjTurnedSpec)

/-- ITS FALSE NEIGHBOUR: 'it returns false'. Refute it at one input. -/
def dobjTurnedWrong : ChangeSpec := { name := "dobjTurned", fn := fun _ => fun
  | [d1, d2, d3] => { results := [.lit (.bool false)], args := [d1, d2, d3] }
  | _ => none }
def DobjTurnedWrongFalsely : Prop := dobjTurnedRow.holds Try.pinned (OpenSpec.ofChange dobjTurnedWrong)

/- THE SECOND FORM. 'bulk': how many values and letters a reading holds, each counted each time it is reached (what is shared counts as often as it is met; a slice's spare places count too). A statement '..UptoSaid' is the law's where the arguments, and the package variables that the reading takes, are together of bulk at most 1048576: NARROWER than '..Said'. Prove '..Said' where nothing that the law and all that it calls make is longer than what came in: it says more and counts as full. Else prove '..UptoSaid'. A law counts once. -/
mutual
def uptoBulk {H : Type} : DataW H → Nat
  | .lit (.string bytes) => bytes.length + 1
  | .lit _ => 1
  | .nil => 1
  | .ptr d => uptoBulk d + 1
  | .slice elems spare => uptoBulkAll elems + uptoBulkAll spare + 1
  | .agg parts => uptoBulkAll parts + 1
  | .iface _ d => uptoBulk d + 1
  | .map entries => uptoBulkEntries entries + 1
  | .held _ => 1
def uptoBulkAll {H : Type} : List (DataW H) → Nat
  | [] => 0
  | d :: r => uptoBulk d + uptoBulkAll r
def uptoBulkEntries {H : Type} : List (Lit × DataW H) → Nat
  | [] => 0
  | x :: r => uptoBulkEntry x + uptoBulkEntries r
def uptoBulkEntry {H : Type} : Lit × DataW H → Nat
  | (.string bytes, d) => bytes.length + uptoBulk d + 1
  | (_, d) => uptoBulk d + 1
 end
def uptoSmall : (H : Type) → List (DataW H) → Bool := fun _ ds => decide (uptoBulkAll ds ≤ 1048576)
def OpenSpec.upto (s : _root_.Go.ChangeSpec) : _root_.Go.OpenSpec := { _root_.Go.OpenSpec.ofChange s with cond := some uptoSmall }

/-- 'lighterlaw13.DobjTells', WHERE WHAT IT READS IS OF BULK AT MOST 1048576: true; the input reads as it did. -/
def dobjTellsUptoRow : OpenClaim := { program := "ytkjhepgohacmiaa", sum := "6d2b6c7be9754596aee1fed0bb7e21ef8195cf9c0ba9a7d2b82fbd098c4175ff", func := "lighter/lighterlaw13.DobjTells", spec := "dobjTells", unfollowed := true, recurses := true, apart := false, narrowed := true }
def DobjTellsUptoSaid : Prop := dobjTellsUptoRow.holds Try.pinned (OpenSpec.upto dobjTellsSpec)

/-- 'lighterlaw13.DobjBack', WHERE WHAT IT READS IS OF BULK AT MOST 1048576: true; the input reads as it did. -/
def dobjBackUptoRow : OpenClaim := { program := "ytkjhepgohacmiaa", sum := "6d2b6c7be9754596aee1fed0bb7e21ef8195cf9c0ba9a7d2b82fbd098c4175ff", func := "lighter/lighterlaw13.DobjBack", spec := "dobjBack", unfollowed := true, recurses := true, apart := false, narrowed := true }
def DobjBackUptoSaid : Prop := dobjBackUptoRow.holds Try.pinned (OpenSpec.upto dobjBackSpec)

/-- 'lighterlaw13.DobjTurned', WHERE WHAT IT READS IS OF BULK AT MOST 1048576: true; the input reads as it did. -/
def dobjTurnedUptoRow : OpenClaim := { program := "ytkjhepgohacmiaa", sum := "6d2b6c7be9754596aee1fed0bb7e21ef8195cf9c0ba9a7d2b82fbd098c4175ff", func := "lighter/lighterlaw13.DobjTurned", spec := "dobjTurned", unfollowed := true, recurses := true, apart := false, narrowed := true }
def DobjTurnedUptoSaid : Prop := dobjTurnedUptoRow.holds Try.pinned (OpenSpec.upto dobjTurnedSpec)

end Rows
end Go.Proofs.Ytkjhepgohacmiaa
