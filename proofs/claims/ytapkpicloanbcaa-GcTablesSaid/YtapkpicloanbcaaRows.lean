/-
  No cell of these rows narrows 'for every input' (looked for: loops, veiled, ifaces, maps, wideKeys, modest, calm, conditions, laid).
  DERIVED. THE GIVEN ROWS OF THIS SEAT. 5 by the template 'for every input the law returns true; each argument reads behind the call as it read before'; 0 by the template 'total and deterministic' (their statements: YtapkpicloanbcaaTotals.lean).
  GIVEN WITH THE SEED: the statements are not yours to turn. If you find one false, say at which input.
  Laid BY PROGRAM, IN A SANDBOX (cutbox-rows.mjs): the forced cells as the released guide's own fill.sh prints them over the translation a881f38ede6e80ae… (all of the seat's roots in one cut). By AI agents, Wed Nov 11 2026. No macro, syntax, notation, axiom, sorry.
-/
import Derived.Test.YtapkpicloanbcaaChecked
import GoSem.Claim
import GoSem.ClaimJoined
import GoSem.ClaimMapViews
import Derived.JoinedTies
import Derived.KernelRfl
namespace Go.Proofs.Ytapkpicloanbcaa
/- THE CELL 'sum', in the pinned program and in every row, IS THE sha256 OF THE DUMP (.gsa) THAT YtapkpicloanbcaaProg.lean LOADS. Nothing in Lean hashes anything: it is a label: what it is worth is what the hold of that sum in a sandbox is worth. -/
noncomputable def Try.pinned : Pinned := { name := "ytapkpicloanbcaa", sum := "a881f38ede6e80ae6b56dcb119c91a79214fe4ec1b4519930d62e1075574bc9b", checked := Try.checked }
namespace Rows
def none {H : Type} : Left H := { results := [], args := [] }

/-- 'lighterlaw21.GcVictims': WHATEVER THE INPUT: true; the input reads as it did. -/
def gcVictimsSpec : ChangeSpec := { name := "gcVictims", fn := fun _ => fun
  | [d1, d2, d3] => { results := [.lit (.bool true)], args := [d1, d2, d3] }
  | _ => none }
def gcVictimsRow : OpenClaim := { program := "ytapkpicloanbcaa", sum := "a881f38ede6e80ae6b56dcb119c91a79214fe4ec1b4519930d62e1075574bc9b", func := "lighter/lighterlaw21.GcVictims", spec := "gcVictims", unfollowed := true, recurses := true, apart := false }
def GcVictimsSaid : Prop := gcVictimsRow.holds Try.pinned (OpenSpec.ofChange gcVictimsSpec)

/-- ITS FALSE NEIGHBOUR: 'it returns false'. Refute it at one input. -/
def gcVictimsWrong : ChangeSpec := { name := "gcVictims", fn := fun _ => fun
  | [d1, d2, d3] => { results := [.lit (.bool false)], args := [d1, d2, d3] }
  | _ => none }
def GcVictimsWrongFalsely : Prop := gcVictimsRow.holds Try.pinned (OpenSpec.ofChange gcVictimsWrong)

/-- 'lighterlaw21.GcOrphans': WHATEVER THE INPUT: true; the input reads as it did. -/
def gcOrphansSpec : ChangeSpec := { name := "gcOrphans", fn := fun _ => fun
  | [d1, d2, d3] => { results := [.lit (.bool true)], args := [d1, d2, d3] }
  | _ => none }
def gcOrphansRow : OpenClaim := { program := "ytapkpicloanbcaa", sum := "a881f38ede6e80ae6b56dcb119c91a79214fe4ec1b4519930d62e1075574bc9b", func := "lighter/lighterlaw21.GcOrphans", spec := "gcOrphans", unfollowed := true, recurses := true, apart := false }
def GcOrphansSaid : Prop := gcOrphansRow.holds Try.pinned (OpenSpec.ofChange gcOrphansSpec)

/-- ITS FALSE NEIGHBOUR: 'it returns false'. Refute it at one input. -/
def gcOrphansWrong : ChangeSpec := { name := "gcOrphans", fn := fun _ => fun
  | [d1, d2, d3] => { results := [.lit (.bool false)], args := [d1, d2, d3] }
  | _ => none }
def GcOrphansWrongFalsely : Prop := gcOrphansRow.holds Try.pinned (OpenSpec.ofChange gcOrphansWrong)

/-- 'lighterlaw21.GcBounds': WHATEVER THE INPUT: true; the input reads as it did. -/
def gcBoundsSpec : ChangeSpec := { name := "gcBounds", fn := fun _ => fun
  | [d1, d2, d3] => { results := [.lit (.bool true)], args := [d1, d2, d3] }
  | _ => none }
def gcBoundsRow : OpenClaim := { program := "ytapkpicloanbcaa", sum := "a881f38ede6e80ae6b56dcb119c91a79214fe4ec1b4519930d62e1075574bc9b", func := "lighter/lighterlaw21.GcBounds", spec := "gcBounds", unfollowed := true, recurses := true, apart := false }
def GcBoundsSaid : Prop := gcBoundsRow.holds Try.pinned (OpenSpec.ofChange gcBoundsSpec)

/-- ITS FALSE NEIGHBOUR: 'it returns false'. Refute it at one input. -/
def gcBoundsWrong : ChangeSpec := { name := "gcBounds", fn := fun _ => fun
  | [d1, d2, d3] => { results := [.lit (.bool false)], args := [d1, d2, d3] }
  | _ => none }
def GcBoundsWrongFalsely : Prop := gcBoundsRow.holds Try.pinned (OpenSpec.ofChange gcBoundsWrong)

/-- 'lighterlaw21.GcCopies': WHATEVER THE INPUT: true; the input reads as it did. -/
def gcCopiesSpec : ChangeSpec := { name := "gcCopies", fn := fun _ => fun
  | [d1, d2, d3] => { results := [.lit (.bool true)], args := [d1, d2, d3] }
  | _ => none }
def gcCopiesRow : OpenClaim := { program := "ytapkpicloanbcaa", sum := "a881f38ede6e80ae6b56dcb119c91a79214fe4ec1b4519930d62e1075574bc9b", func := "lighter/lighterlaw21.GcCopies", spec := "gcCopies", unfollowed := true, recurses := true, apart := false }
def GcCopiesSaid : Prop := gcCopiesRow.holds Try.pinned (OpenSpec.ofChange gcCopiesSpec)

/-- ITS FALSE NEIGHBOUR: 'it returns false'. Refute it at one input. -/
def gcCopiesWrong : ChangeSpec := { name := "gcCopies", fn := fun _ => fun
  | [d1, d2, d3] => { results := [.lit (.bool false)], args := [d1, d2, d3] }
  | _ => none }
def GcCopiesWrongFalsely : Prop := gcCopiesRow.holds Try.pinned (OpenSpec.ofChange gcCopiesWrong)

/-- 'lighterlaw21.GcTables': WHATEVER THE INPUT: true; the input reads as it did. -/
def gcTablesSpec : ChangeSpec := { name := "gcTables", fn := fun _ => fun
  | [d1, d2] => { results := [.lit (.bool true)], args := [d1, d2] }
  | _ => none }
def gcTablesRow : OpenClaim := { program := "ytapkpicloanbcaa", sum := "a881f38ede6e80ae6b56dcb119c91a79214fe4ec1b4519930d62e1075574bc9b", func := "lighter/lighterlaw21.GcTables", spec := "gcTables", unfollowed := true, recurses := true, apart := false }
def GcTablesSaid : Prop := gcTablesRow.holds Try.pinned (OpenSpec.ofChange gcTablesSpec)

/-- ITS FALSE NEIGHBOUR: 'it returns false'. Refute it at one input. -/
def gcTablesWrong : ChangeSpec := { name := "gcTables", fn := fun _ => fun
  | [d1, d2] => { results := [.lit (.bool false)], args := [d1, d2] }
  | _ => none }
def GcTablesWrongFalsely : Prop := gcTablesRow.holds Try.pinned (OpenSpec.ofChange gcTablesWrong)

/- THE SECOND FORM. 'bulk': how many values and letters a reading holds, each counted each time it is reached (what is shared counts as often as it is met; a slice's spare places count too). A statement '..UptoSaid' is the law's where the arguments, and the package variables that the reading takes, are together of bulk at most 1048576: NARROWER than '..Said'. Prove '..Said' where nothing that the law and all that it calls make is longer than what came in: it says more and counts as full. Else prove '..UptoSaid'. A law counts once. -/
mutual
def uptoBulk {H : Type} : DataW H → Nat
  | .lit (.string bytes) => bytes.length + 1
  | .lit _ => 1
  | .nil => 1
  | .ptr d => uptoBulk d + 1
  | .slice elems spare => uptoBulkAll elems + uptoBulkAll spare + 1
  | .agg parts => uptoBulkAll parts + 1
  | .iface _ d => uptoBulk d + 1
  | .map entries => uptoBulkEntries entries + 1
  | .held _ => 1
def uptoBulkAll {H : Type} : List (DataW H) → Nat
  | [] => 0
  | d :: r => uptoBulk d + uptoBulkAll r
def uptoBulkEntries {H : Type} : List (Lit × DataW H) → Nat
  | [] => 0
  | x :: r => uptoBulkEntry x + uptoBulkEntries r
def uptoBulkEntry {H : Type} : Lit × DataW H → Nat
  | (.string bytes, d) => bytes.length + uptoBulk d + 1
  | (_, d) => uptoBulk d + 1
 end
def uptoSmall : (H : Type) → List (DataW H) → Bool := fun _ ds => decide (uptoBulkAll ds ≤ 1048576)
def OpenSpec.upto (s : _root_.Go.ChangeSpec) : _root_.Go.OpenSpec := { _root_.Go.OpenSpec.ofChange s with cond := some uptoSmall }

/-- 'lighterlaw21.GcVictims', WHERE WHAT IT READS IS OF BULK AT MOST 1048576: true; the input reads as it did. -/
def gcVictimsUptoRow : OpenClaim := { program := "ytapkpicloanbcaa", sum := "a881f38ede6e80ae6b56dcb119c91a79214fe4ec1b4519930d62e1075574bc9b", func := "lighter/lighterlaw21.GcVictims", spec := "gcVictims", unfollowed := true, recurses := true, apart := false, narrowed := true }
def GcVictimsUptoSaid : Prop := gcVictimsUptoRow.holds Try.pinned (OpenSpec.upto gcVictimsSpec)

/-- 'lighterlaw21.GcOrphans', WHERE WHAT IT READS IS OF BULK AT MOST 1048576: true; the input reads as it did. -/
def gcOrphansUptoRow : OpenClaim := { program := "ytapkpicloanbcaa", sum := "a881f38ede6e80ae6b56dcb119c91a79214fe4ec1b4519930d62e1075574bc9b", func := "lighter/lighterlaw21.GcOrphans", spec := "gcOrphans", unfollowed := true, recurses := true, apart := false, narrowed := true }
def GcOrphansUptoSaid : Prop := gcOrphansUptoRow.holds Try.pinned (OpenSpec.upto gcOrphansSpec)

/-- 'lighterlaw21.GcBounds', WHERE WHAT IT READS IS OF BULK AT MOST 1048576: true; the input reads as it did. -/
def gcBoundsUptoRow : OpenClaim := { program := "ytapkpicloanbcaa", sum := "a881f38ede6e80ae6b56dcb119c91a79214fe4ec1b4519930d62e1075574bc9b", func := "lighter/lighterlaw21.GcBounds", spec := "gcBounds", unfollowed := true, recurses := true, apart := false, narrowed := true }
def GcBoundsUptoSaid : Prop := gcBoundsUptoRow.holds Try.pinned (OpenSpec.upto gcBoundsSpec)

/-- 'lighterlaw21.GcCopies', WHERE WHAT IT READS IS OF BULK AT MOST 1048576: true; the input reads as it did. -/
def gcCopiesUptoRow : OpenClaim := { program := "ytapkpicloanbcaa", sum := "a881f38ede6e80ae6b56dcb119c91a79214fe4ec1b4519930d62e1075574bc9b", func := "lighter/lighterlaw21.GcCopies", spec := "gcCopies", unfollowed := true, recurses := true, apart := false, narrowed := true }
def GcCopiesUptoSaid : Prop := gcCopiesUptoRow.holds Try.pinned (OpenSpec.upto gcCopiesSpec)

/-- 'lighterlaw21.GcTables', WHERE WHAT IT READS IS OF BULK AT MOST 1048576: true; the input reads as it did. -/
def gcTablesUptoRow : OpenClaim := { program := "ytapkpicloanbcaa", sum := "a881f38ede6e80ae6b56dcb119c91a79214fe4ec1b4519930d62e1075574bc9b", func := "lighter/lighterlaw21.GcTables", spec := "gcTables", unfollowed := true, recurses := true, apart := false, narrowed := true }
def GcTablesUptoSaid : Prop := gcTablesUptoRow.holds Try.pinned (OpenSpec.upto gcTablesSpec)

end Rows
end Go.Proofs.Ytapkpicloanbcaa
