/-
  No cell of these rows narrows 'for every input' (looked for: loops, veiled, ifaces, maps, wideKeys, modest, calm, conditions, laid).
  DERIVED. THE GIVEN ROWS OF THIS SEAT. 7 by the template 'for every input the law returns true; each argument reads behind the call as it read before'; 0 by the template 'total and deterministic' (their statements: YtnljlpmeeeajmaaTotals.lean).
  GIVEN WITH THE SEED: the statements are not yours to turn. If you find one false, say at which input.
  Laid BY PROGRAM, IN A SANDBOX (cutbox-rows.mjs): the forced cells as the released guide's own fill.sh prints them over the translation d139bfe5001aac4e… (all of the seat's roots in one cut). By AI agents, Wed Nov 11 2026. No macro, syntax, notation, axiom, sorry.
-/
import Derived.Test.YtnljlpmeeeajmaaChecked
import GoSem.Claim
import GoSem.ClaimJoined
import GoSem.ClaimMapViews
import Derived.JoinedTies
import Derived.KernelRfl
namespace Go.Proofs.Ytnljlpmeeeajmaa
/- THE CELL 'sum', in the pinned program and in every row, IS THE sha256 OF THE DUMP (.gsa) THAT YtnljlpmeeeajmaaProg.lean LOADS. Nothing in Lean hashes anything: it is a label: what it is worth is what the hold of that sum in a sandbox is worth. -/
noncomputable def Try.pinned : Pinned := { name := "ytnljlpmeeeajmaa", sum := "d139bfe5001aac4eb1c806897f80d459aef2acfa81daf454fc867456f5c71947", checked := Try.checked }
namespace Rows
def none {H : Type} : Left H := { results := [], args := [] }

/-- 'lighterlaw07.ExtmapFew': WHATEVER THE INPUT: true; the input reads as it did. -/
def extmapFewSpec : ChangeSpec := { name := "extmapFew", fn := fun _ => fun
  | [d] => { results := [.lit (.bool true)], args := [d] }
  | _ => none }
def extmapFewRow : OpenClaim := { program := "ytnljlpmeeeajmaa", sum := "d139bfe5001aac4eb1c806897f80d459aef2acfa81daf454fc867456f5c71947", func := "lighter/lighterlaw07.ExtmapFew", spec := "extmapFew", unfollowed := true, recurses := true, apart := false }
def ExtmapFewSaid : Prop := extmapFewRow.holds Try.pinned (OpenSpec.ofChange extmapFewSpec)

/-- ITS FALSE NEIGHBOUR: 'it returns false'. Refute it at one input. -/
def extmapFewWrong : ChangeSpec := { name := "extmapFew", fn := fun _ => fun
  | [d] => { results := [.lit (.bool false)], args := [d] }
  | _ => none }
def ExtmapFewWrongFalsely : Prop := extmapFewRow.holds Try.pinned (OpenSpec.ofChange extmapFewWrong)

/-- 'lighterlaw07.ExtmapMoves': WHATEVER THE INPUT: true; the input reads as it did. -/
def extmapMovesSpec : ChangeSpec := { name := "extmapMoves", fn := fun _ => fun
  | [d1, d2, d3] => { results := [.lit (.bool true)], args := [d1, d2, d3] }
  | _ => none }
def extmapMovesRow : OpenClaim := { program := "ytnljlpmeeeajmaa", sum := "d139bfe5001aac4eb1c806897f80d459aef2acfa81daf454fc867456f5c71947", func := "lighter/lighterlaw07.ExtmapMoves", spec := "extmapMoves", unfollowed := true, recurses := true, apart := false }
def ExtmapMovesSaid : Prop := extmapMovesRow.holds Try.pinned (OpenSpec.ofChange extmapMovesSpec)

/-- ITS FALSE NEIGHBOUR: 'it returns false'. Refute it at one input. -/
def extmapMovesWrong : ChangeSpec := { name := "extmapMoves", fn := fun _ => fun
  | [d1, d2, d3] => { results := [.lit (.bool false)], args := [d1, d2, d3] }
  | _ => none }
def ExtmapMovesWrongFalsely : Prop := extmapMovesRow.holds Try.pinned (OpenSpec.ofChange extmapMovesWrong)

/-- 'lighterlaw07.ExtmapLast': WHATEVER THE INPUT: true; the input reads as it did. -/
def extmapLastSpec : ChangeSpec := { name := "extmapLast", fn := fun _ => fun
  | [d1, d2, d3] => { results := [.lit (.bool true)], args := [d1, d2, d3] }
  | _ => none }
def extmapLastRow : OpenClaim := { program := "ytnljlpmeeeajmaa", sum := "d139bfe5001aac4eb1c806897f80d459aef2acfa81daf454fc867456f5c71947", func := "lighter/lighterlaw07.ExtmapLast", spec := "extmapLast", unfollowed := true, recurses := true, apart := false }
def ExtmapLastSaid : Prop := extmapLastRow.holds Try.pinned (OpenSpec.ofChange extmapLastSpec)

/-- ITS FALSE NEIGHBOUR: 'it returns false'. Refute it at one input. -/
def extmapLastWrong : ChangeSpec := { name := "extmapLast", fn := fun _ => fun
  | [d1, d2, d3] => { results := [.lit (.bool false)], args := [d1, d2, d3] }
  | _ => none }
def ExtmapLastWrongFalsely : Prop := extmapLastRow.holds Try.pinned (OpenSpec.ofChange extmapLastWrong)

/-- 'lighterlaw07.ExtmapAgain': WHATEVER THE INPUT: true; the input reads as it did. -/
def extmapAgainSpec : ChangeSpec := { name := "extmapAgain", fn := fun _ => fun
  | [d1, d2, d3] => { results := [.lit (.bool true)], args := [d1, d2, d3] }
  | _ => none }
def extmapAgainRow : OpenClaim := { program := "ytnljlpmeeeajmaa", sum := "d139bfe5001aac4eb1c806897f80d459aef2acfa81daf454fc867456f5c71947", func := "lighter/lighterlaw07.ExtmapAgain", spec := "extmapAgain", unfollowed := true, recurses := true, apart := false }
def ExtmapAgainSaid : Prop := extmapAgainRow.holds Try.pinned (OpenSpec.ofChange extmapAgainSpec)

/-- ITS FALSE NEIGHBOUR: 'it returns false'. Refute it at one input. -/
def extmapAgainWrong : ChangeSpec := { name := "extmapAgain", fn := fun _ => fun
  | [d1, d2, d3] => { results := [.lit (.bool false)], args := [d1, d2, d3] }
  | _ => none }
def ExtmapAgainWrongFalsely : Prop := extmapAgainRow.holds Try.pinned (OpenSpec.ofChange extmapAgainWrong)

/-- 'lighterlaw07.ExtmapPlays': WHATEVER THE INPUT: true; the input reads as it did. -/
def extmapPlaysSpec : ChangeSpec := { name := "extmapPlays", fn := fun _ => fun
  | [d] => { results := [.lit (.bool true)], args := [d] }
  | _ => none }
def extmapPlaysRow : OpenClaim := { program := "ytnljlpmeeeajmaa", sum := "d139bfe5001aac4eb1c806897f80d459aef2acfa81daf454fc867456f5c71947", func := "lighter/lighterlaw07.ExtmapPlays", spec := "extmapPlays", unfollowed := true, recurses := true, apart := false }
def ExtmapPlaysSaid : Prop := extmapPlaysRow.holds Try.pinned (OpenSpec.ofChange extmapPlaysSpec)

/-- ITS FALSE NEIGHBOUR: 'it returns false'. Refute it at one input. -/
def extmapPlaysWrong : ChangeSpec := { name := "extmapPlays", fn := fun _ => fun
  | [d] => { results := [.lit (.bool false)], args := [d] }
  | _ => none }
def ExtmapPlaysWrongFalsely : Prop := extmapPlaysRow.holds Try.pinned (OpenSpec.ofChange extmapPlaysWrong)

/-- 'lighterlaw07.ExtmapCopies': WHATEVER THE INPUT: true; the input reads as it did. -/
def extmapCopiesSpec : ChangeSpec := { name := "extmapCopies", fn := fun _ => fun
  | [d1, d2] => { results := [.lit (.bool true)], args := [d1, d2] }
  | _ => none }
def extmapCopiesRow : OpenClaim := { program := "ytnljlpmeeeajmaa", sum := "d139bfe5001aac4eb1c806897f80d459aef2acfa81daf454fc867456f5c71947", func := "lighter/lighterlaw07.ExtmapCopies", spec := "extmapCopies", unfollowed := true, recurses := true, apart := false }
def ExtmapCopiesSaid : Prop := extmapCopiesRow.holds Try.pinned (OpenSpec.ofChange extmapCopiesSpec)

/-- ITS FALSE NEIGHBOUR: 'it returns false'. Refute it at one input. -/
def extmapCopiesWrong : ChangeSpec := { name := "extmapCopies", fn := fun _ => fun
  | [d1, d2] => { results := [.lit (.bool false)], args := [d1, d2] }
  | _ => none }
def ExtmapCopiesWrongFalsely : Prop := extmapCopiesRow.holds Try.pinned (OpenSpec.ofChange extmapCopiesWrong)

/-- 'lighterlaw07.ExtmapNil': WHATEVER THE INPUT: true; the input reads as it did. -/
def extmapNilSpec : ChangeSpec := { name := "extmapNil", fn := fun _ => fun
  | [d] => { results := [.lit (.bool true)], args := [d] }
  | _ => none }
def extmapNilRow : OpenClaim := { program := "ytnljlpmeeeajmaa", sum := "d139bfe5001aac4eb1c806897f80d459aef2acfa81daf454fc867456f5c71947", func := "lighter/lighterlaw07.ExtmapNil", spec := "extmapNil", unfollowed := true, recurses := true, apart := false }
def ExtmapNilSaid : Prop := extmapNilRow.holds Try.pinned (OpenSpec.ofChange extmapNilSpec)

/-- ITS FALSE NEIGHBOUR: 'it returns false'. Refute it at one input. -/
def extmapNilWrong : ChangeSpec := { name := "extmapNil", fn := fun _ => fun
  | [d] => { results := [.lit (.bool false)], args := [d] }
  | _ => none }
def ExtmapNilWrongFalsely : Prop := extmapNilRow.holds Try.pinned (OpenSpec.ofChange extmapNilWrong)

/- THE SECOND FORM. 'bulk': how many values and letters a reading holds, each counted each time it is reached (what is shared counts as often as it is met; a slice's spare places count too). A statement '..UptoSaid' is the law's where the arguments, and the package variables that the reading takes, are together of bulk at most 1048576: NARROWER than '..Said'. Prove '..Said' where nothing that the law and all that it calls make is longer than what came in: it says more and counts as full. Else prove '..UptoSaid'. A law counts once. -/
mutual
def uptoBulk {H : Type} : DataW H → Nat
  | .lit (.string bytes) => bytes.length + 1
  | .lit _ => 1
  | .nil => 1
  | .ptr d => uptoBulk d + 1
  | .slice elems spare => uptoBulkAll elems + uptoBulkAll spare + 1
  | .agg parts => uptoBulkAll parts + 1
  | .iface _ d => uptoBulk d + 1
  | .map entries => uptoBulkEntries entries + 1
  | .held _ => 1
def uptoBulkAll {H : Type} : List (DataW H) → Nat
  | [] => 0
  | d :: r => uptoBulk d + uptoBulkAll r
def uptoBulkEntries {H : Type} : List (Lit × DataW H) → Nat
  | [] => 0
  | x :: r => uptoBulkEntry x + uptoBulkEntries r
def uptoBulkEntry {H : Type} : Lit × DataW H → Nat
  | (.string bytes, d) => bytes.length + uptoBulk d + 1
  | (_, d) => uptoBulk d + 1
 end
def uptoSmall : (H : Type) → List (DataW H) → Bool := fun _ ds => decide (uptoBulkAll ds ≤ 1048576)
def OpenSpec.upto (s : _root_.Go.ChangeSpec) : _root_.Go.OpenSpec := { _root_.Go.OpenSpec.ofChange s with cond := some uptoSmall }

/-- 'lighterlaw07.ExtmapFew', WHERE WHAT IT READS IS OF BULK AT MOST 1048576: true; the input reads as it did. -/
def extmapFewUptoRow : OpenClaim := { program := "ytnljlpmeeeajmaa", sum := "d139bfe5001aac4eb1c806897f80d459aef2acfa81daf454fc867456f5c71947", func := "lighter/lighterlaw07.ExtmapFew", spec := "extmapFew", unfollowed := true, recurses := true, apart := false, narrowed := true }
def ExtmapFewUptoSaid : Prop := extmapFewUptoRow.holds Try.pinned (OpenSpec.upto extmapFewSpec)

/-- 'lighterlaw07.ExtmapMoves', WHERE WHAT IT READS IS OF BULK AT MOST 1048576: true; the input reads as it did. -/
def extmapMovesUptoRow : OpenClaim := { program := "ytnljlpmeeeajmaa", sum := "d139bfe5001aac4eb1c806897f80d459aef2acfa81daf454fc867456f5c71947", func := "lighter/lighterlaw07.ExtmapMoves", spec := "extmapMoves", unfollowed := true, recurses := true, apart := false, narrowed := true }
def ExtmapMovesUptoSaid : Prop := extmapMovesUptoRow.holds Try.pinned (OpenSpec.upto extmapMovesSpec)

/-- 'lighterlaw07.ExtmapLast', WHERE WHAT IT READS IS OF BULK AT MOST 1048576: true; the input reads as it did. -/
def extmapLastUptoRow : OpenClaim := { program := "ytnljlpmeeeajmaa", sum := "d139bfe5001aac4eb1c806897f80d459aef2acfa81daf454fc867456f5c71947", func := "lighter/lighterlaw07.ExtmapLast", spec := "extmapLast", unfollowed := true, recurses := true, apart := false, narrowed := true }
def ExtmapLastUptoSaid : Prop := extmapLastUptoRow.holds Try.pinned (OpenSpec.upto extmapLastSpec)

/-- 'lighterlaw07.ExtmapAgain', WHERE WHAT IT READS IS OF BULK AT MOST 1048576: true; the input reads as it did. -/
def extmapAgainUptoRow : OpenClaim := { program := "ytnljlpmeeeajmaa", sum := "d139bfe5001aac4eb1c806897f80d459aef2acfa81daf454fc867456f5c71947", func := "lighter/lighterlaw07.ExtmapAgain", spec := "extmapAgain", unfollowed := true, recurses := true, apart := false, narrowed := true }
def ExtmapAgainUptoSaid : Prop := extmapAgainUptoRow.holds Try.pinned (OpenSpec.upto extmapAgainSpec)

/-- 'lighterlaw07.ExtmapPlays', WHERE WHAT IT READS IS OF BULK AT MOST 1048576: true; the input reads as it did. -/
def extmapPlaysUptoRow : OpenClaim := { program := "ytnljlpmeeeajmaa", sum := "d139bfe5001aac4eb1c806897f80d459aef2acfa81daf454fc867456f5c71947", func := "lighter/lighterlaw07.ExtmapPlays", spec := "extmapPlays", unfollowed := true, recurses := true, apart := false, narrowed := true }
def ExtmapPlaysUptoSaid : Prop := extmapPlaysUptoRow.holds Try.pinned (OpenSpec.upto extmapPlaysSpec)

/-- 'lighterlaw07.ExtmapCopies', WHERE WHAT IT READS IS OF BULK AT MOST 1048576: true; the input reads as it did. -/
def extmapCopiesUptoRow : OpenClaim := { program := "ytnljlpmeeeajmaa", sum := "d139bfe5001aac4eb1c806897f80d459aef2acfa81daf454fc867456f5c71947", func := "lighter/lighterlaw07.ExtmapCopies", spec := "extmapCopies", unfollowed := true, recurses := true, apart := false, narrowed := true }
def ExtmapCopiesUptoSaid : Prop := extmapCopiesUptoRow.holds Try.pinned (OpenSpec.upto extmapCopiesSpec)

/-- 'lighterlaw07.ExtmapNil', WHERE WHAT IT READS IS OF BULK AT MOST 1048576: true; the input reads as it did. -/
def extmapNilUptoRow : OpenClaim := { program := "ytnljlpmeeeajmaa", sum := "d139bfe5001aac4eb1c806897f80d459aef2acfa81daf454fc867456f5c71947", func := "lighter/lighterlaw07.ExtmapNil", spec := "extmapNil", unfollowed := true, recurses := true, apart := false, narrowed := true }
def ExtmapNilUptoSaid : Prop := extmapNilUptoRow.holds Try.pinned (OpenSpec.upto extmapNilSpec)

end Rows
end Go.Proofs.Ytnljlpmeeeajmaa
