/-
  No cell of these rows narrows 'for every input' (looked for: loops, veiled, ifaces, maps, wideKeys, modest, calm, conditions, laid).
  DERIVED. THE GIVEN ROWS OF THIS SEAT. 5 by the template 'for every input the law returns true; each argument reads behind the call as it read before'; 0 by the template 'total and deterministic' (their statements: YtlbcedllbobpaaaTotals.lean).
  GIVEN WITH THE SEED: the statements are not yours to turn. If you find one false, say at which input.
  Laid BY PROGRAM, IN A SANDBOX (cutbox-rows.mjs): the forced cells as the released guide's own fill.sh prints them over the translation 5b1de6883c274d7e… (all of the seat's roots in one cut). By AI agents, Wed Nov 11 2026. No macro, syntax, notation, axiom, sorry.
-/
import Derived.Test.YtlbcedllbobpaaaChecked
import GoSem.Claim
import GoSem.ClaimJoined
import GoSem.ClaimMapViews
import Derived.JoinedTies
import Derived.KernelRfl
namespace Go.Proofs.Ytlbcedllbobpaaa
/- THE CELL 'sum', in the pinned program and in every row, IS THE sha256 OF THE DUMP (.gsa) THAT YtlbcedllbobpaaaProg.lean LOADS. Nothing in Lean hashes anything: it is a label: what it is worth is what the hold of that sum in a sandbox is worth. -/
noncomputable def Try.pinned : Pinned := { name := "ytlbcedllbobpaaa", sum := "5b1de6883c274d7e3c1ce3e8cefc5abe1a78b14ba921203f41ebc6c819d048db", checked := Try.checked }
namespace Rows
def none {H : Type} : Left H := { results := [], args := [] }

/-- 'lighterlaw15.ManiReads': WHATEVER THE INPUT: true; the input reads as it did. -/
def maniReadsSpec : ChangeSpec := { name := "maniReads", fn := fun _ => fun
  | [d1, d2] => { results := [.lit (.bool true)], args := [d1, d2] }
  | _ => none }
def maniReadsRow : OpenClaim := { program := "ytlbcedllbobpaaa", sum := "5b1de6883c274d7e3c1ce3e8cefc5abe1a78b14ba921203f41ebc6c819d048db", func := "lighter/lighterlaw15.ManiReads", spec := "maniReads", unfollowed := true, recurses := true, apart := false }
def ManiReadsSaid : Prop := maniReadsRow.holds Try.pinned (OpenSpec.ofChange maniReadsSpec)

/-- ITS FALSE NEIGHBOUR: 'it returns false'. Refute it at one input. -/
def maniReadsWrong : ChangeSpec := { name := "maniReads", fn := fun _ => fun
  | [d1, d2] => { results := [.lit (.bool false)], args := [d1, d2] }
  | _ => none }
def ManiReadsWrongFalsely : Prop := maniReadsRow.holds Try.pinned (OpenSpec.ofChange maniReadsWrong)

/-- 'lighterlaw15.ManiBack': WHATEVER THE INPUT: true; the input reads as it did. -/
def maniBackSpec : ChangeSpec := { name := "maniBack", fn := fun _ => fun
  | [d1, d2, d3] => { results := [.lit (.bool true)], args := [d1, d2, d3] }
  | _ => none }
def maniBackRow : OpenClaim := { program := "ytlbcedllbobpaaa", sum := "5b1de6883c274d7e3c1ce3e8cefc5abe1a78b14ba921203f41ebc6c819d048db", func := "lighter/lighterlaw15.ManiBack", spec := "maniBack", unfollowed := true, recurses := true, apart := false }
def ManiBackSaid : Prop := maniBackRow.holds Try.pinned (OpenSpec.ofChange maniBackSpec)

/-- ITS FALSE NEIGHBOUR: 'it returns false'. Refute it at one input. -/
def maniBackWrong : ChangeSpec := { name := "maniBack", fn := fun _ => fun
  | [d1, d2, d3] => { results := [.lit (.bool false)], args := [d1, d2, d3] }
  | _ => none }
def ManiBackWrongFalsely : Prop := maniBackRow.holds Try.pinned (OpenSpec.ofChange maniBackWrong)

/-- 'lighterlaw15.ManiMany': WHATEVER THE INPUT: true; the input reads as it did. -/
def maniManySpec : ChangeSpec := { name := "maniMany", fn := fun _ => fun
  | [d1, d2, d3] => { results := [.lit (.bool true)], args := [d1, d2, d3] }
  | _ => none }
def maniManyRow : OpenClaim := { program := "ytlbcedllbobpaaa", sum := "5b1de6883c274d7e3c1ce3e8cefc5abe1a78b14ba921203f41ebc6c819d048db", func := "lighter/lighterlaw15.ManiMany", spec := "maniMany", unfollowed := true, recurses := true, apart := false }
def ManiManySaid : Prop := maniManyRow.holds Try.pinned (OpenSpec.ofChange maniManySpec)

/-- ITS FALSE NEIGHBOUR: 'it returns false'. Refute it at one input. -/
def maniManyWrong : ChangeSpec := { name := "maniMany", fn := fun _ => fun
  | [d1, d2, d3] => { results := [.lit (.bool false)], args := [d1, d2, d3] }
  | _ => none }
def ManiManyWrongFalsely : Prop := maniManyRow.holds Try.pinned (OpenSpec.ofChange maniManyWrong)

/-- 'lighterlaw15.ManiTurns': WHATEVER THE INPUT: true; the input reads as it did. -/
def maniTurnsSpec : ChangeSpec := { name := "maniTurns", fn := fun _ => fun
  | [d1, d2, d3] => { results := [.lit (.bool true)], args := [d1, d2, d3] }
  | _ => none }
def maniTurnsRow : OpenClaim := { program := "ytlbcedllbobpaaa", sum := "5b1de6883c274d7e3c1ce3e8cefc5abe1a78b14ba921203f41ebc6c819d048db", func := "lighter/lighterlaw15.ManiTurns", spec := "maniTurns", unfollowed := true, recurses := true, apart := false }
def ManiTurnsSaid : Prop := maniTurnsRow.holds Try.pinned (OpenSpec.ofChange maniTurnsSpec)

/-- ITS FALSE NEIGHBOUR: 'it returns false'. Refute it at one input. -/
def maniTurnsWrong : ChangeSpec := { name := "maniTurns", fn := fun _ => fun
  | [d1, d2, d3] => { results := [.lit (.bool false)], args := [d1, d2, d3] }
  | _ => none }
def ManiTurnsWrongFalsely : Prop := maniTurnsRow.holds Try.pinned (OpenSpec.ofChange maniTurnsWrong)

/-- 'lighterlaw15.ManiAdds': WHATEVER THE INPUT: true; the input reads as it did. -/
def maniAddsSpec : ChangeSpec := { name := "maniAdds", fn := fun _ => fun
  | [d1, d2] => { results := [.lit (.bool true)], args := [d1, d2] }
  | _ => none }
def maniAddsRow : OpenClaim := { program := "ytlbcedllbobpaaa", sum := "5b1de6883c274d7e3c1ce3e8cefc5abe1a78b14ba921203f41ebc6c819d048db", func := "lighter/lighterlaw15.ManiAdds", spec := "maniAdds", unfollowed := true, recurses := true, apart := false }
def ManiAddsSaid : Prop := maniAddsRow.holds Try.pinned (OpenSpec.ofChange maniAddsSpec)

/-- ITS FALSE NEIGHBOUR: 'it returns false'. Refute it at one input. -/
def maniAddsWrong : ChangeSpec := { name := "maniAdds", fn := fun _ => fun
  | [d1, d2] => { results := [.lit (.bool false)], args := [d1, d2] }
  | _ => none }
def ManiAddsWrongFalsely : Prop := maniAddsRow.holds Try.pinned (OpenSpec.ofChange maniAddsWrong)

/- THE SECOND FORM. 'bulk': how many values and letters a reading holds, each counted each time it is reached (what is shared counts as often as it is met; a slice's spare places count too). A statement '..UptoSaid' is the law's where the arguments, and the package variables that the reading takes, are together of bulk at most 1048576: NARROWER than '..Said'. Prove '..Said' where nothing that the law and all that it calls make is longer than what came in: it says more and counts as full. Else prove '..UptoSaid'. A law counts once. -/
mutual
def uptoBulk {H : Type} : DataW H → Nat
  | .lit (.string bytes) => bytes.length + 1
  | .lit _ => 1
  | .nil => 1
  | .ptr d => uptoBulk d + 1
  | .slice elems spare => uptoBulkAll elems + uptoBulkAll spare + 1
  | .agg parts => uptoBulkAll parts + 1
  | .iface _ d => uptoBulk d + 1
  | .map entries => uptoBulkEntries entries + 1
  | .held _ => 1
def uptoBulkAll {H : Type} : List (DataW H) → Nat
  | [] => 0
  | d :: r => uptoBulk d + uptoBulkAll r
def uptoBulkEntries {H : Type} : List (Lit × DataW H) → Nat
  | [] => 0
  | x :: r => uptoBulkEntry x + uptoBulkEntries r
def uptoBulkEntry {H : Type} : Lit × DataW H → Nat
  | (.string bytes, d) => bytes.length + uptoBulk d + 1
  | (_, d) => uptoBulk d + 1
 end
def uptoSmall : (H : Type) → List (DataW H) → Bool := fun _ ds => decide (uptoBulkAll ds ≤ 1048576)
def OpenSpec.upto (s : _root_.Go.ChangeSpec) : _root_.Go.OpenSpec := { _root_.Go.OpenSpec.ofChange s with cond := some uptoSmall }

/-- 'lighterlaw15.ManiReads', WHERE WHAT IT READS IS OF BULK AT MOST 1048576: true; the input reads as it did. -/
def maniReadsUptoRow : OpenClaim := { program := "ytlbcedllbobpaaa", sum := "5b1de6883c274d7e3c1ce3e8cefc5abe1a78b14ba921203f41ebc6c819d048db", func := "lighter/lighterlaw15.ManiReads", spec := "maniReads", unfollowed := true, recurses := true, apart := false, narrowed := true }
def ManiReadsUptoSaid : Prop := maniReadsUptoRow.holds Try.pinned (OpenSpec.upto maniReadsSpec)

/-- 'lighterlaw15.ManiBack', WHERE WHAT IT READS IS OF BULK AT MOST 1048576: true; the input reads as it did. -/
def maniBackUptoRow : OpenClaim := { program := "ytlbcedllbobpaaa", sum := "5b1de6883c274d7e3c1ce3e8cefc5abe1a78b14ba921203f41ebc6c819d048db", func := "lighter/lighterlaw15.ManiBack", spec := "maniBack", unfollowed := true, recurses := true, apart := false, narrowed := true }
def ManiBackUptoSaid : Prop := maniBackUptoRow.holds Try.pinned (OpenSpec.upto maniBackSpec)

/-- 'lighterlaw15.ManiMany', WHERE WHAT IT READS IS OF BULK AT MOST 1048576: true; the input reads as it did. -/
def maniManyUptoRow : OpenClaim := { program := "ytlbcedllbobpaaa", sum := "5b1de6883c274d7e3c1ce3e8cefc5abe1a78b14ba921203f41ebc6c819d048db", func := "lighter/lighterlaw15.ManiMany", spec := "maniMany", unfollowed := true, recurses := true, apart := false, narrowed := true }
def ManiManyUptoSaid : Prop := maniManyUptoRow.holds Try.pinned (OpenSpec.upto maniManySpec)

/-- 'lighterlaw15.ManiTurns', WHERE WHAT IT READS IS OF BULK AT MOST 1048576: true; the input reads as it did. -/
def maniTurnsUptoRow : OpenClaim := { program := "ytlbcedllbobpaaa", sum := "5b1de6883c274d7e3c1ce3e8cefc5abe1a78b14ba921203f41ebc6c819d048db", func := "lighter/lighterlaw15.ManiTurns", spec := "maniTurns", unfollowed := true, recurses := true, apart := false, narrowed := true }
def ManiTurnsUptoSaid : Prop := maniTurnsUptoRow.holds Try.pinned (OpenSpec.upto maniTurnsSpec)

/-- 'lighterlaw15.ManiAdds', WHERE WHAT IT READS IS OF BULK AT MOST 1048576: true; the input reads as it did. -/
def maniAddsUptoRow : OpenClaim := { program := "ytlbcedllbobpaaa", sum := "5b1de6883c274d7e3c1ce3e8cefc5abe1a78b14ba921203f41ebc6c819d048db", func := "lighter/lighterlaw15.ManiAdds", spec := "maniAdds", unfollowed := true, recurses := true, apart := false, narrowed := true }
def ManiAddsUptoSaid : Prop := maniAddsUptoRow.holds Try.pinned (OpenSpec.upto maniAddsSpec)

end Rows
end Go.Proofs.Ytlbcedllbobpaaa
