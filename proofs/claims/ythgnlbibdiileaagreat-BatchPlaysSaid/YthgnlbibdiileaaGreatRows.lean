/-
  No cell of these rows narrows 'for every input' (looked for: loops, veiled, ifaces, maps, wideKeys, modest, calm, conditions, laid).
  DERIVED. THE GIVEN ROWS OF THIS SEAT. 4 by the template 'for every input the law returns true; each argument reads behind the call as it read before'; 0 by the template 'total and deterministic' (their statements: YthgnlbibdiileaaGreatTotals.lean).
  GIVEN WITH THE SEED: the statements are not yours to turn. If you find one false, say at which input.
  Laid BY PROGRAM, IN A SANDBOX (cutbox-rows.mjs): the forced cells as the released guide's own fill.sh prints them over the translation 4a15fce75d801f0e… (all of the seat's roots in one cut). By AI agents, Wed Nov 11 2026. No macro, syntax, notation, axiom, sorry.
-/
import Derived.Test.YthgnlbibdiileaaGreatChecked
import GoSem.Claim
import GoSem.ClaimJoined
import GoSem.ClaimMapViews
import Derived.JoinedTies
import Derived.KernelRfl
namespace Go.Proofs.YthgnlbibdiileaaGreat
/- THE CELL 'sum', in the pinned program and in every row, IS THE sha256 OF THE DUMP (.gsa) THAT YthgnlbibdiileaaGreatProg.lean LOADS. Nothing in Lean hashes anything: it is a label: what it is worth is what the hold of that sum in a sandbox is worth. -/
noncomputable def Tryz.pinned : Pinned := { name := "ythgnlbibdiileaagreat", sum := "4a15fce75d801f0ed099e364baa725a2ec339daaf30ca0c72acce51d2ba71454", checked := Tryz.checked }
namespace Rows
def none {H : Type} : Left H := { results := [], args := [] }

/-- 'lighterlaw16.BatchSeals': WHATEVER THE INPUT: true; the input reads as it did. -/
def batchSealsSpec : ChangeSpec := { name := "batchSeals", fn := fun _ => fun
  | [d1, d2, d3] => { results := [.lit (.bool true)], args := [d1, d2, d3] }
  | _ => none }
def batchSealsRow : OpenClaim := { program := "ythgnlbibdiileaagreat", sum := "4a15fce75d801f0ed099e364baa725a2ec339daaf30ca0c72acce51d2ba71454", func := "lighter/lighterlaw16.BatchSeals", spec := "batchSeals", inPlace := ["maps.clone", "internal/abi.NoEscape"], unfollowed := true, recurses := true, apart := false }
def BatchSealsSaid : Prop := batchSealsRow.holds Tryz.pinned (OpenSpec.ofChange batchSealsSpec)

/-- ITS FALSE NEIGHBOUR: 'it returns false'. Refute it at one input. -/
def batchSealsWrong : ChangeSpec := { name := "batchSeals", fn := fun _ => fun
  | [d1, d2, d3] => { results := [.lit (.bool false)], args := [d1, d2, d3] }
  | _ => none }
def BatchSealsWrongFalsely : Prop := batchSealsRow.holds Tryz.pinned (OpenSpec.ofChange batchSealsWrong)

/-- 'lighterlaw16.BatchPlays': WHATEVER THE INPUT: true; the input reads as it did. -/
def batchPlaysSpec : ChangeSpec := { name := "batchPlays", fn := fun _ => fun
  | [d1, d2, d3] => { results := [.lit (.bool true)], args := [d1, d2, d3] }
  | _ => none }
def batchPlaysRow : OpenClaim := { program := "ythgnlbibdiileaagreat", sum := "4a15fce75d801f0ed099e364baa725a2ec339daaf30ca0c72acce51d2ba71454", func := "lighter/lighterlaw16.BatchPlays", spec := "batchPlays", inPlace := ["maps.clone", "internal/abi.NoEscape"], unfollowed := true, recurses := true, apart := false }
def BatchPlaysSaid : Prop := batchPlaysRow.holds Tryz.pinned (OpenSpec.ofChange batchPlaysSpec)

/-- ITS FALSE NEIGHBOUR: 'it returns false'. Refute it at one input. -/
def batchPlaysWrong : ChangeSpec := { name := "batchPlays", fn := fun _ => fun
  | [d1, d2, d3] => { results := [.lit (.bool false)], args := [d1, d2, d3] }
  | _ => none }
def BatchPlaysWrongFalsely : Prop := batchPlaysRow.holds Tryz.pinned (OpenSpec.ofChange batchPlaysWrong)

/-- 'lighterlaw16.BatchNil': WHATEVER THE INPUT: true; the input reads as it did. -/
def batchNilSpec : ChangeSpec := { name := "batchNil", fn := fun _ => fun
  | [d1, d2] => { results := [.lit (.bool true)], args := [d1, d2] }
  | _ => none }
def batchNilRow : OpenClaim := { program := "ythgnlbibdiileaagreat", sum := "4a15fce75d801f0ed099e364baa725a2ec339daaf30ca0c72acce51d2ba71454", func := "lighter/lighterlaw16.BatchNil", spec := "batchNil", inPlace := ["maps.clone", "internal/abi.NoEscape"], unfollowed := true, recurses := true, apart := false }
def BatchNilSaid : Prop := batchNilRow.holds Tryz.pinned (OpenSpec.ofChange batchNilSpec)

/-- ITS FALSE NEIGHBOUR: 'it returns false'. Refute it at one input. -/
def batchNilWrong : ChangeSpec := { name := "batchNil", fn := fun _ => fun
  | [d1, d2] => { results := [.lit (.bool false)], args := [d1, d2] }
  | _ => none }
def BatchNilWrongFalsely : Prop := batchNilRow.holds Tryz.pinned (OpenSpec.ofChange batchNilWrong)

/-- 'lighterlaw16.BatchFolds': WHATEVER THE INPUT: true; the input reads as it did. -/
def batchFoldsSpec : ChangeSpec := { name := "batchFolds", fn := fun _ => fun
  | [d] => { results := [.lit (.bool true)], args := [d] }
  | _ => none }
def batchFoldsRow : OpenClaim := { program := "ythgnlbibdiileaagreat", sum := "4a15fce75d801f0ed099e364baa725a2ec339daaf30ca0c72acce51d2ba71454", func := "lighter/lighterlaw16.BatchFolds", spec := "batchFolds", inPlace := ["maps.clone", "internal/abi.NoEscape"], unfollowed := true, recurses := true, apart := false }
def BatchFoldsSaid : Prop := batchFoldsRow.holds Tryz.pinned (OpenSpec.ofChange batchFoldsSpec)

/-- ITS FALSE NEIGHBOUR: 'it returns false'. Refute it at one input. -/
def batchFoldsWrong : ChangeSpec := { name := "batchFolds", fn := fun _ => fun
  | [d] => { results := [.lit (.bool false)], args := [d] }
  | _ => none }
def BatchFoldsWrongFalsely : Prop := batchFoldsRow.holds Tryz.pinned (OpenSpec.ofChange batchFoldsWrong)

/- THE SECOND FORM. 'bulk': how many values and letters a reading holds, each counted each time it is reached (what is shared counts as often as it is met; a slice's spare places count too). A statement '..UptoSaid' is the law's where the arguments, and the package variables that the reading takes, are together of bulk at most 1048576: NARROWER than '..Said'. Prove '..Said' where nothing that the law and all that it calls make is longer than what came in: it says more and counts as full. Else prove '..UptoSaid'. A law counts once. -/
mutual
def uptoBulk {H : Type} : DataW H → Nat
  | .lit (.string bytes) => bytes.length + 1
  | .lit _ => 1
  | .nil => 1
  | .ptr d => uptoBulk d + 1
  | .slice elems spare => uptoBulkAll elems + uptoBulkAll spare + 1
  | .agg parts => uptoBulkAll parts + 1
  | .iface _ d => uptoBulk d + 1
  | .map entries => uptoBulkEntries entries + 1
  | .held _ => 1
def uptoBulkAll {H : Type} : List (DataW H) → Nat
  | [] => 0
  | d :: r => uptoBulk d + uptoBulkAll r
def uptoBulkEntries {H : Type} : List (Lit × DataW H) → Nat
  | [] => 0
  | x :: r => uptoBulkEntry x + uptoBulkEntries r
def uptoBulkEntry {H : Type} : Lit × DataW H → Nat
  | (.string bytes, d) => bytes.length + uptoBulk d + 1
  | (_, d) => uptoBulk d + 1
 end
def uptoSmall : (H : Type) → List (DataW H) → Bool := fun _ ds => decide (uptoBulkAll ds ≤ 1048576)
def OpenSpec.upto (s : _root_.Go.ChangeSpec) : _root_.Go.OpenSpec := { _root_.Go.OpenSpec.ofChange s with cond := some uptoSmall }

/-- 'lighterlaw16.BatchSeals', WHERE WHAT IT READS IS OF BULK AT MOST 1048576: true; the input reads as it did. -/
def batchSealsUptoRow : OpenClaim := { program := "ythgnlbibdiileaagreat", sum := "4a15fce75d801f0ed099e364baa725a2ec339daaf30ca0c72acce51d2ba71454", func := "lighter/lighterlaw16.BatchSeals", spec := "batchSeals", inPlace := ["maps.clone", "internal/abi.NoEscape"], unfollowed := true, recurses := true, apart := false, narrowed := true }
def BatchSealsUptoSaid : Prop := batchSealsUptoRow.holds Tryz.pinned (OpenSpec.upto batchSealsSpec)

/-- 'lighterlaw16.BatchPlays', WHERE WHAT IT READS IS OF BULK AT MOST 1048576: true; the input reads as it did. -/
def batchPlaysUptoRow : OpenClaim := { program := "ythgnlbibdiileaagreat", sum := "4a15fce75d801f0ed099e364baa725a2ec339daaf30ca0c72acce51d2ba71454", func := "lighter/lighterlaw16.BatchPlays", spec := "batchPlays", inPlace := ["maps.clone", "internal/abi.NoEscape"], unfollowed := true, recurses := true, apart := false, narrowed := true }
def BatchPlaysUptoSaid : Prop := batchPlaysUptoRow.holds Tryz.pinned (OpenSpec.upto batchPlaysSpec)

/-- 'lighterlaw16.BatchNil', WHERE WHAT IT READS IS OF BULK AT MOST 1048576: true; the input reads as it did. -/
def batchNilUptoRow : OpenClaim := { program := "ythgnlbibdiileaagreat", sum := "4a15fce75d801f0ed099e364baa725a2ec339daaf30ca0c72acce51d2ba71454", func := "lighter/lighterlaw16.BatchNil", spec := "batchNil", inPlace := ["maps.clone", "internal/abi.NoEscape"], unfollowed := true, recurses := true, apart := false, narrowed := true }
def BatchNilUptoSaid : Prop := batchNilUptoRow.holds Tryz.pinned (OpenSpec.upto batchNilSpec)

/-- 'lighterlaw16.BatchFolds', WHERE WHAT IT READS IS OF BULK AT MOST 1048576: true; the input reads as it did. -/
def batchFoldsUptoRow : OpenClaim := { program := "ythgnlbibdiileaagreat", sum := "4a15fce75d801f0ed099e364baa725a2ec339daaf30ca0c72acce51d2ba71454", func := "lighter/lighterlaw16.BatchFolds", spec := "batchFolds", inPlace := ["maps.clone", "internal/abi.NoEscape"], unfollowed := true, recurses := true, apart := false, narrowed := true }
def BatchFoldsUptoSaid : Prop := batchFoldsUptoRow.holds Tryz.pinned (OpenSpec.upto batchFoldsSpec)

end Rows
end Go.Proofs.YthgnlbibdiileaaGreat
