/-
  No cell of these rows narrows 'for every input' (looked for: loops, veiled, ifaces, maps, wideKeys, modest, calm, conditions, laid).
  DERIVED. THE GIVEN ROWS OF THIS SEAT. 6 by the template 'for every input the law returns true; each argument reads behind the call as it read before'; 0 by the template 'total and deterministic' (their statements: YtgmfmcammaighaaGreatTotals.lean).
  GIVEN WITH THE SEED: the statements are not yours to turn. If you find one false, say at which input.
  Laid BY PROGRAM, IN A SANDBOX (cutbox-rows.mjs): the forced cells as the released guide's own fill.sh prints them over the translation bb13fc38fbb39b14… (all of the seat's roots in one cut). By AI agents, Wed Nov 11 2026. No macro, syntax, notation, axiom, sorry.
-/
import Derived.Test.YtgmfmcammaighaaGreatChecked
import GoSem.Claim
import GoSem.ClaimJoined
import GoSem.ClaimMapViews
import Derived.JoinedTies
import Derived.KernelRfl
namespace Go.Proofs.YtgmfmcammaighaaGreat
/- THE CELL 'sum', in the pinned program and in every row, IS THE sha256 OF THE DUMP (.gsa) THAT YtgmfmcammaighaaGreatProg.lean LOADS. Nothing in Lean hashes anything: it is a label: what it is worth is what the hold of that sum in a sandbox is worth. -/
noncomputable def Tryz.pinned : Pinned := { name := "ytgmfmcammaighaagreat", sum := "bb13fc38fbb39b1424e7a749439d81f52edebc8706acc20bf6213642046376bd", checked := Tryz.checked }
namespace Rows
def none {H : Type} : Left H := { results := [], args := [] }

/-- 'lighterlaw14.CkptFolds': WHATEVER THE INPUT: true; the input reads as it did. -/
def ckptFoldsSpec : ChangeSpec := { name := "ckptFolds", fn := fun _ => fun
  | [d1, d2] => { results := [.lit (.bool true)], args := [d1, d2] }
  | _ => none }
def ckptFoldsRow : OpenClaim := { program := "ytgmfmcammaighaagreat", sum := "bb13fc38fbb39b1424e7a749439d81f52edebc8706acc20bf6213642046376bd", func := "lighter/lighterlaw14.CkptFolds", spec := "ckptFolds", unfollowed := true, recurses := true, apart := false }
def CkptFoldsSaid : Prop := ckptFoldsRow.holds Tryz.pinned (OpenSpec.ofChange ckptFoldsSpec)

/-- ITS FALSE NEIGHBOUR: 'it returns false'. Refute it at one input. -/
def ckptFoldsWrong : ChangeSpec := { name := "ckptFolds", fn := fun _ => fun
  | [d1, d2] => { results := [.lit (.bool false)], args := [d1, d2] }
  | _ => none }
def CkptFoldsWrongFalsely : Prop := ckptFoldsRow.holds Tryz.pinned (OpenSpec.ofChange ckptFoldsWrong)

/-- 'lighterlaw14.CkptLast': WHATEVER THE INPUT: true; the input reads as it did. -/
def ckptLastSpec : ChangeSpec := { name := "ckptLast", fn := fun _ => fun
  | [d] => { results := [.lit (.bool true)], args := [d] }
  | _ => none }
def ckptLastRow : OpenClaim := { program := "ytgmfmcammaighaagreat", sum := "bb13fc38fbb39b1424e7a749439d81f52edebc8706acc20bf6213642046376bd", func := "lighter/lighterlaw14.CkptLast", spec := "ckptLast", unfollowed := true, recurses := true, apart := false }
def CkptLastSaid : Prop := ckptLastRow.holds Tryz.pinned (OpenSpec.ofChange ckptLastSpec)

/-- ITS FALSE NEIGHBOUR: 'it returns false'. Refute it at one input. -/
def ckptLastWrong : ChangeSpec := { name := "ckptLast", fn := fun _ => fun
  | [d] => { results := [.lit (.bool false)], args := [d] }
  | _ => none }
def CkptLastWrongFalsely : Prop := ckptLastRow.holds Tryz.pinned (OpenSpec.ofChange ckptLastWrong)

/-- 'lighterlaw14.CkptTells': WHATEVER THE INPUT: true; the input reads as it did. -/
def ckptTellsSpec : ChangeSpec := { name := "ckptTells", fn := fun _ => fun
  | [d1, d2] => { results := [.lit (.bool true)], args := [d1, d2] }
  | _ => none }
def ckptTellsRow : OpenClaim := { program := "ytgmfmcammaighaagreat", sum := "bb13fc38fbb39b1424e7a749439d81f52edebc8706acc20bf6213642046376bd", func := "lighter/lighterlaw14.CkptTells", spec := "ckptTells", unfollowed := true, recurses := true, apart := false }
def CkptTellsSaid : Prop := ckptTellsRow.holds Tryz.pinned (OpenSpec.ofChange ckptTellsSpec)

/-- ITS FALSE NEIGHBOUR: 'it returns false'. Refute it at one input. -/
def ckptTellsWrong : ChangeSpec := { name := "ckptTells", fn := fun _ => fun
  | [d1, d2] => { results := [.lit (.bool false)], args := [d1, d2] }
  | _ => none }
def CkptTellsWrongFalsely : Prop := ckptTellsRow.holds Tryz.pinned (OpenSpec.ofChange ckptTellsWrong)

/-- 'lighterlaw14.CkptParts': WHATEVER THE INPUT: true; the input reads as it did. -/
def ckptPartsSpec : ChangeSpec := { name := "ckptParts", fn := fun _ => fun
  | [d1, d2, d3] => { results := [.lit (.bool true)], args := [d1, d2, d3] }
  | _ => none }
def ckptPartsRow : OpenClaim := { program := "ytgmfmcammaighaagreat", sum := "bb13fc38fbb39b1424e7a749439d81f52edebc8706acc20bf6213642046376bd", func := "lighter/lighterlaw14.CkptParts", spec := "ckptParts", unfollowed := true, recurses := true, apart := false }
def CkptPartsSaid : Prop := ckptPartsRow.holds Tryz.pinned (OpenSpec.ofChange ckptPartsSpec)

/-- ITS FALSE NEIGHBOUR: 'it returns false'. Refute it at one input. -/
def ckptPartsWrong : ChangeSpec := { name := "ckptParts", fn := fun _ => fun
  | [d1, d2, d3] => { results := [.lit (.bool false)], args := [d1, d2, d3] }
  | _ => none }
def CkptPartsWrongFalsely : Prop := ckptPartsRow.holds Tryz.pinned (OpenSpec.ofChange ckptPartsWrong)

/-- 'lighterlaw14.CkptReads': WHATEVER THE INPUT: true; the input reads as it did. -/
def ckptReadsSpec : ChangeSpec := { name := "ckptReads", fn := fun _ => fun
  | [d] => { results := [.lit (.bool true)], args := [d] }
  | _ => none }
def ckptReadsRow : OpenClaim := { program := "ytgmfmcammaighaagreat", sum := "bb13fc38fbb39b1424e7a749439d81f52edebc8706acc20bf6213642046376bd", func := "lighter/lighterlaw14.CkptReads", spec := "ckptReads", unfollowed := true, recurses := true, apart := false }
def CkptReadsSaid : Prop := ckptReadsRow.holds Tryz.pinned (OpenSpec.ofChange ckptReadsSpec)

/-- ITS FALSE NEIGHBOUR: 'it returns false'. Refute it at one input. -/
def ckptReadsWrong : ChangeSpec := { name := "ckptReads", fn := fun _ => fun
  | [d] => { results := [.lit (.bool false)], args := [d] }
  | _ => none }
def CkptReadsWrongFalsely : Prop := ckptReadsRow.holds Tryz.pinned (OpenSpec.ofChange ckptReadsWrong)

/-- 'lighterlaw14.CkptBack': WHATEVER THE INPUT: true; the input reads as it did. -/
def ckptBackSpec : ChangeSpec := { name := "ckptBack", fn := fun _ => fun
  | [d1, d2] => { results := [.lit (.bool true)], args := [d1, d2] }
  | _ => none }
def ckptBackRow : OpenClaim := { program := "ytgmfmcammaighaagreat", sum := "bb13fc38fbb39b1424e7a749439d81f52edebc8706acc20bf6213642046376bd", func := "lighter/lighterlaw14.CkptBack", spec := "ckptBack", unfollowed := true, recurses := true, apart := false }
def CkptBackSaid : Prop := ckptBackRow.holds Tryz.pinned (OpenSpec.ofChange ckptBackSpec)

/-- ITS FALSE NEIGHBOUR: 'it returns false'. Refute it at one input. -/
def ckptBackWrong : ChangeSpec := { name := "ckptBack", fn := fun _ => fun
  | [d1, d2] => { results := [.lit (.bool false)], args := [d1, d2] }
  | _ => none }
def CkptBackWrongFalsely : Prop := ckptBackRow.holds Tryz.pinned (OpenSpec.ofChange ckptBackWrong)

/- THE SECOND FORM. 'bulk': how many values and letters a reading holds, each counted each time it is reached (what is shared counts as often as it is met; a slice's spare places count too). A statement '..UptoSaid' is the law's where the arguments, and the package variables that the reading takes, are together of bulk at most 1048576: NARROWER than '..Said'. Prove '..Said' where nothing that the law and all that it calls make is longer than what came in: it says more and counts as full. Else prove '..UptoSaid'. A law counts once. -/
mutual
def uptoBulk {H : Type} : DataW H → Nat
  | .lit (.string bytes) => bytes.length + 1
  | .lit _ => 1
  | .nil => 1
  | .ptr d => uptoBulk d + 1
  | .slice elems spare => uptoBulkAll elems + uptoBulkAll spare + 1
  | .agg parts => uptoBulkAll parts + 1
  | .iface _ d => uptoBulk d + 1
  | .map entries => uptoBulkEntries entries + 1
  | .held _ => 1
def uptoBulkAll {H : Type} : List (DataW H) → Nat
  | [] => 0
  | d :: r => uptoBulk d + uptoBulkAll r
def uptoBulkEntries {H : Type} : List (Lit × DataW H) → Nat
  | [] => 0
  | x :: r => uptoBulkEntry x + uptoBulkEntries r
def uptoBulkEntry {H : Type} : Lit × DataW H → Nat
  | (.string bytes, d) => bytes.length + uptoBulk d + 1
  | (_, d) => uptoBulk d + 1
 end
def uptoSmall : (H : Type) → List (DataW H) → Bool := fun _ ds => decide (uptoBulkAll ds ≤ 1048576)
def OpenSpec.upto (s : _root_.Go.ChangeSpec) : _root_.Go.OpenSpec := { _root_.Go.OpenSpec.ofChange s with cond := some uptoSmall }

/-- 'lighterlaw14.CkptFolds', WHERE WHAT IT READS IS OF BULK AT MOST 1048576: true; the input reads as it did. -/
def ckptFoldsUptoRow : OpenClaim := { program := "ytgmfmcammaighaagreat", sum := "bb13fc38fbb39b1424e7a749439d81f52edebc8706acc20bf6213642046376bd", func := "lighter/lighterlaw14.CkptFolds", spec := "ckptFolds", unfollowed := true, recurses := true, apart := false, narrowed := true }
def CkptFoldsUptoSaid : Prop := ckptFoldsUptoRow.holds Tryz.pinned (OpenSpec.upto ckptFoldsSpec)

/-- 'lighterlaw14.CkptLast', WHERE WHAT IT READS IS OF BULK AT MOST 1048576: true; the input reads as it did. -/
def ckptLastUptoRow : OpenClaim := { program := "ytgmfmcammaighaagreat", sum := "bb13fc38fbb39b1424e7a749439d81f52edebc8706acc20bf6213642046376bd", func := "lighter/lighterlaw14.CkptLast", spec := "ckptLast", unfollowed := true, recurses := true, apart := false, narrowed := true }
def CkptLastUptoSaid : Prop := ckptLastUptoRow.holds Tryz.pinned (OpenSpec.upto ckptLastSpec)

/-- 'lighterlaw14.CkptTells', WHERE WHAT IT READS IS OF BULK AT MOST 1048576: true; the input reads as it did. -/
def ckptTellsUptoRow : OpenClaim := { program := "ytgmfmcammaighaagreat", sum := "bb13fc38fbb39b1424e7a749439d81f52edebc8706acc20bf6213642046376bd", func := "lighter/lighterlaw14.CkptTells", spec := "ckptTells", unfollowed := true, recurses := true, apart := false, narrowed := true }
def CkptTellsUptoSaid : Prop := ckptTellsUptoRow.holds Tryz.pinned (OpenSpec.upto ckptTellsSpec)

/-- 'lighterlaw14.CkptParts', WHERE WHAT IT READS IS OF BULK AT MOST 1048576: true; the input reads as it did. -/
def ckptPartsUptoRow : OpenClaim := { program := "ytgmfmcammaighaagreat", sum := "bb13fc38fbb39b1424e7a749439d81f52edebc8706acc20bf6213642046376bd", func := "lighter/lighterlaw14.CkptParts", spec := "ckptParts", unfollowed := true, recurses := true, apart := false, narrowed := true }
def CkptPartsUptoSaid : Prop := ckptPartsUptoRow.holds Tryz.pinned (OpenSpec.upto ckptPartsSpec)

/-- 'lighterlaw14.CkptReads', WHERE WHAT IT READS IS OF BULK AT MOST 1048576: true; the input reads as it did. -/
def ckptReadsUptoRow : OpenClaim := { program := "ytgmfmcammaighaagreat", sum := "bb13fc38fbb39b1424e7a749439d81f52edebc8706acc20bf6213642046376bd", func := "lighter/lighterlaw14.CkptReads", spec := "ckptReads", unfollowed := true, recurses := true, apart := false, narrowed := true }
def CkptReadsUptoSaid : Prop := ckptReadsUptoRow.holds Tryz.pinned (OpenSpec.upto ckptReadsSpec)

/-- 'lighterlaw14.CkptBack', WHERE WHAT IT READS IS OF BULK AT MOST 1048576: true; the input reads as it did. -/
def ckptBackUptoRow : OpenClaim := { program := "ytgmfmcammaighaagreat", sum := "bb13fc38fbb39b1424e7a749439d81f52edebc8706acc20bf6213642046376bd", func := "lighter/lighterlaw14.CkptBack", spec := "ckptBack", unfollowed := true, recurses := true, apart := false, narrowed := true }
def CkptBackUptoSaid : Prop := ckptBackUptoRow.holds Tryz.pinned (OpenSpec.upto ckptBackSpec)

end Rows
end Go.Proofs.YtgmfmcammaighaaGreat
