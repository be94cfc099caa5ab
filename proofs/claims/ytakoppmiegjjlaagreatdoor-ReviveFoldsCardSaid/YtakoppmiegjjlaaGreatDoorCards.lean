/-
  DERIVED. GIVEN WITH THE SEED: THE CARDS: each row of YtakoppmiegjjlaaGreatDoorRows.lean that lists a variable, with what it lists TIED to the program's text (the seventh form; the later family's looks); each row that meets fmt, with fmt's text TOLD by the authors' own Lean function (tested against real Go, not proved from fmt's source: count such statements apart). THE CARD IS WHAT COUNTS. Prove the row's statement (the work); the ties are given (YtakoppmiegjjlaaGreatDoorTie.lean); close each card by the builder's one call (the guide's Derived/Test/ToyasCard.lean, 'card_holds'). Laid BY PROGRAM, IN A SANDBOX (cutbox-door.mjs). By AI agents, Wed Nov 11 2026. No macro, syntax, notation, axiom, sorry.
-/
import Derived.Test.YtakoppmiegjjlaaGreatDoorRows
import GoSem.ClaimSeven
namespace Go.Proofs.YtakoppmiegjjlaaGreatDoor
namespace Rows

/-- THE TIED CARD OF 'lighterlaw19.ReviveNil'. -/
def reviveNilCard : Claim7 := { stood := { row := reviveNilRow, standIns := [], harness := (true, "2e26604ac8b6134b237fb3d09b29ef628a5094828f5ea280fa30a646749a2e97"), looks := false }, kinds := [], alts := [], laidByText := true, laidKinds := [.data, .data, .data, .data, .pinned], laidTests := true, laidLooks := .later }
def ReviveNilCardSaid : Prop := Claim7.holds Tryz.pinned (.plain (OpenSpec.ofChange reviveNilSpec)) reviveNilCard

/-- THE TIED CARD OF 'lighterlaw19.ReviveRuns'. -/
def reviveRunsCard : Claim7 := { stood := { row := reviveRunsRow, standIns := [], harness := (true, "2e26604ac8b6134b237fb3d09b29ef628a5094828f5ea280fa30a646749a2e97"), looks := false }, kinds := [], alts := [], laidByText := true, laidKinds := [.data, .data, .data, .data, .pinned], laidTests := true, laidLooks := .later }
def ReviveRunsCardSaid : Prop := Claim7.holds Tryz.pinned (.plain (OpenSpec.ofChange reviveRunsSpec)) reviveRunsCard

/-- THE TIED CARD OF 'lighterlaw19.ReviveGets'. -/
def reviveGetsCard : Claim7 := { stood := { row := reviveGetsRow, standIns := [], harness := (true, "2e26604ac8b6134b237fb3d09b29ef628a5094828f5ea280fa30a646749a2e97"), looks := false }, kinds := [], alts := [], laidByText := true, laidKinds := [.data, .data, .data, .data, .pinned], laidTests := true, laidLooks := .later }
def ReviveGetsCardSaid : Prop := Claim7.holds Tryz.pinned (.plain (OpenSpec.ofChange reviveGetsSpec)) reviveGetsCard

/-- THE TIED CARD OF 'lighterlaw19.ReviveFolds'. -/
def reviveFoldsCard : Claim7 := { stood := { row := reviveFoldsRow, standIns := [], harness := (true, "2e26604ac8b6134b237fb3d09b29ef628a5094828f5ea280fa30a646749a2e97"), looks := false }, kinds := [], alts := [], laidByText := true, laidKinds := [.data, .data, .data, .data, .pinned], laidTests := true, laidLooks := .later }
def ReviveFoldsCardSaid : Prop := Claim7.holds Tryz.pinned (.plain (OpenSpec.ofChange reviveFoldsSpec)) reviveFoldsCard

/-- THE SECOND FORM's CARD OF 'lighterlaw19.ReviveNil'. -/
def reviveNilUptoCard : Claim7 := { stood := { row := reviveNilUptoRow, standIns := [], harness := (true, "2e26604ac8b6134b237fb3d09b29ef628a5094828f5ea280fa30a646749a2e97"), looks := false }, kinds := [], alts := [], laidByText := true, laidKinds := [.data, .data, .data, .data, .pinned], laidTests := true, laidLooks := .later }
def ReviveNilUptoCardSaid : Prop := Claim7.holds Tryz.pinned (.plain (OpenSpec.upto reviveNilSpec)) reviveNilUptoCard

/-- THE SECOND FORM's CARD OF 'lighterlaw19.ReviveRuns'. -/
def reviveRunsUptoCard : Claim7 := { stood := { row := reviveRunsUptoRow, standIns := [], harness := (true, "2e26604ac8b6134b237fb3d09b29ef628a5094828f5ea280fa30a646749a2e97"), looks := false }, kinds := [], alts := [], laidByText := true, laidKinds := [.data, .data, .data, .data, .pinned], laidTests := true, laidLooks := .later }
def ReviveRunsUptoCardSaid : Prop := Claim7.holds Tryz.pinned (.plain (OpenSpec.upto reviveRunsSpec)) reviveRunsUptoCard

/-- THE SECOND FORM's CARD OF 'lighterlaw19.ReviveGets'. -/
def reviveGetsUptoCard : Claim7 := { stood := { row := reviveGetsUptoRow, standIns := [], harness := (true, "2e26604ac8b6134b237fb3d09b29ef628a5094828f5ea280fa30a646749a2e97"), looks := false }, kinds := [], alts := [], laidByText := true, laidKinds := [.data, .data, .data, .data, .pinned], laidTests := true, laidLooks := .later }
def ReviveGetsUptoCardSaid : Prop := Claim7.holds Tryz.pinned (.plain (OpenSpec.upto reviveGetsSpec)) reviveGetsUptoCard

/-- THE SECOND FORM's CARD OF 'lighterlaw19.ReviveFolds'. -/
def reviveFoldsUptoCard : Claim7 := { stood := { row := reviveFoldsUptoRow, standIns := [], harness := (true, "2e26604ac8b6134b237fb3d09b29ef628a5094828f5ea280fa30a646749a2e97"), looks := false }, kinds := [], alts := [], laidByText := true, laidKinds := [.data, .data, .data, .data, .pinned], laidTests := true, laidLooks := .later }
def ReviveFoldsUptoCardSaid : Prop := Claim7.holds Tryz.pinned (.plain (OpenSpec.upto reviveFoldsSpec)) reviveFoldsUptoCard
end Rows
end Go.Proofs.YtakoppmiegjjlaaGreatDoor
