/-
  DERIVED. GIVEN WITH THE SEED: THE CARDS: each row of YteilnbnnhocciaaDoorRows.lean that lists a variable, with what it lists TIED to the program's text (the seventh form; the later family's looks); each row that meets fmt, with fmt's text TOLD by the authors' own Lean function (tested against real Go, not proved from fmt's source: count such statements apart). THE CARD IS WHAT COUNTS. Prove the row's statement (the work); the ties are given (YteilnbnnhocciaaDoorTie.lean); close each card by the builder's one call (the guide's Derived/Test/ToyasCard.lean, 'card_holds'). Laid BY PROGRAM, IN A SANDBOX (cutbox-door.mjs). By AI agents, Wed Nov 11 2026. No macro, syntax, notation, axiom, sorry.
-/
import Derived.Test.YteilnbnnhocciaaDoorRows
import GoSem.ClaimSeven
namespace Go.Proofs.YteilnbnnhocciaaDoor
namespace Rows

/-- THE TIED CARD OF 'bourselaw12.EditBytes'. -/
def editBytesCard : Claim7 := { stood := { row := editBytesRow, standIns := [], harness := (true, "bc9cca30e6bcb58c3d7b40caaba0da34bdf01bc2fab1082ae4b270bbcf37ee66"), looks := true }, kinds := [], alts := [], laidByText := true, laidKinds := [.data, .data, .data], laidTests := true, laidLooks := .later }
def EditBytesCardSaid : Prop := Claim7.holds Tryd.pinned (.plain (OpenSpec.ofChange editBytesSpec)) editBytesCard

/-- THE TIED CARD OF 'bourselaw12.EditBack'. -/
def editBackCard : Claim7 := { stood := { row := editBackRow, standIns := [], harness := (true, "bc9cca30e6bcb58c3d7b40caaba0da34bdf01bc2fab1082ae4b270bbcf37ee66"), looks := true }, kinds := [], alts := [], laidByText := true, laidKinds := [.data, .data, .data], laidTests := true, laidLooks := .later }
def EditBackCardSaid : Prop := Claim7.holds Tryd.pinned (.plain (OpenSpec.ofChange editBackSpec)) editBackCard

/-- THE TIED CARD OF 'bourselaw05.FrameReads'. -/
def frameReadsCard : Claim7 := { stood := { row := frameReadsRow, standIns := [], harness := (true, "bc9cca30e6bcb58c3d7b40caaba0da34bdf01bc2fab1082ae4b270bbcf37ee66"), looks := true }, kinds := [], alts := [], laidByText := true, laidKinds := [.data, .pinned], laidTests := true, laidLooks := .later }
def FrameReadsCardSaid : Prop := Claim7.holds Tryd.pinned (.plain (OpenSpec.ofChange frameReadsSpec)) frameReadsCard

/-- THE TIED CARD OF 'bourselaw05.FrameBack'. -/
def frameBackCard : Claim7 := { stood := { row := frameBackRow, standIns := [], harness := (true, "bc9cca30e6bcb58c3d7b40caaba0da34bdf01bc2fab1082ae4b270bbcf37ee66"), looks := true }, kinds := [], alts := [], laidByText := true, laidKinds := [.data, .pinned], laidTests := true, laidLooks := .later }
def FrameBackCardSaid : Prop := Claim7.holds Tryd.pinned (.plain (OpenSpec.ofChange frameBackSpec)) frameBackCard

/-- THE TIED CARD OF 'bourselaw05.FrameTurns'. -/
def frameTurnsCard : Claim7 := { stood := { row := frameTurnsRow, standIns := [], harness := (true, "bc9cca30e6bcb58c3d7b40caaba0da34bdf01bc2fab1082ae4b270bbcf37ee66"), looks := true }, kinds := [], alts := [], laidByText := true, laidKinds := [.data, .pinned], laidTests := true, laidLooks := .later }
def FrameTurnsCardSaid : Prop := Claim7.holds Tryd.pinned (.plain (OpenSpec.ofChange frameTurnsSpec)) frameTurnsCard

/-- THE TIED CARD OF 'bourselaw05.FrameLays'. -/
def frameLaysCard : Claim7 := { stood := { row := frameLaysRow, standIns := [], harness := (true, "bc9cca30e6bcb58c3d7b40caaba0da34bdf01bc2fab1082ae4b270bbcf37ee66"), looks := true }, kinds := [], alts := [], laidByText := true, laidKinds := [.data, .pinned], laidTests := true, laidLooks := .later }
def FrameLaysCardSaid : Prop := Claim7.holds Tryd.pinned (.plain (OpenSpec.ofChange frameLaysSpec)) frameLaysCard

/-- THE TIED CARD OF 'bourselaw12.EditNames'. -/
def editNamesCard : Claim7 := { stood := { row := editNamesRow, standIns := [], harness := (true, "bc9cca30e6bcb58c3d7b40caaba0da34bdf01bc2fab1082ae4b270bbcf37ee66"), looks := true }, kinds := [], alts := [], laidByText := true, laidKinds := [.data, .data, .data, .sentinel, .sentinel], laidTests := true, laidLooks := .later }
def EditNamesCardSaid : Prop := Claim7.holds Tryd.pinned (.plain (OpenSpec.ofChange editNamesSpec)) editNamesCard

/-- THE TIED CARD OF 'bourselaw13.VersionPicks'. -/
def versionPicksCard : Claim7 := { stood := { row := versionPicksRow, standIns := [], harness := (true, "bc9cca30e6bcb58c3d7b40caaba0da34bdf01bc2fab1082ae4b270bbcf37ee66"), looks := true }, kinds := [], alts := [], laidByText := true, laidKinds := [.data, .data, .data], laidTests := true, laidLooks := .later }
def VersionPicksCardSaid : Prop := Claim7.holds Tryd.pinned (.plain (OpenSpec.ofChange versionPicksSpec)) versionPicksCard

/-- THE TIED CARD OF 'bourselaw13.VersionRaw'. -/
def versionRawCard : Claim7 := { stood := { row := versionRawRow, standIns := [], harness := (true, "bc9cca30e6bcb58c3d7b40caaba0da34bdf01bc2fab1082ae4b270bbcf37ee66"), looks := true }, kinds := [], alts := [], laidByText := true, laidKinds := [.data, .data, .data], laidTests := true, laidLooks := .later }
def VersionRawCardSaid : Prop := Claim7.holds Tryd.pinned (.plain (OpenSpec.ofChange versionRawSpec)) versionRawCard

/-- THE TIED CARD OF 'bourselaw13.VersionWhole'. -/
def versionWholeCard : Claim7 := { stood := { row := versionWholeRow, standIns := [], harness := (true, "bc9cca30e6bcb58c3d7b40caaba0da34bdf01bc2fab1082ae4b270bbcf37ee66"), looks := true }, kinds := [], alts := [], laidByText := true, laidKinds := [.data, .data, .data], laidTests := true, laidLooks := .later }
def VersionWholeCardSaid : Prop := Claim7.holds Tryd.pinned (.plain (OpenSpec.ofChange versionWholeSpec)) versionWholeCard

/-- THE SECOND FORM's CARD OF 'bourselaw12.EditBytes'. -/
def editBytesUptoCard : Claim7 := { stood := { row := editBytesUptoRow, standIns := [], harness := (true, "bc9cca30e6bcb58c3d7b40caaba0da34bdf01bc2fab1082ae4b270bbcf37ee66"), looks := true }, kinds := [], alts := [], laidByText := true, laidKinds := [.data, .data, .data], laidTests := true, laidLooks := .later }
def EditBytesUptoCardSaid : Prop := Claim7.holds Tryd.pinned (.plain (OpenSpec.upto editBytesSpec)) editBytesUptoCard

/-- THE SECOND FORM's CARD OF 'bourselaw12.EditBack'. -/
def editBackUptoCard : Claim7 := { stood := { row := editBackUptoRow, standIns := [], harness := (true, "bc9cca30e6bcb58c3d7b40caaba0da34bdf01bc2fab1082ae4b270bbcf37ee66"), looks := true }, kinds := [], alts := [], laidByText := true, laidKinds := [.data, .data, .data], laidTests := true, laidLooks := .later }
def EditBackUptoCardSaid : Prop := Claim7.holds Tryd.pinned (.plain (OpenSpec.upto editBackSpec)) editBackUptoCard

/-- THE SECOND FORM's CARD OF 'bourselaw05.FrameReads'. -/
def frameReadsUptoCard : Claim7 := { stood := { row := frameReadsUptoRow, standIns := [], harness := (true, "bc9cca30e6bcb58c3d7b40caaba0da34bdf01bc2fab1082ae4b270bbcf37ee66"), looks := true }, kinds := [], alts := [], laidByText := true, laidKinds := [.data, .pinned], laidTests := true, laidLooks := .later }
def FrameReadsUptoCardSaid : Prop := Claim7.holds Tryd.pinned (.plain (OpenSpec.upto frameReadsSpec)) frameReadsUptoCard

/-- THE SECOND FORM's CARD OF 'bourselaw05.FrameBack'. -/
def frameBackUptoCard : Claim7 := { stood := { row := frameBackUptoRow, standIns := [], harness := (true, "bc9cca30e6bcb58c3d7b40caaba0da34bdf01bc2fab1082ae4b270bbcf37ee66"), looks := true }, kinds := [], alts := [], laidByText := true, laidKinds := [.data, .pinned], laidTests := true, laidLooks := .later }
def FrameBackUptoCardSaid : Prop := Claim7.holds Tryd.pinned (.plain (OpenSpec.upto frameBackSpec)) frameBackUptoCard

/-- THE SECOND FORM's CARD OF 'bourselaw05.FrameTurns'. -/
def frameTurnsUptoCard : Claim7 := { stood := { row := frameTurnsUptoRow, standIns := [], harness := (true, "bc9cca30e6bcb58c3d7b40caaba0da34bdf01bc2fab1082ae4b270bbcf37ee66"), looks := true }, kinds := [], alts := [], laidByText := true, laidKinds := [.data, .pinned], laidTests := true, laidLooks := .later }
def FrameTurnsUptoCardSaid : Prop := Claim7.holds Tryd.pinned (.plain (OpenSpec.upto frameTurnsSpec)) frameTurnsUptoCard

/-- THE SECOND FORM's CARD OF 'bourselaw05.FrameLays'. -/
def frameLaysUptoCard : Claim7 := { stood := { row := frameLaysUptoRow, standIns := [], harness := (true, "bc9cca30e6bcb58c3d7b40caaba0da34bdf01bc2fab1082ae4b270bbcf37ee66"), looks := true }, kinds := [], alts := [], laidByText := true, laidKinds := [.data, .pinned], laidTests := true, laidLooks := .later }
def FrameLaysUptoCardSaid : Prop := Claim7.holds Tryd.pinned (.plain (OpenSpec.upto frameLaysSpec)) frameLaysUptoCard

/-- THE SECOND FORM's CARD OF 'bourselaw12.EditNames'. -/
def editNamesUptoCard : Claim7 := { stood := { row := editNamesUptoRow, standIns := [], harness := (true, "bc9cca30e6bcb58c3d7b40caaba0da34bdf01bc2fab1082ae4b270bbcf37ee66"), looks := true }, kinds := [], alts := [], laidByText := true, laidKinds := [.data, .data, .data, .sentinel, .sentinel], laidTests := true, laidLooks := .later }
def EditNamesUptoCardSaid : Prop := Claim7.holds Tryd.pinned (.plain (OpenSpec.upto editNamesSpec)) editNamesUptoCard

/-- THE SECOND FORM's CARD OF 'bourselaw13.VersionPicks'. -/
def versionPicksUptoCard : Claim7 := { stood := { row := versionPicksUptoRow, standIns := [], harness := (true, "bc9cca30e6bcb58c3d7b40caaba0da34bdf01bc2fab1082ae4b270bbcf37ee66"), looks := true }, kinds := [], alts := [], laidByText := true, laidKinds := [.data, .data, .data], laidTests := true, laidLooks := .later }
def VersionPicksUptoCardSaid : Prop := Claim7.holds Tryd.pinned (.plain (OpenSpec.upto versionPicksSpec)) versionPicksUptoCard

/-- THE SECOND FORM's CARD OF 'bourselaw13.VersionRaw'. -/
def versionRawUptoCard : Claim7 := { stood := { row := versionRawUptoRow, standIns := [], harness := (true, "bc9cca30e6bcb58c3d7b40caaba0da34bdf01bc2fab1082ae4b270bbcf37ee66"), looks := true }, kinds := [], alts := [], laidByText := true, laidKinds := [.data, .data, .data], laidTests := true, laidLooks := .later }
def VersionRawUptoCardSaid : Prop := Claim7.holds Tryd.pinned (.plain (OpenSpec.upto versionRawSpec)) versionRawUptoCard

/-- THE SECOND FORM's CARD OF 'bourselaw13.VersionWhole'. -/
def versionWholeUptoCard : Claim7 := { stood := { row := versionWholeUptoRow, standIns := [], harness := (true, "bc9cca30e6bcb58c3d7b40caaba0da34bdf01bc2fab1082ae4b270bbcf37ee66"), looks := true }, kinds := [], alts := [], laidByText := true, laidKinds := [.data, .data, .data], laidTests := true, laidLooks := .later }
def VersionWholeUptoCardSaid : Prop := Claim7.holds Tryd.pinned (.plain (OpenSpec.upto versionWholeSpec)) versionWholeUptoCard
end Rows
end Go.Proofs.YteilnbnnhocciaaDoor
