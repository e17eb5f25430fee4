/-
  DERIVED. GIVEN WITH THE SEED: THE CARDS: each row of YtfhbdddjclodhaaDoorRows.lean that lists a variable, with what it lists TIED to the program's text (the seventh form; the later family's looks); each row that meets fmt, with fmt's text TOLD by the authors' own Lean function (tested against real Go, not proved from fmt's source: count such statements apart). THE CARD IS WHAT COUNTS. Prove the row's statement (the work); the ties are given (YtfhbdddjclodhaaDoorTie.lean); close each card by the builder's one call (the guide's Derived/Test/ToyasCard.lean, 'card_holds'). Laid BY PROGRAM, IN A SANDBOX (cutbox-door.mjs). By AI agents, Wed Nov 11 2026. No macro, syntax, notation, axiom, sorry.
-/
import Derived.Test.YtfhbdddjclodhaaDoorRows
import GoSem.ClaimSeven
namespace Go.Proofs.YtfhbdddjclodhaaDoor
namespace Rows

/-- THE TIED CARD OF 'bollardlaw18.DcepEncodes'. -/
def dcepEncodesCard : Claim7 := { stood := { row := dcepEncodesRow, standIns := [], harness := (true, "840fe89f1718999666760e2798cb68f93cfa0fb72f9e95c902c9bbcf5ac830c4"), looks := false }, kinds := [], alts := [], laidByText := true, laidKinds := [.data, .pinned], laidTests := true, laidLooks := .later }
def DcepEncodesCardSaid : Prop := Claim7.holds Tryd.pinned (.plain (OpenSpec.ofChange dcepEncodesSpec)) dcepEncodesCard

/-- THE TIED CARD OF 'bollardlaw18.DcepDecodes'. -/
def dcepDecodesCard : Claim7 := { stood := { row := dcepDecodesRow, standIns := [], harness := (true, "840fe89f1718999666760e2798cb68f93cfa0fb72f9e95c902c9bbcf5ac830c4"), looks := false }, kinds := [], alts := [], laidByText := true, laidKinds := [.data, .pinned], laidTests := true, laidLooks := .later }
def DcepDecodesCardSaid : Prop := Claim7.holds Tryd.pinned (.plain (OpenSpec.ofChange dcepDecodesSpec)) dcepDecodesCard

/-- THE TIED CARD OF 'bollardlaw18.DcepBack'. -/
def dcepBackCard : Claim7 := { stood := { row := dcepBackRow, standIns := [], harness := (true, "840fe89f1718999666760e2798cb68f93cfa0fb72f9e95c902c9bbcf5ac830c4"), looks := false }, kinds := [], alts := [], laidByText := true, laidKinds := [.data, .pinned], laidTests := true, laidLooks := .later }
def DcepBackCardSaid : Prop := Claim7.holds Tryd.pinned (.plain (OpenSpec.ofChange dcepBackSpec)) dcepBackCard

/-- THE TIED CARD OF 'bollardlaw18.DcepWraps'. -/
def dcepWrapsCard : Claim7 := { stood := { row := dcepWrapsRow, standIns := [], harness := (true, "840fe89f1718999666760e2798cb68f93cfa0fb72f9e95c902c9bbcf5ac830c4"), looks := false }, kinds := [], alts := [], laidByText := true, laidKinds := [.data, .pinned], laidTests := true, laidLooks := .later }
def DcepWrapsCardSaid : Prop := Claim7.holds Tryd.pinned (.plain (OpenSpec.ofChange dcepWrapsSpec)) dcepWrapsCard

/-- THE TIED CARD OF 'bollardlaw18.DcepFull'. -/
def dcepFullCard : Claim7 := { stood := { row := dcepFullRow, standIns := [], harness := (true, "840fe89f1718999666760e2798cb68f93cfa0fb72f9e95c902c9bbcf5ac830c4"), looks := false }, kinds := [], alts := [], laidByText := true, laidKinds := [.data, .pinned], laidTests := true, laidLooks := .later }
def DcepFullCardSaid : Prop := Claim7.holds Tryd.pinned (.plain (OpenSpec.ofChange dcepFullSpec)) dcepFullCard

/-- THE TIED CARD OF 'bollardlaw18.DcepApart'. -/
def dcepApartCard : Claim7 := { stood := { row := dcepApartRow, standIns := [], harness := (true, "840fe89f1718999666760e2798cb68f93cfa0fb72f9e95c902c9bbcf5ac830c4"), looks := false }, kinds := [], alts := [], laidByText := true, laidKinds := [.data, .pinned], laidTests := true, laidLooks := .later }
def DcepApartCardSaid : Prop := Claim7.holds Tryd.pinned (.plain (OpenSpec.ofChange dcepApartSpec)) dcepApartCard

/-- THE TIED CARD OF 'bollardlaw18.DcepPlays'. -/
def dcepPlaysCard : Claim7 := { stood := { row := dcepPlaysRow, standIns := [], harness := (true, "840fe89f1718999666760e2798cb68f93cfa0fb72f9e95c902c9bbcf5ac830c4"), looks := false }, kinds := [], alts := [], laidByText := true, laidKinds := [.data, .pinned], laidTests := true, laidLooks := .later }
def DcepPlaysCardSaid : Prop := Claim7.holds Tryd.pinned (.plain (OpenSpec.ofChange dcepPlaysSpec)) dcepPlaysCard

/-- THE TIED CARD OF 'bollardlaw18.DcepNone'. -/
def dcepNoneCard : Claim7 := { stood := { row := dcepNoneRow, standIns := [], harness := (true, "840fe89f1718999666760e2798cb68f93cfa0fb72f9e95c902c9bbcf5ac830c4"), looks := false }, kinds := [], alts := [], laidByText := true, laidKinds := [.data, .pinned], laidTests := true, laidLooks := .later }
def DcepNoneCardSaid : Prop := Claim7.holds Tryd.pinned (.plain (OpenSpec.ofChange dcepNoneSpec)) dcepNoneCard

/-- THE SECOND FORM's CARD OF 'bollardlaw18.DcepEncodes'. -/
def dcepEncodesUptoCard : Claim7 := { stood := { row := dcepEncodesUptoRow, standIns := [], harness := (true, "840fe89f1718999666760e2798cb68f93cfa0fb72f9e95c902c9bbcf5ac830c4"), looks := false }, kinds := [], alts := [], laidByText := true, laidKinds := [.data, .pinned], laidTests := true, laidLooks := .later }
def DcepEncodesUptoCardSaid : Prop := Claim7.holds Tryd.pinned (.plain (OpenSpec.upto dcepEncodesSpec)) dcepEncodesUptoCard

/-- THE SECOND FORM's CARD OF 'bollardlaw18.DcepDecodes'. -/
def dcepDecodesUptoCard : Claim7 := { stood := { row := dcepDecodesUptoRow, standIns := [], harness := (true, "840fe89f1718999666760e2798cb68f93cfa0fb72f9e95c902c9bbcf5ac830c4"), looks := false }, kinds := [], alts := [], laidByText := true, laidKinds := [.data, .pinned], laidTests := true, laidLooks := .later }
def DcepDecodesUptoCardSaid : Prop := Claim7.holds Tryd.pinned (.plain (OpenSpec.upto dcepDecodesSpec)) dcepDecodesUptoCard

/-- THE SECOND FORM's CARD OF 'bollardlaw18.DcepBack'. -/
def dcepBackUptoCard : Claim7 := { stood := { row := dcepBackUptoRow, standIns := [], harness := (true, "840fe89f1718999666760e2798cb68f93cfa0fb72f9e95c902c9bbcf5ac830c4"), looks := false }, kinds := [], alts := [], laidByText := true, laidKinds := [.data, .pinned], laidTests := true, laidLooks := .later }
def DcepBackUptoCardSaid : Prop := Claim7.holds Tryd.pinned (.plain (OpenSpec.upto dcepBackSpec)) dcepBackUptoCard

/-- THE SECOND FORM's CARD OF 'bollardlaw18.DcepWraps'. -/
def dcepWrapsUptoCard : Claim7 := { stood := { row := dcepWrapsUptoRow, standIns := [], harness := (true, "840fe89f1718999666760e2798cb68f93cfa0fb72f9e95c902c9bbcf5ac830c4"), looks := false }, kinds := [], alts := [], laidByText := true, laidKinds := [.data, .pinned], laidTests := true, laidLooks := .later }
def DcepWrapsUptoCardSaid : Prop := Claim7.holds Tryd.pinned (.plain (OpenSpec.upto dcepWrapsSpec)) dcepWrapsUptoCard

/-- THE SECOND FORM's CARD OF 'bollardlaw18.DcepFull'. -/
def dcepFullUptoCard : Claim7 := { stood := { row := dcepFullUptoRow, standIns := [], harness := (true, "840fe89f1718999666760e2798cb68f93cfa0fb72f9e95c902c9bbcf5ac830c4"), looks := false }, kinds := [], alts := [], laidByText := true, laidKinds := [.data, .pinned], laidTests := true, laidLooks := .later }
def DcepFullUptoCardSaid : Prop := Claim7.holds Tryd.pinned (.plain (OpenSpec.upto dcepFullSpec)) dcepFullUptoCard

/-- THE SECOND FORM's CARD OF 'bollardlaw18.DcepApart'. -/
def dcepApartUptoCard : Claim7 := { stood := { row := dcepApartUptoRow, standIns := [], harness := (true, "840fe89f1718999666760e2798cb68f93cfa0fb72f9e95c902c9bbcf5ac830c4"), looks := false }, kinds := [], alts := [], laidByText := true, laidKinds := [.data, .pinned], laidTests := true, laidLooks := .later }
def DcepApartUptoCardSaid : Prop := Claim7.holds Tryd.pinned (.plain (OpenSpec.upto dcepApartSpec)) dcepApartUptoCard

/-- THE SECOND FORM's CARD OF 'bollardlaw18.DcepPlays'. -/
def dcepPlaysUptoCard : Claim7 := { stood := { row := dcepPlaysUptoRow, standIns := [], harness := (true, "840fe89f1718999666760e2798cb68f93cfa0fb72f9e95c902c9bbcf5ac830c4"), looks := false }, kinds := [], alts := [], laidByText := true, laidKinds := [.data, .pinned], laidTests := true, laidLooks := .later }
def DcepPlaysUptoCardSaid : Prop := Claim7.holds Tryd.pinned (.plain (OpenSpec.upto dcepPlaysSpec)) dcepPlaysUptoCard

/-- THE SECOND FORM's CARD OF 'bollardlaw18.DcepNone'. -/
def dcepNoneUptoCard : Claim7 := { stood := { row := dcepNoneUptoRow, standIns := [], harness := (true, "840fe89f1718999666760e2798cb68f93cfa0fb72f9e95c902c9bbcf5ac830c4"), looks := false }, kinds := [], alts := [], laidByText := true, laidKinds := [.data, .pinned], laidTests := true, laidLooks := .later }
def DcepNoneUptoCardSaid : Prop := Claim7.holds Tryd.pinned (.plain (OpenSpec.upto dcepNoneSpec)) dcepNoneUptoCard
end Rows
end Go.Proofs.YtfhbdddjclodhaaDoor
