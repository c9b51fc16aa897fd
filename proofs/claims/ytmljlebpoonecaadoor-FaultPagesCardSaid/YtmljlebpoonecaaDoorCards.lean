/-
  DERIVED. GIVEN WITH THE SEED: THE CARDS: each row of YtmljlebpoonecaaDoorRows.lean that lists a variable, with what it lists TIED to the program's text (the seventh form; the later family's looks); each row that meets fmt, with fmt's text TOLD by the authors' own Lean function (tested against real Go, not proved from fmt's source: count such statements apart). THE CARD IS WHAT COUNTS. Prove the row's statement (the work); the ties are given (YtmljlebpoonecaaDoorTie.lean); close each card by the builder's one call (the guide's Derived/Test/ToyasCard.lean, 'card_holds'). Laid BY PROGRAM, IN A SANDBOX (cutbox-door.mjs). By AI agents, Wed Nov 11 2026. No macro, syntax, notation, axiom, sorry.
-/
import Derived.Test.YtmljlebpoonecaaDoorRows
import GoSem.ClaimSeven
namespace Go.Proofs.YtmljlebpoonecaaDoor
namespace Rows

/-- THE TIED CARD OF 'dormerlaw07.FaultKinds'. -/
def faultKindsCard : Claim7 := { stood := { row := faultKindsRow, standIns := [], harness := (true, "f92ffbeef20627dbbcff54de39cd08d310391fefe09bd0e9b4c49f81bb4ba0a2"), looks := true }, kinds := [], alts := [], laidByText := true, laidKinds := [.handle], laidTests := true, laidLooks := .later }
def FaultKindsCardSaid : Prop := Claim7.holds Tryd.pinned (.plain (OpenSpec.ofChange faultKindsSpec)) faultKindsCard

/-- THE TIED CARD OF 'dormerlaw07.FaultPages'. -/
def faultPagesCard : Claim7 := { stood := { row := faultPagesRow, standIns := [], harness := (true, "f92ffbeef20627dbbcff54de39cd08d310391fefe09bd0e9b4c49f81bb4ba0a2"), looks := true }, kinds := [], alts := [], laidByText := true, laidKinds := [.data, .data, .data, .handle], laidTests := true, laidLooks := .later }
def FaultPagesCardSaid : Prop := Claim7.holds Tryd.pinned (.plain (OpenSpec.ofChange faultPagesSpec)) faultPagesCard

/-- THE TIED CARD OF 'dormerlaw07.FaultWords'. -/
def faultWordsCard : Claim7 := { stood := { row := faultWordsRow, standIns := [], harness := (true, "f92ffbeef20627dbbcff54de39cd08d310391fefe09bd0e9b4c49f81bb4ba0a2"), looks := true }, kinds := [], alts := [], laidByText := true, laidKinds := [.handle], laidTests := true, laidLooks := .later }
def FaultWordsCardSaid : Prop := Claim7.holds Tryd.pinned (.plain (OpenSpec.ofChange faultWordsSpec)) faultWordsCard

/-- THE TIED CARD OF 'dormerlaw07.FaultNone'. -/
def faultNoneCard : Claim7 := { stood := { row := faultNoneRow, standIns := [], harness := (true, "f92ffbeef20627dbbcff54de39cd08d310391fefe09bd0e9b4c49f81bb4ba0a2"), looks := true }, kinds := [], alts := [], laidByText := true, laidKinds := [.handle], laidTests := true, laidLooks := .later }
def FaultNoneCardSaid : Prop := Claim7.holds Tryd.pinned (.plain (OpenSpec.ofChange faultNoneSpec)) faultNoneCard

/-- THE SECOND FORM's CARD OF 'dormerlaw07.FaultKinds'. -/
def faultKindsUptoCard : Claim7 := { stood := { row := faultKindsUptoRow, standIns := [], harness := (true, "f92ffbeef20627dbbcff54de39cd08d310391fefe09bd0e9b4c49f81bb4ba0a2"), looks := true }, kinds := [], alts := [], laidByText := true, laidKinds := [.handle], laidTests := true, laidLooks := .later }
def FaultKindsUptoCardSaid : Prop := Claim7.holds Tryd.pinned (.plain (OpenSpec.upto faultKindsSpec)) faultKindsUptoCard

/-- THE SECOND FORM's CARD OF 'dormerlaw07.FaultPages'. -/
def faultPagesUptoCard : Claim7 := { stood := { row := faultPagesUptoRow, standIns := [], harness := (true, "f92ffbeef20627dbbcff54de39cd08d310391fefe09bd0e9b4c49f81bb4ba0a2"), looks := true }, kinds := [], alts := [], laidByText := true, laidKinds := [.data, .data, .data, .handle], laidTests := true, laidLooks := .later }
def FaultPagesUptoCardSaid : Prop := Claim7.holds Tryd.pinned (.plain (OpenSpec.upto faultPagesSpec)) faultPagesUptoCard

/-- THE SECOND FORM's CARD OF 'dormerlaw07.FaultWords'. -/
def faultWordsUptoCard : Claim7 := { stood := { row := faultWordsUptoRow, standIns := [], harness := (true, "f92ffbeef20627dbbcff54de39cd08d310391fefe09bd0e9b4c49f81bb4ba0a2"), looks := true }, kinds := [], alts := [], laidByText := true, laidKinds := [.handle], laidTests := true, laidLooks := .later }
def FaultWordsUptoCardSaid : Prop := Claim7.holds Tryd.pinned (.plain (OpenSpec.upto faultWordsSpec)) faultWordsUptoCard

/-- THE SECOND FORM's CARD OF 'dormerlaw07.FaultNone'. -/
def faultNoneUptoCard : Claim7 := { stood := { row := faultNoneUptoRow, standIns := [], harness := (true, "f92ffbeef20627dbbcff54de39cd08d310391fefe09bd0e9b4c49f81bb4ba0a2"), looks := true }, kinds := [], alts := [], laidByText := true, laidKinds := [.handle], laidTests := true, laidLooks := .later }
def FaultNoneUptoCardSaid : Prop := Claim7.holds Tryd.pinned (.plain (OpenSpec.upto faultNoneSpec)) faultNoneUptoCard
end Rows
end Go.Proofs.YtmljlebpoonecaaDoor
