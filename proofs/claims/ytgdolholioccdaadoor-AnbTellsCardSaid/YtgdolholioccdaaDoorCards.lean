/-
  DERIVED. GIVEN WITH THE SEED: THE CARDS: each row of YtgdolholioccdaaDoorRows.lean that lists a variable, with what it lists TIED to the program's text (the seventh form; the later family's looks); each row that meets fmt, with fmt's text TOLD by the authors' own Lean function (tested against real Go, not proved from fmt's source: count such statements apart). THE CARD IS WHAT COUNTS. Prove the row's statement (the work); the ties are given (YtgdolholioccdaaDoorTie.lean); close each card by the builder's one call (the guide's Derived/Test/ToyasCard.lean, 'card_holds'). Laid BY PROGRAM, IN A SANDBOX (cutbox-door.mjs). By AI agents, Wed Nov 11 2026. No macro, syntax, notation, axiom, sorry.
-/
import Derived.Test.YtgdolholioccdaaDoorRows
import GoSem.ClaimSeven
namespace Go.Proofs.YtgdolholioccdaaDoor
namespace Rows

/-- THE TIED CARD OF 'fleuronlaw5.AnbTells'. -/
def anbTellsCard : Claim7 := { stood := { row := anbTellsRow, standIns := [], harness := (true, "ec348e5757fa66770ea44dd028121952533f41d429464853391866cb3dbdca12"), looks := false }, kinds := [], alts := [], laidByText := true, laidKinds := [.data, .data, .data, .data, .pinned], laidTests := true, laidLooks := .later }
def AnbTellsCardSaid : Prop := Claim7.holds Tryd.pinned (.plain (OpenSpec.ofChange anbTellsSpec)) anbTellsCard

/-- THE TIED CARD OF 'fleuronlaw5.AnbBack'. -/
def anbBackCard : Claim7 := { stood := { row := anbBackRow, standIns := [], harness := (true, "ec348e5757fa66770ea44dd028121952533f41d429464853391866cb3dbdca12"), looks := false }, kinds := [], alts := [], laidByText := true, laidKinds := [.data, .data, .data, .data, .pinned], laidTests := true, laidLooks := .later }
def AnbBackCardSaid : Prop := Claim7.holds Tryd.pinned (.plain (OpenSpec.ofChange anbBackSpec)) anbBackCard

/-- THE TIED CARD OF 'fleuronlaw5.AnbMatch'. -/
def anbMatchCard : Claim7 := { stood := { row := anbMatchRow, standIns := [], harness := (true, "ec348e5757fa66770ea44dd028121952533f41d429464853391866cb3dbdca12"), looks := false }, kinds := [], alts := [], laidByText := true, laidKinds := [.data, .data, .data, .data, .pinned], laidTests := true, laidLooks := .later }
def AnbMatchCardSaid : Prop := Claim7.holds Tryd.pinned (.plain (OpenSpec.ofChange anbMatchSpec)) anbMatchCard

/-- THE TIED CARD OF 'fleuronlaw5.AnbWords'. -/
def anbWordsCard : Claim7 := { stood := { row := anbWordsRow, standIns := [], harness := (true, "ec348e5757fa66770ea44dd028121952533f41d429464853391866cb3dbdca12"), looks := false }, kinds := [], alts := [], laidByText := true, laidKinds := [.data, .data, .data, .data, .pinned], laidTests := true, laidLooks := .later }
def AnbWordsCardSaid : Prop := Claim7.holds Tryd.pinned (.plain (OpenSpec.ofChange anbWordsSpec)) anbWordsCard

/-- THE SECOND FORM's CARD OF 'fleuronlaw5.AnbTells'. -/
def anbTellsUptoCard : Claim7 := { stood := { row := anbTellsUptoRow, standIns := [], harness := (true, "ec348e5757fa66770ea44dd028121952533f41d429464853391866cb3dbdca12"), looks := false }, kinds := [], alts := [], laidByText := true, laidKinds := [.data, .data, .data, .data, .pinned], laidTests := true, laidLooks := .later }
def AnbTellsUptoCardSaid : Prop := Claim7.holds Tryd.pinned (.plain (OpenSpec.upto anbTellsSpec)) anbTellsUptoCard

/-- THE SECOND FORM's CARD OF 'fleuronlaw5.AnbBack'. -/
def anbBackUptoCard : Claim7 := { stood := { row := anbBackUptoRow, standIns := [], harness := (true, "ec348e5757fa66770ea44dd028121952533f41d429464853391866cb3dbdca12"), looks := false }, kinds := [], alts := [], laidByText := true, laidKinds := [.data, .data, .data, .data, .pinned], laidTests := true, laidLooks := .later }
def AnbBackUptoCardSaid : Prop := Claim7.holds Tryd.pinned (.plain (OpenSpec.upto anbBackSpec)) anbBackUptoCard

/-- THE SECOND FORM's CARD OF 'fleuronlaw5.AnbMatch'. -/
def anbMatchUptoCard : Claim7 := { stood := { row := anbMatchUptoRow, standIns := [], harness := (true, "ec348e5757fa66770ea44dd028121952533f41d429464853391866cb3dbdca12"), looks := false }, kinds := [], alts := [], laidByText := true, laidKinds := [.data, .data, .data, .data, .pinned], laidTests := true, laidLooks := .later }
def AnbMatchUptoCardSaid : Prop := Claim7.holds Tryd.pinned (.plain (OpenSpec.upto anbMatchSpec)) anbMatchUptoCard

/-- THE SECOND FORM's CARD OF 'fleuronlaw5.AnbWords'. -/
def anbWordsUptoCard : Claim7 := { stood := { row := anbWordsUptoRow, standIns := [], harness := (true, "ec348e5757fa66770ea44dd028121952533f41d429464853391866cb3dbdca12"), looks := false }, kinds := [], alts := [], laidByText := true, laidKinds := [.data, .data, .data, .data, .pinned], laidTests := true, laidLooks := .later }
def AnbWordsUptoCardSaid : Prop := Claim7.holds Tryd.pinned (.plain (OpenSpec.upto anbWordsSpec)) anbWordsUptoCard
end Rows
end Go.Proofs.YtgdolholioccdaaDoor
