/-
  DERIVED. GIVEN WITH THE SEED: THE CARDS: each row of YtpifpihfoaalgaaGreatDoorRows.lean that lists a variable, with what it lists TIED to the program's text (the seventh form; the later family's looks); each row that meets fmt, with fmt's text TOLD by the authors' own Lean function (tested against real Go, not proved from fmt's source: count such statements apart). THE CARD IS WHAT COUNTS. Prove the row's statement (the work); the ties are given (YtpifpihfoaalgaaGreatDoorTie.lean); close each card by the builder's one call (the guide's Derived/Test/ToyasCard.lean, 'card_holds'). Laid BY PROGRAM, IN A SANDBOX (cutbox-door.mjs). By AI agents, Wed Nov 11 2026. No macro, syntax, notation, axiom, sorry.
-/
import Derived.Test.YtpifpihfoaalgaaGreatDoorRows
import GoSem.ClaimSeven
namespace Go.Proofs.YtpifpihfoaalgaaGreatDoor
namespace Rows

/-- THE TIED CARD OF 'doppellaw20.ProdDoes'. -/
def prodDoesCard : Claim7 := { stood := { row := prodDoesRow, standIns := [], harness := (true, "a1579a529147450f1e1594918029abdcea54b88cad5be36de0c707487eda4a45"), looks := false }, kinds := [], alts := [], laidByText := true, laidKinds := [.data, .data, .data, .data, .listed, .data, .pinned, .pinned, .pinned, .pinned, .pinned, .pinned, .pinned], laidTests := true, laidLooks := .later }
def ProdDoesCardSaid : Prop := Claim7.holds Tryz.pinned (.plain (OpenSpec.ofChange prodDoesSpec)) prodDoesCard

/-- THE TIED CARD OF 'doppellaw20.ProdBoth'. -/
def prodBothCard : Claim7 := { stood := { row := prodBothRow, standIns := [], harness := (true, "a1579a529147450f1e1594918029abdcea54b88cad5be36de0c707487eda4a45"), looks := false }, kinds := [], alts := [], laidByText := true, laidKinds := [.data, .data, .data, .data, .listed, .data, .pinned, .pinned, .pinned, .pinned, .pinned, .pinned, .pinned], laidTests := true, laidLooks := .later }
def ProdBothCardSaid : Prop := Claim7.holds Tryz.pinned (.plain (OpenSpec.ofChange prodBothSpec)) prodBothCard

/-- THE TIED CARD OF 'doppellaw20.ProdRows'. -/
def prodRowsCard : Claim7 := { stood := { row := prodRowsRow, standIns := [], harness := (true, "a1579a529147450f1e1594918029abdcea54b88cad5be36de0c707487eda4a45"), looks := false }, kinds := [], alts := [], laidByText := true, laidKinds := [.data, .data, .data, .data, .listed, .data, .pinned, .pinned, .pinned, .pinned, .pinned, .pinned, .pinned], laidTests := true, laidLooks := .later }
def ProdRowsCardSaid : Prop := Claim7.holds Tryz.pinned (.plain (OpenSpec.ofChange prodRowsSpec)) prodRowsCard

/-- THE TIED CARD OF 'doppellaw20.ProdFuel'. -/
def prodFuelCard : Claim7 := { stood := { row := prodFuelRow, standIns := [], harness := (true, "a1579a529147450f1e1594918029abdcea54b88cad5be36de0c707487eda4a45"), looks := false }, kinds := [], alts := [], laidByText := true, laidKinds := [.data, .data, .data, .data, .listed, .data, .pinned, .pinned, .pinned, .pinned, .pinned, .pinned, .pinned], laidTests := true, laidLooks := .later }
def ProdFuelCardSaid : Prop := Claim7.holds Tryz.pinned (.plain (OpenSpec.ofChange prodFuelSpec)) prodFuelCard

/-- THE TIED CARD OF 'doppellaw20.ProdNumbers'. -/
def prodNumbersCard : Claim7 := { stood := { row := prodNumbersRow, standIns := [], harness := (true, "a1579a529147450f1e1594918029abdcea54b88cad5be36de0c707487eda4a45"), looks := false }, kinds := [], alts := [], laidByText := true, laidKinds := [.data, .data, .data, .data, .listed, .data, .pinned, .pinned, .pinned, .pinned, .pinned, .pinned, .pinned], laidTests := true, laidLooks := .later }
def ProdNumbersCardSaid : Prop := Claim7.holds Tryz.pinned (.plain (OpenSpec.ofChange prodNumbersSpec)) prodNumbersCard

/-- THE TIED CARD OF 'doppellaw20.ProdSame'. -/
def prodSameCard : Claim7 := { stood := { row := prodSameRow, standIns := [], harness := (true, "a1579a529147450f1e1594918029abdcea54b88cad5be36de0c707487eda4a45"), looks := false }, kinds := [], alts := [], laidByText := true, laidKinds := [.data, .data, .data, .data, .listed, .data, .pinned, .pinned, .pinned, .pinned, .pinned, .pinned, .pinned], laidTests := true, laidLooks := .later }
def ProdSameCardSaid : Prop := Claim7.holds Tryz.pinned (.plain (OpenSpec.ofChange prodSameSpec)) prodSameCard

/-- THE SECOND FORM's CARD OF 'doppellaw20.ProdDoes'. -/
def prodDoesUptoCard : Claim7 := { stood := { row := prodDoesUptoRow, standIns := [], harness := (true, "a1579a529147450f1e1594918029abdcea54b88cad5be36de0c707487eda4a45"), looks := false }, kinds := [], alts := [], laidByText := true, laidKinds := [.data, .data, .data, .data, .listed, .data, .pinned, .pinned, .pinned, .pinned, .pinned, .pinned, .pinned], laidTests := true, laidLooks := .later }
def ProdDoesUptoCardSaid : Prop := Claim7.holds Tryz.pinned (.plain (OpenSpec.upto prodDoesSpec)) prodDoesUptoCard

/-- THE SECOND FORM's CARD OF 'doppellaw20.ProdBoth'. -/
def prodBothUptoCard : Claim7 := { stood := { row := prodBothUptoRow, standIns := [], harness := (true, "a1579a529147450f1e1594918029abdcea54b88cad5be36de0c707487eda4a45"), looks := false }, kinds := [], alts := [], laidByText := true, laidKinds := [.data, .data, .data, .data, .listed, .data, .pinned, .pinned, .pinned, .pinned, .pinned, .pinned, .pinned], laidTests := true, laidLooks := .later }
def ProdBothUptoCardSaid : Prop := Claim7.holds Tryz.pinned (.plain (OpenSpec.upto prodBothSpec)) prodBothUptoCard

/-- THE SECOND FORM's CARD OF 'doppellaw20.ProdRows'. -/
def prodRowsUptoCard : Claim7 := { stood := { row := prodRowsUptoRow, standIns := [], harness := (true, "a1579a529147450f1e1594918029abdcea54b88cad5be36de0c707487eda4a45"), looks := false }, kinds := [], alts := [], laidByText := true, laidKinds := [.data, .data, .data, .data, .listed, .data, .pinned, .pinned, .pinned, .pinned, .pinned, .pinned, .pinned], laidTests := true, laidLooks := .later }
def ProdRowsUptoCardSaid : Prop := Claim7.holds Tryz.pinned (.plain (OpenSpec.upto prodRowsSpec)) prodRowsUptoCard

/-- THE SECOND FORM's CARD OF 'doppellaw20.ProdFuel'. -/
def prodFuelUptoCard : Claim7 := { stood := { row := prodFuelUptoRow, standIns := [], harness := (true, "a1579a529147450f1e1594918029abdcea54b88cad5be36de0c707487eda4a45"), looks := false }, kinds := [], alts := [], laidByText := true, laidKinds := [.data, .data, .data, .data, .listed, .data, .pinned, .pinned, .pinned, .pinned, .pinned, .pinned, .pinned], laidTests := true, laidLooks := .later }
def ProdFuelUptoCardSaid : Prop := Claim7.holds Tryz.pinned (.plain (OpenSpec.upto prodFuelSpec)) prodFuelUptoCard

/-- THE SECOND FORM's CARD OF 'doppellaw20.ProdNumbers'. -/
def prodNumbersUptoCard : Claim7 := { stood := { row := prodNumbersUptoRow, standIns := [], harness := (true, "a1579a529147450f1e1594918029abdcea54b88cad5be36de0c707487eda4a45"), looks := false }, kinds := [], alts := [], laidByText := true, laidKinds := [.data, .data, .data, .data, .listed, .data, .pinned, .pinned, .pinned, .pinned, .pinned, .pinned, .pinned], laidTests := true, laidLooks := .later }
def ProdNumbersUptoCardSaid : Prop := Claim7.holds Tryz.pinned (.plain (OpenSpec.upto prodNumbersSpec)) prodNumbersUptoCard

/-- THE SECOND FORM's CARD OF 'doppellaw20.ProdSame'. -/
def prodSameUptoCard : Claim7 := { stood := { row := prodSameUptoRow, standIns := [], harness := (true, "a1579a529147450f1e1594918029abdcea54b88cad5be36de0c707487eda4a45"), looks := false }, kinds := [], alts := [], laidByText := true, laidKinds := [.data, .data, .data, .data, .listed, .data, .pinned, .pinned, .pinned, .pinned, .pinned, .pinned, .pinned], laidTests := true, laidLooks := .later }
def ProdSameUptoCardSaid : Prop := Claim7.holds Tryz.pinned (.plain (OpenSpec.upto prodSameSpec)) prodSameUptoCard
end Rows
end Go.Proofs.YtpifpihfoaalgaaGreatDoor
