/-
  DERIVED. GIVEN WITH THE SEED: THE CARDS: each row of YtbldolbeijpipaaDoorRows.lean that lists a variable, with what it lists TIED to the program's text (the seventh form; the later family's looks); each row that meets fmt, with fmt's text TOLD by the authors' own Lean function (tested against real Go, not proved from fmt's source: count such statements apart). THE CARD IS WHAT COUNTS. Prove the row's statement (the work); the ties are given (YtbldolbeijpipaaDoorTie.lean); close each card by the builder's one call (the guide's Derived/Test/ToyasCard.lean, 'card_holds'). Laid BY PROGRAM, IN A SANDBOX (cutbox-door.mjs). By AI agents, Wed Nov 11 2026. No macro, syntax, notation, axiom, sorry.
-/
import Derived.Test.YtbldolbeijpipaaDoorRows
import GoSem.ClaimSeven
namespace Go.Proofs.YtbldolbeijpipaaDoor
namespace Rows

/-- THE TIED CARD OF 'ostinatolaw19.TraceParts'. -/
def tracePartsCard : Claim7 := { stood := { row := tracePartsRow, standIns := [], harness := (true, "4a600492ef3b4f9641e8bc13c8c19ebcce0fe99820d9d2571fe182d049e87302"), looks := false }, kinds := [], alts := [], laidByText := true, laidKinds := [.data, .data, .data], laidTests := true, laidLooks := .later }
def TracePartsCardSaid : Prop := Claim7.holds Tryd.pinned (.plain (OpenSpec.ofChange tracePartsSpec)) tracePartsCard

/-- THE TIED CARD OF 'ostinatolaw19.TracePieces'. -/
def tracePiecesCard : Claim7 := { stood := { row := tracePiecesRow, standIns := [], harness := (true, "4a600492ef3b4f9641e8bc13c8c19ebcce0fe99820d9d2571fe182d049e87302"), looks := false }, kinds := [], alts := [], laidByText := true, laidKinds := [.data, .data, .data], laidTests := true, laidLooks := .later }
def TracePiecesCardSaid : Prop := Claim7.holds Tryd.pinned (.plain (OpenSpec.ofChange tracePiecesSpec)) tracePiecesCard

/-- THE TIED CARD OF 'ostinatolaw21.CertPrints'. -/
def certPrintsCard : Claim7 := { stood := { row := certPrintsRow, standIns := [], harness := (true, "4a600492ef3b4f9641e8bc13c8c19ebcce0fe99820d9d2571fe182d049e87302"), looks := false }, kinds := [], alts := [], laidByText := true, laidKinds := [.data, .data, .data], laidTests := true, laidLooks := .later }
def CertPrintsCardSaid : Prop := Claim7.holds Tryd.pinned (.plain (OpenSpec.ofChange certPrintsSpec)) certPrintsCard

/-- THE TIED CARD OF 'ostinatolaw21.CertTold'. -/
def certToldCard : Claim7 := { stood := { row := certToldRow, standIns := [], harness := (true, "4a600492ef3b4f9641e8bc13c8c19ebcce0fe99820d9d2571fe182d049e87302"), looks := false }, kinds := [], alts := [], laidByText := true, laidKinds := [.data, .data, .data], laidTests := true, laidLooks := .later }
def CertToldCardSaid : Prop := Claim7.holds Tryd.pinned (.plain (OpenSpec.ofChange certToldSpec)) certToldCard

/-- THE TIED CARD OF 'ostinatolaw19.TraceSums'. -/
def traceSumsCard : Claim7 := { stood := { row := traceSumsRow, standIns := [], harness := (true, "4a600492ef3b4f9641e8bc13c8c19ebcce0fe99820d9d2571fe182d049e87302"), looks := false }, kinds := [], alts := [], laidByText := true, laidKinds := [.data, .data, .data], laidTests := true, laidLooks := .later }
def TraceSumsCardSaid : Prop := Claim7.holds Tryd.pinned (.plain (OpenSpec.ofChange traceSumsSpec)) traceSumsCard

/-- THE TIED CARD OF 'ostinatolaw19.TraceBack'. -/
def traceBackCard : Claim7 := { stood := { row := traceBackRow, standIns := [], harness := (true, "4a600492ef3b4f9641e8bc13c8c19ebcce0fe99820d9d2571fe182d049e87302"), looks := false }, kinds := [], alts := [], laidByText := true, laidKinds := [.data, .data, .data, .data, .pinned], laidTests := true, laidLooks := .later }
def TraceBackCardSaid : Prop := Claim7.holds Tryd.pinned (.plain (OpenSpec.ofChange traceBackSpec)) traceBackCard

/-- THE SECOND FORM's CARD OF 'ostinatolaw19.TraceParts'. -/
def tracePartsUptoCard : Claim7 := { stood := { row := tracePartsUptoRow, standIns := [], harness := (true, "4a600492ef3b4f9641e8bc13c8c19ebcce0fe99820d9d2571fe182d049e87302"), looks := false }, kinds := [], alts := [], laidByText := true, laidKinds := [.data, .data, .data], laidTests := true, laidLooks := .later }
def TracePartsUptoCardSaid : Prop := Claim7.holds Tryd.pinned (.plain (OpenSpec.upto tracePartsSpec)) tracePartsUptoCard

/-- THE SECOND FORM's CARD OF 'ostinatolaw19.TracePieces'. -/
def tracePiecesUptoCard : Claim7 := { stood := { row := tracePiecesUptoRow, standIns := [], harness := (true, "4a600492ef3b4f9641e8bc13c8c19ebcce0fe99820d9d2571fe182d049e87302"), looks := false }, kinds := [], alts := [], laidByText := true, laidKinds := [.data, .data, .data], laidTests := true, laidLooks := .later }
def TracePiecesUptoCardSaid : Prop := Claim7.holds Tryd.pinned (.plain (OpenSpec.upto tracePiecesSpec)) tracePiecesUptoCard

/-- THE SECOND FORM's CARD OF 'ostinatolaw21.CertPrints'. -/
def certPrintsUptoCard : Claim7 := { stood := { row := certPrintsUptoRow, standIns := [], harness := (true, "4a600492ef3b4f9641e8bc13c8c19ebcce0fe99820d9d2571fe182d049e87302"), looks := false }, kinds := [], alts := [], laidByText := true, laidKinds := [.data, .data, .data], laidTests := true, laidLooks := .later }
def CertPrintsUptoCardSaid : Prop := Claim7.holds Tryd.pinned (.plain (OpenSpec.upto certPrintsSpec)) certPrintsUptoCard

/-- THE SECOND FORM's CARD OF 'ostinatolaw21.CertTold'. -/
def certToldUptoCard : Claim7 := { stood := { row := certToldUptoRow, standIns := [], harness := (true, "4a600492ef3b4f9641e8bc13c8c19ebcce0fe99820d9d2571fe182d049e87302"), looks := false }, kinds := [], alts := [], laidByText := true, laidKinds := [.data, .data, .data], laidTests := true, laidLooks := .later }
def CertToldUptoCardSaid : Prop := Claim7.holds Tryd.pinned (.plain (OpenSpec.upto certToldSpec)) certToldUptoCard

/-- THE SECOND FORM's CARD OF 'ostinatolaw19.TraceSums'. -/
def traceSumsUptoCard : Claim7 := { stood := { row := traceSumsUptoRow, standIns := [], harness := (true, "4a600492ef3b4f9641e8bc13c8c19ebcce0fe99820d9d2571fe182d049e87302"), looks := false }, kinds := [], alts := [], laidByText := true, laidKinds := [.data, .data, .data], laidTests := true, laidLooks := .later }
def TraceSumsUptoCardSaid : Prop := Claim7.holds Tryd.pinned (.plain (OpenSpec.upto traceSumsSpec)) traceSumsUptoCard

/-- THE SECOND FORM's CARD OF 'ostinatolaw19.TraceBack'. -/
def traceBackUptoCard : Claim7 := { stood := { row := traceBackUptoRow, standIns := [], harness := (true, "4a600492ef3b4f9641e8bc13c8c19ebcce0fe99820d9d2571fe182d049e87302"), looks := false }, kinds := [], alts := [], laidByText := true, laidKinds := [.data, .data, .data, .data, .pinned], laidTests := true, laidLooks := .later }
def TraceBackUptoCardSaid : Prop := Claim7.holds Tryd.pinned (.plain (OpenSpec.upto traceBackSpec)) traceBackUptoCard
end Rows
end Go.Proofs.YtbldolbeijpipaaDoor
