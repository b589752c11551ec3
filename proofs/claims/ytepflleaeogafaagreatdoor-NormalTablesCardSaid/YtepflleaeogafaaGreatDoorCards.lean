/-
  DERIVED. GIVEN WITH THE SEED: THE CARDS: each row of YtepflleaeogafaaGreatDoorRows.lean that lists a variable, with what it lists TIED to the program's text (the seventh form; the later family's looks); each row that meets fmt, with fmt's text TOLD by the authors' own Lean function (tested against real Go, not proved from fmt's source: count such statements apart). THE CARD IS WHAT COUNTS. Prove the row's statement (the work); the ties are given (YtepflleaeogafaaGreatDoorTie.lean); close each card by the builder's one call (the guide's Derived/Test/ToyasCard.lean, 'card_holds'). Laid BY PROGRAM, IN A SANDBOX (cutbox-door.mjs). By AI agents, Wed Nov 11 2026. No macro, syntax, notation, axiom, sorry.
-/
import Derived.Test.YtepflleaeogafaaGreatDoorRows
import GoSem.ClaimSeven
namespace Go.Proofs.YtepflleaeogafaaGreatDoor
namespace Rows

/-- THE TIED CARD OF 'octroilaw12.NormalTables'. -/
def normalTablesCard : Claim7 := { stood := { row := normalTablesRow, standIns := [], harness := (true, "0aae27b61763dec229ceea3d0f229851bc6d1be13130531e173a47f78826fa9c"), looks := false }, kinds := [], alts := [], laidByText := true, laidKinds := [.data], laidTests := true, laidLooks := .later }
def NormalTablesCardSaid : Prop := Claim7.holds Tryz.pinned (.plain (OpenSpec.ofChange normalTablesSpec)) normalTablesCard

/-- THE TIED CARD OF 'octroilaw12.NormalRaw'. -/
def normalRawCard : Claim7 := { stood := { row := normalRawRow, standIns := [], harness := (true, "0aae27b61763dec229ceea3d0f229851bc6d1be13130531e173a47f78826fa9c"), looks := false }, kinds := [], alts := [], laidByText := true, laidKinds := [.data], laidTests := true, laidLooks := .later }
def NormalRawCardSaid : Prop := Claim7.holds Tryz.pinned (.plain (OpenSpec.ofChange normalRawSpec)) normalRawCard

/-- THE TIED CARD OF 'octroilaw12.NormalGrows'. -/
def normalGrowsCard : Claim7 := { stood := { row := normalGrowsRow, standIns := [], harness := (true, "0aae27b61763dec229ceea3d0f229851bc6d1be13130531e173a47f78826fa9c"), looks := false }, kinds := [], alts := [], laidByText := true, laidKinds := [.data], laidTests := true, laidLooks := .later }
def NormalGrowsCardSaid : Prop := Claim7.holds Tryz.pinned (.plain (OpenSpec.ofChange normalGrowsSpec)) normalGrowsCard

/-- THE TIED CARD OF 'octroilaw12.NormalMeans'. -/
def normalMeansCard : Claim7 := { stood := { row := normalMeansRow, standIns := [], harness := (true, "0aae27b61763dec229ceea3d0f229851bc6d1be13130531e173a47f78826fa9c"), looks := false }, kinds := [], alts := [], laidByText := true, laidKinds := [.data], laidTests := true, laidLooks := .later }
def NormalMeansCardSaid : Prop := Claim7.holds Tryz.pinned (.plain (OpenSpec.ofChange normalMeansSpec)) normalMeansCard

/-- THE SECOND FORM's CARD OF 'octroilaw12.NormalTables'. -/
def normalTablesUptoCard : Claim7 := { stood := { row := normalTablesUptoRow, standIns := [], harness := (true, "0aae27b61763dec229ceea3d0f229851bc6d1be13130531e173a47f78826fa9c"), looks := false }, kinds := [], alts := [], laidByText := true, laidKinds := [.data], laidTests := true, laidLooks := .later }
def NormalTablesUptoCardSaid : Prop := Claim7.holds Tryz.pinned (.plain (OpenSpec.upto normalTablesSpec)) normalTablesUptoCard

/-- THE SECOND FORM's CARD OF 'octroilaw12.NormalRaw'. -/
def normalRawUptoCard : Claim7 := { stood := { row := normalRawUptoRow, standIns := [], harness := (true, "0aae27b61763dec229ceea3d0f229851bc6d1be13130531e173a47f78826fa9c"), looks := false }, kinds := [], alts := [], laidByText := true, laidKinds := [.data], laidTests := true, laidLooks := .later }
def NormalRawUptoCardSaid : Prop := Claim7.holds Tryz.pinned (.plain (OpenSpec.upto normalRawSpec)) normalRawUptoCard

/-- THE SECOND FORM's CARD OF 'octroilaw12.NormalGrows'. -/
def normalGrowsUptoCard : Claim7 := { stood := { row := normalGrowsUptoRow, standIns := [], harness := (true, "0aae27b61763dec229ceea3d0f229851bc6d1be13130531e173a47f78826fa9c"), looks := false }, kinds := [], alts := [], laidByText := true, laidKinds := [.data], laidTests := true, laidLooks := .later }
def NormalGrowsUptoCardSaid : Prop := Claim7.holds Tryz.pinned (.plain (OpenSpec.upto normalGrowsSpec)) normalGrowsUptoCard

/-- THE SECOND FORM's CARD OF 'octroilaw12.NormalMeans'. -/
def normalMeansUptoCard : Claim7 := { stood := { row := normalMeansUptoRow, standIns := [], harness := (true, "0aae27b61763dec229ceea3d0f229851bc6d1be13130531e173a47f78826fa9c"), looks := false }, kinds := [], alts := [], laidByText := true, laidKinds := [.data], laidTests := true, laidLooks := .later }
def NormalMeansUptoCardSaid : Prop := Claim7.holds Tryz.pinned (.plain (OpenSpec.upto normalMeansSpec)) normalMeansUptoCard
end Rows
end Go.Proofs.YtepflleaeogafaaGreatDoor
