/-
  DERIVED. GIVEN WITH THE SEED: THE CARDS: each row of YtmkkoenoplginaaDoorRows.lean that lists a variable, with what it lists TIED to the program's text (the seventh form; the later family's looks); each row that meets fmt, with fmt's text TOLD by the authors' own Lean function (tested against real Go, not proved from fmt's source: count such statements apart). THE CARD IS WHAT COUNTS. Prove the row's statement (the work); the ties are given (YtmkkoenoplginaaDoorTie.lean); close each card by the builder's one call (the guide's Derived/Test/ToyasCard.lean, 'card_holds'). Laid BY PROGRAM, IN A SANDBOX (cutbox-door.mjs). By AI agents, Wed Nov 11 2026. No macro, syntax, notation, axiom, sorry.
-/
import Derived.Test.YtmkkoenoplginaaDoorRows
import GoSem.ClaimSeven
namespace Go.Proofs.YtmkkoenoplginaaDoor
namespace Rows

/-- THE TIED CARD OF 'octroilaw17.EmitPlain'. -/
def emitPlainCard : Claim7 := { stood := { row := emitPlainRow, standIns := [], harness := (true, "9a9d7a5a3a405635896a8095adcecef84251a06004ff64a9a843cf3e8bfd121f"), looks := false }, kinds := [], alts := [], laidByText := true, laidKinds := [.data], laidTests := true, laidLooks := .later }
def EmitPlainCardSaid : Prop := Claim7.holds Tryd.pinned (.plain (OpenSpec.ofChange emitPlainSpec)) emitPlainCard

/-- THE TIED CARD OF 'octroilaw17.EmitKeeps'. -/
def emitKeepsCard : Claim7 := { stood := { row := emitKeepsRow, standIns := [], harness := (true, "9a9d7a5a3a405635896a8095adcecef84251a06004ff64a9a843cf3e8bfd121f"), looks := false }, kinds := [], alts := [], laidByText := true, laidKinds := [.data], laidTests := true, laidLooks := .later }
def EmitKeepsCardSaid : Prop := Claim7.holds Tryd.pinned (.plain (OpenSpec.ofChange emitKeepsSpec)) emitKeepsCard

/-- THE SECOND FORM's CARD OF 'octroilaw17.EmitPlain'. -/
def emitPlainUptoCard : Claim7 := { stood := { row := emitPlainUptoRow, standIns := [], harness := (true, "9a9d7a5a3a405635896a8095adcecef84251a06004ff64a9a843cf3e8bfd121f"), looks := false }, kinds := [], alts := [], laidByText := true, laidKinds := [.data], laidTests := true, laidLooks := .later }
def EmitPlainUptoCardSaid : Prop := Claim7.holds Tryd.pinned (.plain (OpenSpec.upto emitPlainSpec)) emitPlainUptoCard

/-- THE SECOND FORM's CARD OF 'octroilaw17.EmitKeeps'. -/
def emitKeepsUptoCard : Claim7 := { stood := { row := emitKeepsUptoRow, standIns := [], harness := (true, "9a9d7a5a3a405635896a8095adcecef84251a06004ff64a9a843cf3e8bfd121f"), looks := false }, kinds := [], alts := [], laidByText := true, laidKinds := [.data], laidTests := true, laidLooks := .later }
def EmitKeepsUptoCardSaid : Prop := Claim7.holds Tryd.pinned (.plain (OpenSpec.upto emitKeepsSpec)) emitKeepsUptoCard
end Rows
end Go.Proofs.YtmkkoenoplginaaDoor
