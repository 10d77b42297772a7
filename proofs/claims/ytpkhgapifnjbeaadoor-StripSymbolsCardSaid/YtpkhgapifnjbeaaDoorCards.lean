/-
  DERIVED. GIVEN WITH THE SEED: THE CARDS: each row of YtpkhgapifnjbeaaDoorRows.lean that lists a variable, with what it lists TIED to the program's text (the seventh form; the later family's looks); each row that meets fmt, with fmt's text TOLD by the authors' own Lean function (tested against real Go, not proved from fmt's source: count such statements apart). THE CARD IS WHAT COUNTS. Prove the row's statement (the work); the ties are given (YtpkhgapifnjbeaaDoorTie.lean); close each card by the builder's one call (the guide's Derived/Test/ToyasCard.lean, 'card_holds'). Laid BY PROGRAM, IN A SANDBOX (cutbox-door.mjs). By AI agents, Wed Nov 11 2026. No macro, syntax, notation, axiom, sorry.
-/
import Derived.Test.YtpkhgapifnjbeaaDoorRows
import GoSem.ClaimSeven
namespace Go.Proofs.YtpkhgapifnjbeaaDoor
namespace Rows

/-- THE TIED CARD OF 'awardingbodylaw19.StripSymbols'. -/
def stripSymbolsCard : Claim7 := { stood := { row := stripSymbolsRow, standIns := [], harness := (true, "b58b7df395264557b4d0446b1454eeedfc2e93f7558f94a662d1089077da585f"), looks := false }, kinds := [], alts := [], laidByText := true, laidKinds := [.data, .pinned], laidTests := true, laidLooks := .later }
def StripSymbolsCardSaid : Prop := Claim7.holds Tryd.pinned (.plain (OpenSpec.ofChange stripSymbolsSpec)) stripSymbolsCard

/-- THE SECOND FORM's CARD OF 'awardingbodylaw19.StripSymbols'. -/
def stripSymbolsUptoCard : Claim7 := { stood := { row := stripSymbolsUptoRow, standIns := [], harness := (true, "b58b7df395264557b4d0446b1454eeedfc2e93f7558f94a662d1089077da585f"), looks := false }, kinds := [], alts := [], laidByText := true, laidKinds := [.data, .pinned], laidTests := true, laidLooks := .later }
def StripSymbolsUptoCardSaid : Prop := Claim7.holds Tryd.pinned (.plain (OpenSpec.upto stripSymbolsSpec)) stripSymbolsUptoCard
end Rows
end Go.Proofs.YtpkhgapifnjbeaaDoor
