/-
  DERIVED. GIVEN WITH THE SEED: THE CARDS: each row of YtpkhgapifnjbeaaGreatDoorRows.lean that lists a variable, with what it lists TIED to the program's text (the seventh form; the later family's looks); each row that meets fmt, with fmt's text TOLD by the authors' own Lean function (tested against real Go, not proved from fmt's source: count such statements apart). THE CARD IS WHAT COUNTS. Prove the row's statement (the work); the ties are given (YtpkhgapifnjbeaaGreatDoorTie.lean); close each card by the builder's one call (the guide's Derived/Test/ToyasCard.lean, 'card_holds'). Laid BY PROGRAM, IN A SANDBOX (cutbox-door.mjs). By AI agents, Wed Nov 11 2026. No macro, syntax, notation, axiom, sorry.
-/
import Derived.Test.YtpkhgapifnjbeaaGreatDoorRows
import GoSem.ClaimSeven
namespace Go.Proofs.YtpkhgapifnjbeaaGreatDoor
namespace Rows

/-- THE TIED CARD OF 'awardingbodytop.TopLabels'. -/
def topLabelsCard : Claim7 := { stood := { row := topLabelsRow, standIns := [], harness := (true, "7e6822926169cfe1c3a292a53cf000915babf8db10164626460e51774619d438"), looks := false }, kinds := [], alts := [], laidByText := true, laidKinds := [.data, .pinned], laidTests := true, laidLooks := .later }
def TopLabelsCardSaid : Prop := Claim7.holds Tryz.pinned (.plain (OpenSpec.ofChange topLabelsSpec)) topLabelsCard

/-- THE TIED CARD OF 'awardingbodylaw19.StripDraws'. -/
def stripDrawsCard : Claim7 := { stood := { row := stripDrawsRow, standIns := [], harness := (true, "7e6822926169cfe1c3a292a53cf000915babf8db10164626460e51774619d438"), looks := false }, kinds := [], alts := [], laidByText := true, laidKinds := [.data, .pinned], laidTests := true, laidLooks := .later }
def StripDrawsCardSaid : Prop := Claim7.holds Tryz.pinned (.plain (OpenSpec.ofChange stripDrawsSpec)) stripDrawsCard

/-- THE TIED CARD OF 'awardingbodylaw19.StripUprights'. -/
def stripUprightsCard : Claim7 := { stood := { row := stripUprightsRow, standIns := [], harness := (true, "7e6822926169cfe1c3a292a53cf000915babf8db10164626460e51774619d438"), looks := false }, kinds := [], alts := [], laidByText := true, laidKinds := [.data, .pinned], laidTests := true, laidLooks := .later }
def StripUprightsCardSaid : Prop := Claim7.holds Tryz.pinned (.plain (OpenSpec.ofChange stripUprightsSpec)) stripUprightsCard

/-- THE TIED CARD OF 'awardingbodylaw19.StripWords'. -/
def stripWordsCard : Claim7 := { stood := { row := stripWordsRow, standIns := [], harness := (true, "7e6822926169cfe1c3a292a53cf000915babf8db10164626460e51774619d438"), looks := false }, kinds := [], alts := [], laidByText := true, laidKinds := [.data, .pinned], laidTests := true, laidLooks := .later }
def StripWordsCardSaid : Prop := Claim7.holds Tryz.pinned (.plain (OpenSpec.ofChange stripWordsSpec)) stripWordsCard

/-- THE TIED CARD OF 'awardingbodylaw19.StripReads'. -/
def stripReadsCard : Claim7 := { stood := { row := stripReadsRow, standIns := [], harness := (true, "7e6822926169cfe1c3a292a53cf000915babf8db10164626460e51774619d438"), looks := false }, kinds := [], alts := [], laidByText := true, laidKinds := [.data, .pinned], laidTests := true, laidLooks := .later }
def StripReadsCardSaid : Prop := Claim7.holds Tryz.pinned (.plain (OpenSpec.ofChange stripReadsSpec)) stripReadsCard

/-- THE SECOND FORM's CARD OF 'awardingbodytop.TopLabels'. -/
def topLabelsUptoCard : Claim7 := { stood := { row := topLabelsUptoRow, standIns := [], harness := (true, "7e6822926169cfe1c3a292a53cf000915babf8db10164626460e51774619d438"), looks := false }, kinds := [], alts := [], laidByText := true, laidKinds := [.data, .pinned], laidTests := true, laidLooks := .later }
def TopLabelsUptoCardSaid : Prop := Claim7.holds Tryz.pinned (.plain (OpenSpec.upto topLabelsSpec)) topLabelsUptoCard

/-- THE SECOND FORM's CARD OF 'awardingbodylaw19.StripDraws'. -/
def stripDrawsUptoCard : Claim7 := { stood := { row := stripDrawsUptoRow, standIns := [], harness := (true, "7e6822926169cfe1c3a292a53cf000915babf8db10164626460e51774619d438"), looks := false }, kinds := [], alts := [], laidByText := true, laidKinds := [.data, .pinned], laidTests := true, laidLooks := .later }
def StripDrawsUptoCardSaid : Prop := Claim7.holds Tryz.pinned (.plain (OpenSpec.upto stripDrawsSpec)) stripDrawsUptoCard

/-- THE SECOND FORM's CARD OF 'awardingbodylaw19.StripUprights'. -/
def stripUprightsUptoCard : Claim7 := { stood := { row := stripUprightsUptoRow, standIns := [], harness := (true, "7e6822926169cfe1c3a292a53cf000915babf8db10164626460e51774619d438"), looks := false }, kinds := [], alts := [], laidByText := true, laidKinds := [.data, .pinned], laidTests := true, laidLooks := .later }
def StripUprightsUptoCardSaid : Prop := Claim7.holds Tryz.pinned (.plain (OpenSpec.upto stripUprightsSpec)) stripUprightsUptoCard

/-- THE SECOND FORM's CARD OF 'awardingbodylaw19.StripWords'. -/
def stripWordsUptoCard : Claim7 := { stood := { row := stripWordsUptoRow, standIns := [], harness := (true, "7e6822926169cfe1c3a292a53cf000915babf8db10164626460e51774619d438"), looks := false }, kinds := [], alts := [], laidByText := true, laidKinds := [.data, .pinned], laidTests := true, laidLooks := .later }
def StripWordsUptoCardSaid : Prop := Claim7.holds Tryz.pinned (.plain (OpenSpec.upto stripWordsSpec)) stripWordsUptoCard

/-- THE SECOND FORM's CARD OF 'awardingbodylaw19.StripReads'. -/
def stripReadsUptoCard : Claim7 := { stood := { row := stripReadsUptoRow, standIns := [], harness := (true, "7e6822926169cfe1c3a292a53cf000915babf8db10164626460e51774619d438"), looks := false }, kinds := [], alts := [], laidByText := true, laidKinds := [.data, .pinned], laidTests := true, laidLooks := .later }
def StripReadsUptoCardSaid : Prop := Claim7.holds Tryz.pinned (.plain (OpenSpec.upto stripReadsSpec)) stripReadsUptoCard
end Rows
end Go.Proofs.YtpkhgapifnjbeaaGreatDoor
