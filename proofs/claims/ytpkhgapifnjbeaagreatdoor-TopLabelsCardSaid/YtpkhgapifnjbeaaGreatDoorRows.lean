/-
  NARROWER THAN 'FOR EVERY INPUT', by the rows' own cells (each row's printed sentence says how): TopLabels: laid · StripDraws: laid · StripUprights: laid · StripWords: laid · StripReads: laid.
  DERIVED. THE GIVEN ROWS OF THIS SEAT. 5 by the template 'for every input the law returns true; each argument reads behind the call as it read before'; 0 by the template 'total and deterministic' (their statements: YtpkhgapifnjbeaaGreatDoorTotals.lean).
  GIVEN WITH THE SEED: the statements are not yours to turn. If you find one false, say at which input.
  Laid BY PROGRAM, IN A SANDBOX (cutbox-rows.mjs): the forced cells as the released guide's own fill.sh prints them over the translation e8bb14440bbf8882… (all of the seat's roots in one cut). By AI agents, Wed Nov 11 2026. No macro, syntax, notation, axiom, sorry.
-/
import Derived.Test.YtpkhgapifnjbeaaGreatDoorChecked
import GoSem.PinnedTables
import GoSem.Claim
import GoSem.ClaimJoined
import GoSem.ClaimMapViews
import Derived.JoinedTies
import Derived.KernelRfl
namespace Go.Proofs.YtpkhgapifnjbeaaGreatDoor
/- THE CELL 'sum', in the pinned program and in every row, IS THE sha256 OF THE DUMP (.gsa) THAT YtpkhgapifnjbeaaGreatDoorProg.lean LOADS. Nothing in Lean hashes anything: it is a label: what it is worth is what the hold of that sum in a sandbox is worth. -/
noncomputable def Tryz.pinned : Pinned := { name := "ytpkhgapifnjbeaagreatdoor", sum := "e8bb14440bbf888253b816d77991d137353732d8f9c35f3462008935a8bd7c84", checked := Tryz.checked }
namespace Rows
def none {H : Type} : Left H := { results := [], args := [] }

/- WHAT THE LISTED PACKAGE-LEVEL VARIABLES READ AS WHEN THE CALL BEGINS. Each datum BY PROGRAM (the guide's laid-datum.mjs) off the statement by which the dump's own 'gosem.cut.vars' lays the variable. In a bare row this is a premise. The card (YtpkhgapifnjbeaaGreatDoorCards.lean) ties it to the program's text. -/
def laid_unicode_utf8_acceptRanges {H : Type} : DataW H := .agg [.agg [.lit (.int .u8 128), .lit (.int .u8 191)], .agg [.lit (.int .u8 160), .lit (.int .u8 191)], .agg [.lit (.int .u8 128), .lit (.int .u8 159)], .agg [.lit (.int .u8 144), .lit (.int .u8 191)], .agg [.lit (.int .u8 128), .lit (.int .u8 143)], .agg [.lit (.int .u8 0), .lit (.int .u8 0)], .agg [.lit (.int .u8 0), .lit (.int .u8 0)], .agg [.lit (.int .u8 0), .lit (.int .u8 0)], .agg [.lit (.int .u8 0), .lit (.int .u8 0)], .agg [.lit (.int .u8 0), .lit (.int .u8 0)], .agg [.lit (.int .u8 0), .lit (.int .u8 0)], .agg [.lit (.int .u8 0), .lit (.int .u8 0)], .agg [.lit (.int .u8 0), .lit (.int .u8 0)], .agg [.lit (.int .u8 0), .lit (.int .u8 0)], .agg [.lit (.int .u8 0), .lit (.int .u8 0)], .agg [.lit (.int .u8 0), .lit (.int .u8 0)]]
/-- One of Go's own tables, pinned by name: the form's constant. -/
def laid_unicode_utf8_first : DataW Unit := Go.Pinned.utf8First

/-- 'awardingbodytop.TopLabels': WHATEVER THE INPUT: true; the input reads as it did. -/
def topLabelsSpec : ChangeSpec := { name := "topLabels", fn := fun _ => fun
  | [d] => { results := [.lit (.bool true)], args := [d] }
  | _ => none }
def topLabelsRow : OpenClaim := { program := "ytpkhgapifnjbeaagreatdoor", sum := "e8bb14440bbf888253b816d77991d137353732d8f9c35f3462008935a8bd7c84", func := "awardingbody/awardingbodytop.TopLabels", spec := "topLabels", inPlace := ["internal/abi.NoEscape", "internal/bytealg.MakeNoZero", "internal/bytealg.IndexByteString", "internal/bytealg.IndexString", "internal/bytealg.CountString"], unfollowed := true, recurses := true, named := ["unicode/utf8.first", "unicode/utf8.acceptRanges", "internal/bytealg.MaxLen"], apart := false, laid := [("unicode/utf8.acceptRanges", laid_unicode_utf8_acceptRanges), ("unicode/utf8.first", laid_unicode_utf8_first)] }
def TopLabelsSaid : Prop := topLabelsRow.holds Tryz.pinned (OpenSpec.ofChange topLabelsSpec)

/-- ITS FALSE NEIGHBOUR: 'it returns false'. Refute it at one input. -/
def topLabelsWrong : ChangeSpec := { name := "topLabels", fn := fun _ => fun
  | [d] => { results := [.lit (.bool false)], args := [d] }
  | _ => none }
def TopLabelsWrongFalsely : Prop := topLabelsRow.holds Tryz.pinned (OpenSpec.ofChange topLabelsWrong)

/-- 'awardingbodylaw19.StripDraws': WHATEVER THE INPUT: true; the input reads as it did. -/
def stripDrawsSpec : ChangeSpec := { name := "stripDraws", fn := fun _ => fun
  | [d1, d2] => { results := [.lit (.bool true)], args := [d1, d2] }
  | _ => none }
def stripDrawsRow : OpenClaim := { program := "ytpkhgapifnjbeaagreatdoor", sum := "e8bb14440bbf888253b816d77991d137353732d8f9c35f3462008935a8bd7c84", func := "awardingbody/awardingbodylaw19.StripDraws", spec := "stripDraws", inPlace := ["internal/abi.NoEscape", "internal/bytealg.MakeNoZero", "internal/bytealg.IndexByteString", "internal/bytealg.IndexString", "internal/bytealg.CountString"], unfollowed := true, recurses := true, named := ["unicode/utf8.first", "unicode/utf8.acceptRanges", "internal/bytealg.MaxLen"], apart := false, laid := [("unicode/utf8.acceptRanges", laid_unicode_utf8_acceptRanges), ("unicode/utf8.first", laid_unicode_utf8_first)] }
def StripDrawsSaid : Prop := stripDrawsRow.holds Tryz.pinned (OpenSpec.ofChange stripDrawsSpec)

/-- ITS FALSE NEIGHBOUR: 'it returns false'. Refute it at one input. -/
def stripDrawsWrong : ChangeSpec := { name := "stripDraws", fn := fun _ => fun
  | [d1, d2] => { results := [.lit (.bool false)], args := [d1, d2] }
  | _ => none }
def StripDrawsWrongFalsely : Prop := stripDrawsRow.holds Tryz.pinned (OpenSpec.ofChange stripDrawsWrong)

/-- 'awardingbodylaw19.StripUprights': WHATEVER THE INPUT: true; the input reads as it did. -/
def stripUprightsSpec : ChangeSpec := { name := "stripUprights", fn := fun _ => fun
  | [d1, d2] => { results := [.lit (.bool true)], args := [d1, d2] }
  | _ => none }
def stripUprightsRow : OpenClaim := { program := "ytpkhgapifnjbeaagreatdoor", sum := "e8bb14440bbf888253b816d77991d137353732d8f9c35f3462008935a8bd7c84", func := "awardingbody/awardingbodylaw19.StripUprights", spec := "stripUprights", inPlace := ["internal/bytealg.IndexByteString", "internal/bytealg.IndexString", "internal/bytealg.CountString", "internal/abi.NoEscape", "internal/bytealg.MakeNoZero"], unfollowed := true, recurses := true, named := ["unicode/utf8.first", "unicode/utf8.acceptRanges", "internal/bytealg.MaxLen"], apart := false, laid := [("unicode/utf8.acceptRanges", laid_unicode_utf8_acceptRanges), ("unicode/utf8.first", laid_unicode_utf8_first)] }
def StripUprightsSaid : Prop := stripUprightsRow.holds Tryz.pinned (OpenSpec.ofChange stripUprightsSpec)

/-- ITS FALSE NEIGHBOUR: 'it returns false'. Refute it at one input. -/
def stripUprightsWrong : ChangeSpec := { name := "stripUprights", fn := fun _ => fun
  | [d1, d2] => { results := [.lit (.bool false)], args := [d1, d2] }
  | _ => none }
def StripUprightsWrongFalsely : Prop := stripUprightsRow.holds Tryz.pinned (OpenSpec.ofChange stripUprightsWrong)

/-- 'awardingbodylaw19.StripWords': WHATEVER THE INPUT: true; the input reads as it did. -/
def stripWordsSpec : ChangeSpec := { name := "stripWords", fn := fun _ => fun
  | [d1, d2] => { results := [.lit (.bool true)], args := [d1, d2] }
  | _ => none }
def stripWordsRow : OpenClaim := { program := "ytpkhgapifnjbeaagreatdoor", sum := "e8bb14440bbf888253b816d77991d137353732d8f9c35f3462008935a8bd7c84", func := "awardingbody/awardingbodylaw19.StripWords", spec := "stripWords", inPlace := ["internal/bytealg.IndexByteString", "internal/bytealg.IndexString", "internal/abi.NoEscape", "internal/bytealg.MakeNoZero", "internal/bytealg.CountString"], unfollowed := true, recurses := true, named := ["unicode/utf8.first", "unicode/utf8.acceptRanges", "internal/bytealg.MaxLen"], apart := false, laid := [("unicode/utf8.acceptRanges", laid_unicode_utf8_acceptRanges), ("unicode/utf8.first", laid_unicode_utf8_first)] }
def StripWordsSaid : Prop := stripWordsRow.holds Tryz.pinned (OpenSpec.ofChange stripWordsSpec)

/-- ITS FALSE NEIGHBOUR: 'it returns false'. Refute it at one input. -/
def stripWordsWrong : ChangeSpec := { name := "stripWords", fn := fun _ => fun
  | [d1, d2] => { results := [.lit (.bool false)], args := [d1, d2] }
  | _ => none }
def StripWordsWrongFalsely : Prop := stripWordsRow.holds Tryz.pinned (OpenSpec.ofChange stripWordsWrong)

/-- 'awardingbodylaw19.StripReads': WHATEVER THE INPUT: true; the input reads as it did. -/
def stripReadsSpec : ChangeSpec := { name := "stripReads", fn := fun _ => fun
  | [d1, d2] => { results := [.lit (.bool true)], args := [d1, d2] }
  | _ => none }
def stripReadsRow : OpenClaim := { program := "ytpkhgapifnjbeaagreatdoor", sum := "e8bb14440bbf888253b816d77991d137353732d8f9c35f3462008935a8bd7c84", func := "awardingbody/awardingbodylaw19.StripReads", spec := "stripReads", inPlace := ["internal/bytealg.IndexByteString", "internal/bytealg.IndexString", "internal/bytealg.CountString", "internal/abi.NoEscape", "internal/bytealg.MakeNoZero"], unfollowed := true, recurses := true, named := ["unicode/utf8.first", "unicode/utf8.acceptRanges", "internal/bytealg.MaxLen"], apart := false, laid := [("unicode/utf8.acceptRanges", laid_unicode_utf8_acceptRanges), ("unicode/utf8.first", laid_unicode_utf8_first)] }
def StripReadsSaid : Prop := stripReadsRow.holds Tryz.pinned (OpenSpec.ofChange stripReadsSpec)

/-- ITS FALSE NEIGHBOUR: 'it returns false'. Refute it at one input. -/
def stripReadsWrong : ChangeSpec := { name := "stripReads", fn := fun _ => fun
  | [d1, d2] => { results := [.lit (.bool false)], args := [d1, d2] }
  | _ => none }
def StripReadsWrongFalsely : Prop := stripReadsRow.holds Tryz.pinned (OpenSpec.ofChange stripReadsWrong)

/- THE SECOND FORM. 'bulk': how many values and letters a reading holds, each counted each time it is reached (what is shared counts as often as it is met; a slice's spare places count too). A statement '..UptoSaid' is the law's where the arguments, and the package variables that the reading takes, are together of bulk at most 1048576: NARROWER than '..Said'. Prove '..Said' where nothing that the law and all that it calls make is longer than what came in: it says more and counts as full. Else prove '..UptoSaid'. A law counts once. -/
mutual
def uptoBulk {H : Type} : DataW H → Nat
  | .lit (.string bytes) => bytes.length + 1
  | .lit _ => 1
  | .nil => 1
  | .ptr d => uptoBulk d + 1
  | .slice elems spare => uptoBulkAll elems + uptoBulkAll spare + 1
  | .agg parts => uptoBulkAll parts + 1
  | .iface _ d => uptoBulk d + 1
  | .map entries => uptoBulkEntries entries + 1
  | .held _ => 1
def uptoBulkAll {H : Type} : List (DataW H) → Nat
  | [] => 0
  | d :: r => uptoBulk d + uptoBulkAll r
def uptoBulkEntries {H : Type} : List (Lit × DataW H) → Nat
  | [] => 0
  | x :: r => uptoBulkEntry x + uptoBulkEntries r
def uptoBulkEntry {H : Type} : Lit × DataW H → Nat
  | (.string bytes, d) => bytes.length + uptoBulk d + 1
  | (_, d) => uptoBulk d + 1
 end
def uptoSmall : (H : Type) → List (DataW H) → Bool := fun _ ds => decide (uptoBulkAll ds ≤ 1048576)
def OpenSpec.upto (s : _root_.Go.ChangeSpec) : _root_.Go.OpenSpec := { _root_.Go.OpenSpec.ofChange s with cond := some uptoSmall }

/-- 'awardingbodytop.TopLabels', WHERE WHAT IT READS IS OF BULK AT MOST 1048576: true; the input reads as it did. -/
def topLabelsUptoRow : OpenClaim := { program := "ytpkhgapifnjbeaagreatdoor", sum := "e8bb14440bbf888253b816d77991d137353732d8f9c35f3462008935a8bd7c84", func := "awardingbody/awardingbodytop.TopLabels", spec := "topLabels", inPlace := ["internal/abi.NoEscape", "internal/bytealg.MakeNoZero", "internal/bytealg.IndexByteString", "internal/bytealg.IndexString", "internal/bytealg.CountString"], unfollowed := true, recurses := true, named := ["unicode/utf8.first", "unicode/utf8.acceptRanges", "internal/bytealg.MaxLen"], apart := false, laid := [("unicode/utf8.acceptRanges", laid_unicode_utf8_acceptRanges), ("unicode/utf8.first", laid_unicode_utf8_first)], narrowed := true }
def TopLabelsUptoSaid : Prop := topLabelsUptoRow.holds Tryz.pinned (OpenSpec.upto topLabelsSpec)

/-- 'awardingbodylaw19.StripDraws', WHERE WHAT IT READS IS OF BULK AT MOST 1048576: true; the input reads as it did. -/
def stripDrawsUptoRow : OpenClaim := { program := "ytpkhgapifnjbeaagreatdoor", sum := "e8bb14440bbf888253b816d77991d137353732d8f9c35f3462008935a8bd7c84", func := "awardingbody/awardingbodylaw19.StripDraws", spec := "stripDraws", inPlace := ["internal/abi.NoEscape", "internal/bytealg.MakeNoZero", "internal/bytealg.IndexByteString", "internal/bytealg.IndexString", "internal/bytealg.CountString"], unfollowed := true, recurses := true, named := ["unicode/utf8.first", "unicode/utf8.acceptRanges", "internal/bytealg.MaxLen"], apart := false, laid := [("unicode/utf8.acceptRanges", laid_unicode_utf8_acceptRanges), ("unicode/utf8.first", laid_unicode_utf8_first)], narrowed := true }
def StripDrawsUptoSaid : Prop := stripDrawsUptoRow.holds Tryz.pinned (OpenSpec.upto stripDrawsSpec)

/-- 'awardingbodylaw19.StripUprights', WHERE WHAT IT READS IS OF BULK AT MOST 1048576: true; the input reads as it did. -/
def stripUprightsUptoRow : OpenClaim := { program := "ytpkhgapifnjbeaagreatdoor", sum := "e8bb14440bbf888253b816d77991d137353732d8f9c35f3462008935a8bd7c84", func := "awardingbody/awardingbodylaw19.StripUprights", spec := "stripUprights", inPlace := ["internal/bytealg.IndexByteString", "internal/bytealg.IndexString", "internal/bytealg.CountString", "internal/abi.NoEscape", "internal/bytealg.MakeNoZero"], unfollowed := true, recurses := true, named := ["unicode/utf8.first", "unicode/utf8.acceptRanges", "internal/bytealg.MaxLen"], apart := false, laid := [("unicode/utf8.acceptRanges", laid_unicode_utf8_acceptRanges), ("unicode/utf8.first", laid_unicode_utf8_first)], narrowed := true }
def StripUprightsUptoSaid : Prop := stripUprightsUptoRow.holds Tryz.pinned (OpenSpec.upto stripUprightsSpec)

/-- 'awardingbodylaw19.StripWords', WHERE WHAT IT READS IS OF BULK AT MOST 1048576: true; the input reads as it did. -/
def stripWordsUptoRow : OpenClaim := { program := "ytpkhgapifnjbeaagreatdoor", sum := "e8bb14440bbf888253b816d77991d137353732d8f9c35f3462008935a8bd7c84", func := "awardingbody/awardingbodylaw19.StripWords", spec := "stripWords", inPlace := ["internal/bytealg.IndexByteString", "internal/bytealg.IndexString", "internal/abi.NoEscape", "internal/bytealg.MakeNoZero", "internal/bytealg.CountString"], unfollowed := true, recurses := true, named := ["unicode/utf8.first", "unicode/utf8.acceptRanges", "internal/bytealg.MaxLen"], apart := false, laid := [("unicode/utf8.acceptRanges", laid_unicode_utf8_acceptRanges), ("unicode/utf8.first", laid_unicode_utf8_first)], narrowed := true }
def StripWordsUptoSaid : Prop := stripWordsUptoRow.holds Tryz.pinned (OpenSpec.upto stripWordsSpec)

/-- 'awardingbodylaw19.StripReads', WHERE WHAT IT READS IS OF BULK AT MOST 1048576: true; the input reads as it did. -/
def stripReadsUptoRow : OpenClaim := { program := "ytpkhgapifnjbeaagreatdoor", sum := "e8bb14440bbf888253b816d77991d137353732d8f9c35f3462008935a8bd7c84", func := "awardingbody/awardingbodylaw19.StripReads", spec := "stripReads", inPlace := ["internal/bytealg.IndexByteString", "internal/bytealg.IndexString", "internal/bytealg.CountString", "internal/abi.NoEscape", "internal/bytealg.MakeNoZero"], unfollowed := true, recurses := true, named := ["unicode/utf8.first", "unicode/utf8.acceptRanges", "internal/bytealg.MaxLen"], apart := false, laid := [("unicode/utf8.acceptRanges", laid_unicode_utf8_acceptRanges), ("unicode/utf8.first", laid_unicode_utf8_first)], narrowed := true }
def StripReadsUptoSaid : Prop := stripReadsUptoRow.holds Tryz.pinned (OpenSpec.upto stripReadsSpec)

end Rows
end Go.Proofs.YtpkhgapifnjbeaaGreatDoor
