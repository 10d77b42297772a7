/-
  No cell of these rows narrows 'for every input' (looked for: loops, veiled, ifaces, maps, wideKeys, modest, calm, conditions, laid).
  DERIVED. THE GIVEN ROWS OF THIS SEAT. 11 by the template 'for every input the law returns true; each argument reads behind the call as it read before'; 0 by the template 'total and deterministic' (their statements: YtpkhgapifnjbeaaTotals.lean).
  GIVEN WITH THE SEED: the statements are not yours to turn. If you find one false, say at which input.
  Laid BY PROGRAM, IN A SANDBOX (cutbox-rows.mjs): the forced cells as the released guide's own fill.sh prints them over the translation a318a87378b1feb0… (all of the seat's roots in one cut). By AI agents, Wed Nov 11 2026. No macro, syntax, notation, axiom, sorry.
-/
import Derived.Test.YtpkhgapifnjbeaaChecked
import GoSem.Claim
import GoSem.ClaimJoined
import GoSem.ClaimMapViews
import Derived.JoinedTies
import Derived.KernelRfl
namespace Go.Proofs.Ytpkhgapifnjbeaa
/- THE CELL 'sum', in the pinned program and in every row, IS THE sha256 OF THE DUMP (.gsa) THAT YtpkhgapifnjbeaaProg.lean LOADS. Nothing in Lean hashes anything: it is a label: what it is worth is what the hold of that sum in a sandbox is worth. -/
noncomputable def Try.pinned : Pinned := { name := "ytpkhgapifnjbeaa", sum := "a318a87378b1feb0d4f5d9649b43450ec1a9de296616ea3ba4fe43785a32085a", checked := Try.checked }
namespace Rows
def none {H : Type} : Left H := { results := [], args := [] }

/-- 'awardingbodylaw18.RscodeMultiplies': WHATEVER THE INPUT: true; the input reads as it did. -/
def rscodeMultipliesSpec : ChangeSpec := { name := "rscodeMultiplies", fn := fun _ => fun
  | [d1, d2] => { results := [.lit (.bool true)], args := [d1, d2] }
  | _ => none }
def rscodeMultipliesRow : OpenClaim := { program := "ytpkhgapifnjbeaa", sum := "a318a87378b1feb0d4f5d9649b43450ec1a9de296616ea3ba4fe43785a32085a", func := "awardingbody/awardingbodylaw18.RscodeMultiplies", spec := "rscodeMultiplies", unfollowed := true, recurses := true, apart := false }
def RscodeMultipliesSaid : Prop := rscodeMultipliesRow.holds Try.pinned (OpenSpec.ofChange rscodeMultipliesSpec)

/-- ITS FALSE NEIGHBOUR: 'it returns false'. Refute it at one input. -/
def rscodeMultipliesWrong : ChangeSpec := { name := "rscodeMultiplies", fn := fun _ => fun
  | [d1, d2] => { results := [.lit (.bool false)], args := [d1, d2] }
  | _ => none }
def RscodeMultipliesWrongFalsely : Prop := rscodeMultipliesRow.holds Try.pinned (OpenSpec.ofChange rscodeMultipliesWrong)

/-- 'awardingbodylaw18.RscodePowers': WHATEVER THE INPUT: true; the input reads as it did. -/
def rscodePowersSpec : ChangeSpec := { name := "rscodePowers", fn := fun _ => fun
  | [d1, d2] => { results := [.lit (.bool true)], args := [d1, d2] }
  | _ => none }
def rscodePowersRow : OpenClaim := { program := "ytpkhgapifnjbeaa", sum := "a318a87378b1feb0d4f5d9649b43450ec1a9de296616ea3ba4fe43785a32085a", func := "awardingbody/awardingbodylaw18.RscodePowers", spec := "rscodePowers", unfollowed := true, recurses := true, apart := false }
def RscodePowersSaid : Prop := rscodePowersRow.holds Try.pinned (OpenSpec.ofChange rscodePowersSpec)

/-- ITS FALSE NEIGHBOUR: 'it returns false'. Refute it at one input. -/
def rscodePowersWrong : ChangeSpec := { name := "rscodePowers", fn := fun _ => fun
  | [d1, d2] => { results := [.lit (.bool false)], args := [d1, d2] }
  | _ => none }
def RscodePowersWrongFalsely : Prop := rscodePowersRow.holds Try.pinned (OpenSpec.ofChange rscodePowersWrong)

/-- 'awardingbodylaw18.RscodeField': WHATEVER THE INPUT: true; the input reads as it did. -/
def rscodeFieldSpec : ChangeSpec := { name := "rscodeField", fn := fun _ => fun
  | [d1, d2, d3] => { results := [.lit (.bool true)], args := [d1, d2, d3] }
  | _ => none }
def rscodeFieldRow : OpenClaim := { program := "ytpkhgapifnjbeaa", sum := "a318a87378b1feb0d4f5d9649b43450ec1a9de296616ea3ba4fe43785a32085a", func := "awardingbody/awardingbodylaw18.RscodeField", spec := "rscodeField", unfollowed := true, recurses := true, apart := false }
def RscodeFieldSaid : Prop := rscodeFieldRow.holds Try.pinned (OpenSpec.ofChange rscodeFieldSpec)

/-- ITS FALSE NEIGHBOUR: 'it returns false'. Refute it at one input. -/
def rscodeFieldWrong : ChangeSpec := { name := "rscodeField", fn := fun _ => fun
  | [d1, d2, d3] => { results := [.lit (.bool false)], args := [d1, d2, d3] }
  | _ => none }
def RscodeFieldWrongFalsely : Prop := rscodeFieldRow.holds Try.pinned (OpenSpec.ofChange rscodeFieldWrong)

/-- 'awardingbodylaw18.RscodeEncodes': WHATEVER THE INPUT: true; the input reads as it did. -/
def rscodeEncodesSpec : ChangeSpec := { name := "rscodeEncodes", fn := fun _ => fun
  | [d1, d2] => { results := [.lit (.bool true)], args := [d1, d2] }
  | _ => none }
def rscodeEncodesRow : OpenClaim := { program := "ytpkhgapifnjbeaa", sum := "a318a87378b1feb0d4f5d9649b43450ec1a9de296616ea3ba4fe43785a32085a", func := "awardingbody/awardingbodylaw18.RscodeEncodes", spec := "rscodeEncodes", unfollowed := true, recurses := true, apart := false }
def RscodeEncodesSaid : Prop := rscodeEncodesRow.holds Try.pinned (OpenSpec.ofChange rscodeEncodesSpec)

/-- ITS FALSE NEIGHBOUR: 'it returns false'. Refute it at one input. -/
def rscodeEncodesWrong : ChangeSpec := { name := "rscodeEncodes", fn := fun _ => fun
  | [d1, d2] => { results := [.lit (.bool false)], args := [d1, d2] }
  | _ => none }
def RscodeEncodesWrongFalsely : Prop := rscodeEncodesRow.holds Try.pinned (OpenSpec.ofChange rscodeEncodesWrong)

/-- 'awardingbodylaw18.RscodeCodewords': WHATEVER THE INPUT: true; the input reads as it did. -/
def rscodeCodewordsSpec : ChangeSpec := { name := "rscodeCodewords", fn := fun _ => fun
  | [d1, d2] => { results := [.lit (.bool true)], args := [d1, d2] }
  | _ => none }
def rscodeCodewordsRow : OpenClaim := { program := "ytpkhgapifnjbeaa", sum := "a318a87378b1feb0d4f5d9649b43450ec1a9de296616ea3ba4fe43785a32085a", func := "awardingbody/awardingbodylaw18.RscodeCodewords", spec := "rscodeCodewords", unfollowed := true, recurses := true, apart := false }
def RscodeCodewordsSaid : Prop := rscodeCodewordsRow.holds Try.pinned (OpenSpec.ofChange rscodeCodewordsSpec)

/-- ITS FALSE NEIGHBOUR: 'it returns false'. Refute it at one input. -/
def rscodeCodewordsWrong : ChangeSpec := { name := "rscodeCodewords", fn := fun _ => fun
  | [d1, d2] => { results := [.lit (.bool false)], args := [d1, d2] }
  | _ => none }
def RscodeCodewordsWrongFalsely : Prop := rscodeCodewordsRow.holds Try.pinned (OpenSpec.ofChange rscodeCodewordsWrong)

/-- 'awardingbodylaw18.RscodeDecodes': WHATEVER THE INPUT: true; the input reads as it did. -/
def rscodeDecodesSpec : ChangeSpec := { name := "rscodeDecodes", fn := fun _ => fun
  | [d1, d2] => { results := [.lit (.bool true)], args := [d1, d2] }
  | _ => none }
def rscodeDecodesRow : OpenClaim := { program := "ytpkhgapifnjbeaa", sum := "a318a87378b1feb0d4f5d9649b43450ec1a9de296616ea3ba4fe43785a32085a", func := "awardingbody/awardingbodylaw18.RscodeDecodes", spec := "rscodeDecodes", unfollowed := true, recurses := true, apart := false }
def RscodeDecodesSaid : Prop := rscodeDecodesRow.holds Try.pinned (OpenSpec.ofChange rscodeDecodesSpec)

/-- ITS FALSE NEIGHBOUR: 'it returns false'. Refute it at one input. -/
def rscodeDecodesWrong : ChangeSpec := { name := "rscodeDecodes", fn := fun _ => fun
  | [d1, d2] => { results := [.lit (.bool false)], args := [d1, d2] }
  | _ => none }
def RscodeDecodesWrongFalsely : Prop := rscodeDecodesRow.holds Try.pinned (OpenSpec.ofChange rscodeDecodesWrong)

/-- 'awardingbodylaw18.RscodeCorrects': WHATEVER THE INPUT: true; the input reads as it did. -/
def rscodeCorrectsSpec : ChangeSpec := { name := "rscodeCorrects", fn := fun _ => fun
  | [d1, d2, d3] => { results := [.lit (.bool true)], args := [d1, d2, d3] }
  | _ => none }
def rscodeCorrectsRow : OpenClaim := { program := "ytpkhgapifnjbeaa", sum := "a318a87378b1feb0d4f5d9649b43450ec1a9de296616ea3ba4fe43785a32085a", func := "awardingbody/awardingbodylaw18.RscodeCorrects", spec := "rscodeCorrects", unfollowed := true, recurses := true, apart := false }
def RscodeCorrectsSaid : Prop := rscodeCorrectsRow.holds Try.pinned (OpenSpec.ofChange rscodeCorrectsSpec)

/-- ITS FALSE NEIGHBOUR: 'it returns false'. Refute it at one input. -/
def rscodeCorrectsWrong : ChangeSpec := { name := "rscodeCorrects", fn := fun _ => fun
  | [d1, d2, d3] => { results := [.lit (.bool false)], args := [d1, d2, d3] }
  | _ => none }
def RscodeCorrectsWrongFalsely : Prop := rscodeCorrectsRow.holds Try.pinned (OpenSpec.ofChange rscodeCorrectsWrong)

/-- 'awardingbodylaw18.RscodeNear': WHATEVER THE INPUT: true; the input reads as it did. -/
def rscodeNearSpec : ChangeSpec := { name := "rscodeNear", fn := fun _ => fun
  | [d] => { results := [.lit (.bool true)], args := [d] }
  | _ => none }
def rscodeNearRow : OpenClaim := { program := "ytpkhgapifnjbeaa", sum := "a318a87378b1feb0d4f5d9649b43450ec1a9de296616ea3ba4fe43785a32085a", func := "awardingbody/awardingbodylaw18.RscodeNear", spec := "rscodeNear", unfollowed := true, recurses := true, apart := false }
def RscodeNearSaid : Prop := rscodeNearRow.holds Try.pinned (OpenSpec.ofChange rscodeNearSpec)

/-- ITS FALSE NEIGHBOUR: 'it returns false'. Refute it at one input. -/
def rscodeNearWrong : ChangeSpec := { name := "rscodeNear", fn := fun _ => fun
  | [d] => { results := [.lit (.bool false)], args := [d] }
  | _ => none }
def RscodeNearWrongFalsely : Prop := rscodeNearRow.holds Try.pinned (OpenSpec.ofChange rscodeNearWrong)

/-- 'awardingbodylaw18.RscodeLinear': WHATEVER THE INPUT: true; the input reads as it did. -/
def rscodeLinearSpec : ChangeSpec := { name := "rscodeLinear", fn := fun _ => fun
  | [d1, d2] => { results := [.lit (.bool true)], args := [d1, d2] }
  | _ => none }
def rscodeLinearRow : OpenClaim := { program := "ytpkhgapifnjbeaa", sum := "a318a87378b1feb0d4f5d9649b43450ec1a9de296616ea3ba4fe43785a32085a", func := "awardingbody/awardingbodylaw18.RscodeLinear", spec := "rscodeLinear", unfollowed := true, recurses := true, apart := false }
def RscodeLinearSaid : Prop := rscodeLinearRow.holds Try.pinned (OpenSpec.ofChange rscodeLinearSpec)

/-- ITS FALSE NEIGHBOUR: 'it returns false'. Refute it at one input. -/
def rscodeLinearWrong : ChangeSpec := { name := "rscodeLinear", fn := fun _ => fun
  | [d1, d2] => { results := [.lit (.bool false)], args := [d1, d2] }
  | _ => none }
def RscodeLinearWrongFalsely : Prop := rscodeLinearRow.holds Try.pinned (OpenSpec.ofChange rscodeLinearWrong)

/-- 'awardingbodylaw18.RscodeApart': WHATEVER THE INPUT: true; the input reads as it did. -/
def rscodeApartSpec : ChangeSpec := { name := "rscodeApart", fn := fun _ => fun
  | [d] => { results := [.lit (.bool true)], args := [d] }
  | _ => none }
def rscodeApartRow : OpenClaim := { program := "ytpkhgapifnjbeaa", sum := "a318a87378b1feb0d4f5d9649b43450ec1a9de296616ea3ba4fe43785a32085a", func := "awardingbody/awardingbodylaw18.RscodeApart", spec := "rscodeApart", unfollowed := true, recurses := true, apart := false }
def RscodeApartSaid : Prop := rscodeApartRow.holds Try.pinned (OpenSpec.ofChange rscodeApartSpec)

/-- ITS FALSE NEIGHBOUR: 'it returns false'. Refute it at one input. -/
def rscodeApartWrong : ChangeSpec := { name := "rscodeApart", fn := fun _ => fun
  | [d] => { results := [.lit (.bool false)], args := [d] }
  | _ => none }
def RscodeApartWrongFalsely : Prop := rscodeApartRow.holds Try.pinned (OpenSpec.ofChange rscodeApartWrong)

/-- 'awardingbodylaw18.RscodeDistances': WHATEVER THE INPUT: true; the input reads as it did. -/
def rscodeDistancesSpec : ChangeSpec := { name := "rscodeDistances", fn := fun _ => fun
  | [d1, d2] => { results := [.lit (.bool true)], args := [d1, d2] }
  | _ => none }
def rscodeDistancesRow : OpenClaim := { program := "ytpkhgapifnjbeaa", sum := "a318a87378b1feb0d4f5d9649b43450ec1a9de296616ea3ba4fe43785a32085a", func := "awardingbody/awardingbodylaw18.RscodeDistances", spec := "rscodeDistances", unfollowed := true, recurses := true, apart := false }
def RscodeDistancesSaid : Prop := rscodeDistancesRow.holds Try.pinned (OpenSpec.ofChange rscodeDistancesSpec)

/-- ITS FALSE NEIGHBOUR: 'it returns false'. Refute it at one input. -/
def rscodeDistancesWrong : ChangeSpec := { name := "rscodeDistances", fn := fun _ => fun
  | [d1, d2] => { results := [.lit (.bool false)], args := [d1, d2] }
  | _ => none }
def RscodeDistancesWrongFalsely : Prop := rscodeDistancesRow.holds Try.pinned (OpenSpec.ofChange rscodeDistancesWrong)

/- THE SECOND FORM. 'bulk': how many values and letters a reading holds, each counted each time it is reached (what is shared counts as often as it is met; a slice's spare places count too). A statement '..UptoSaid' is the law's where the arguments, and the package variables that the reading takes, are together of bulk at most 1048576: NARROWER than '..Said'. Prove '..Said' where nothing that the law and all that it calls make is longer than what came in: it says more and counts as full. Else prove '..UptoSaid'. A law counts once. -/
mutual
def uptoBulk {H : Type} : DataW H → Nat
  | .lit (.string bytes) => bytes.length + 1
  | .lit _ => 1
  | .nil => 1
  | .ptr d => uptoBulk d + 1
  | .slice elems spare => uptoBulkAll elems + uptoBulkAll spare + 1
  | .agg parts => uptoBulkAll parts + 1
  | .iface _ d => uptoBulk d + 1
  | .map entries => uptoBulkEntries entries + 1
  | .held _ => 1
def uptoBulkAll {H : Type} : List (DataW H) → Nat
  | [] => 0
  | d :: r => uptoBulk d + uptoBulkAll r
def uptoBulkEntries {H : Type} : List (Lit × DataW H) → Nat
  | [] => 0
  | x :: r => uptoBulkEntry x + uptoBulkEntries r
def uptoBulkEntry {H : Type} : Lit × DataW H → Nat
  | (.string bytes, d) => bytes.length + uptoBulk d + 1
  | (_, d) => uptoBulk d + 1
 end
def uptoSmall : (H : Type) → List (DataW H) → Bool := fun _ ds => decide (uptoBulkAll ds ≤ 1048576)
def OpenSpec.upto (s : _root_.Go.ChangeSpec) : _root_.Go.OpenSpec := { _root_.Go.OpenSpec.ofChange s with cond := some uptoSmall }

/-- 'awardingbodylaw18.RscodeMultiplies', WHERE WHAT IT READS IS OF BULK AT MOST 1048576: true; the input reads as it did. -/
def rscodeMultipliesUptoRow : OpenClaim := { program := "ytpkhgapifnjbeaa", sum := "a318a87378b1feb0d4f5d9649b43450ec1a9de296616ea3ba4fe43785a32085a", func := "awardingbody/awardingbodylaw18.RscodeMultiplies", spec := "rscodeMultiplies", unfollowed := true, recurses := true, apart := false, narrowed := true }
def RscodeMultipliesUptoSaid : Prop := rscodeMultipliesUptoRow.holds Try.pinned (OpenSpec.upto rscodeMultipliesSpec)

/-- 'awardingbodylaw18.RscodePowers', WHERE WHAT IT READS IS OF BULK AT MOST 1048576: true; the input reads as it did. -/
def rscodePowersUptoRow : OpenClaim := { program := "ytpkhgapifnjbeaa", sum := "a318a87378b1feb0d4f5d9649b43450ec1a9de296616ea3ba4fe43785a32085a", func := "awardingbody/awardingbodylaw18.RscodePowers", spec := "rscodePowers", unfollowed := true, recurses := true, apart := false, narrowed := true }
def RscodePowersUptoSaid : Prop := rscodePowersUptoRow.holds Try.pinned (OpenSpec.upto rscodePowersSpec)

/-- 'awardingbodylaw18.RscodeField', WHERE WHAT IT READS IS OF BULK AT MOST 1048576: true; the input reads as it did. -/
def rscodeFieldUptoRow : OpenClaim := { program := "ytpkhgapifnjbeaa", sum := "a318a87378b1feb0d4f5d9649b43450ec1a9de296616ea3ba4fe43785a32085a", func := "awardingbody/awardingbodylaw18.RscodeField", spec := "rscodeField", unfollowed := true, recurses := true, apart := false, narrowed := true }
def RscodeFieldUptoSaid : Prop := rscodeFieldUptoRow.holds Try.pinned (OpenSpec.upto rscodeFieldSpec)

/-- 'awardingbodylaw18.RscodeEncodes', WHERE WHAT IT READS IS OF BULK AT MOST 1048576: true; the input reads as it did. -/
def rscodeEncodesUptoRow : OpenClaim := { program := "ytpkhgapifnjbeaa", sum := "a318a87378b1feb0d4f5d9649b43450ec1a9de296616ea3ba4fe43785a32085a", func := "awardingbody/awardingbodylaw18.RscodeEncodes", spec := "rscodeEncodes", unfollowed := true, recurses := true, apart := false, narrowed := true }
def RscodeEncodesUptoSaid : Prop := rscodeEncodesUptoRow.holds Try.pinned (OpenSpec.upto rscodeEncodesSpec)

/-- 'awardingbodylaw18.RscodeCodewords', WHERE WHAT IT READS IS OF BULK AT MOST 1048576: true; the input reads as it did. -/
def rscodeCodewordsUptoRow : OpenClaim := { program := "ytpkhgapifnjbeaa", sum := "a318a87378b1feb0d4f5d9649b43450ec1a9de296616ea3ba4fe43785a32085a", func := "awardingbody/awardingbodylaw18.RscodeCodewords", spec := "rscodeCodewords", unfollowed := true, recurses := true, apart := false, narrowed := true }
def RscodeCodewordsUptoSaid : Prop := rscodeCodewordsUptoRow.holds Try.pinned (OpenSpec.upto rscodeCodewordsSpec)

/-- 'awardingbodylaw18.RscodeDecodes', WHERE WHAT IT READS IS OF BULK AT MOST 1048576: true; the input reads as it did. -/
def rscodeDecodesUptoRow : OpenClaim := { program := "ytpkhgapifnjbeaa", sum := "a318a87378b1feb0d4f5d9649b43450ec1a9de296616ea3ba4fe43785a32085a", func := "awardingbody/awardingbodylaw18.RscodeDecodes", spec := "rscodeDecodes", unfollowed := true, recurses := true, apart := false, narrowed := true }
def RscodeDecodesUptoSaid : Prop := rscodeDecodesUptoRow.holds Try.pinned (OpenSpec.upto rscodeDecodesSpec)

/-- 'awardingbodylaw18.RscodeCorrects', WHERE WHAT IT READS IS OF BULK AT MOST 1048576: true; the input reads as it did. -/
def rscodeCorrectsUptoRow : OpenClaim := { program := "ytpkhgapifnjbeaa", sum := "a318a87378b1feb0d4f5d9649b43450ec1a9de296616ea3ba4fe43785a32085a", func := "awardingbody/awardingbodylaw18.RscodeCorrects", spec := "rscodeCorrects", unfollowed := true, recurses := true, apart := false, narrowed := true }
def RscodeCorrectsUptoSaid : Prop := rscodeCorrectsUptoRow.holds Try.pinned (OpenSpec.upto rscodeCorrectsSpec)

/-- 'awardingbodylaw18.RscodeNear', WHERE WHAT IT READS IS OF BULK AT MOST 1048576: true; the input reads as it did. -/
def rscodeNearUptoRow : OpenClaim := { program := "ytpkhgapifnjbeaa", sum := "a318a87378b1feb0d4f5d9649b43450ec1a9de296616ea3ba4fe43785a32085a", func := "awardingbody/awardingbodylaw18.RscodeNear", spec := "rscodeNear", unfollowed := true, recurses := true, apart := false, narrowed := true }
def RscodeNearUptoSaid : Prop := rscodeNearUptoRow.holds Try.pinned (OpenSpec.upto rscodeNearSpec)

/-- 'awardingbodylaw18.RscodeLinear', WHERE WHAT IT READS IS OF BULK AT MOST 1048576: true; the input reads as it did. -/
def rscodeLinearUptoRow : OpenClaim := { program := "ytpkhgapifnjbeaa", sum := "a318a87378b1feb0d4f5d9649b43450ec1a9de296616ea3ba4fe43785a32085a", func := "awardingbody/awardingbodylaw18.RscodeLinear", spec := "rscodeLinear", unfollowed := true, recurses := true, apart := false, narrowed := true }
def RscodeLinearUptoSaid : Prop := rscodeLinearUptoRow.holds Try.pinned (OpenSpec.upto rscodeLinearSpec)

/-- 'awardingbodylaw18.RscodeApart', WHERE WHAT IT READS IS OF BULK AT MOST 1048576: true; the input reads as it did. -/
def rscodeApartUptoRow : OpenClaim := { program := "ytpkhgapifnjbeaa", sum := "a318a87378b1feb0d4f5d9649b43450ec1a9de296616ea3ba4fe43785a32085a", func := "awardingbody/awardingbodylaw18.RscodeApart", spec := "rscodeApart", unfollowed := true, recurses := true, apart := false, narrowed := true }
def RscodeApartUptoSaid : Prop := rscodeApartUptoRow.holds Try.pinned (OpenSpec.upto rscodeApartSpec)

/-- 'awardingbodylaw18.RscodeDistances', WHERE WHAT IT READS IS OF BULK AT MOST 1048576: true; the input reads as it did. -/
def rscodeDistancesUptoRow : OpenClaim := { program := "ytpkhgapifnjbeaa", sum := "a318a87378b1feb0d4f5d9649b43450ec1a9de296616ea3ba4fe43785a32085a", func := "awardingbody/awardingbodylaw18.RscodeDistances", spec := "rscodeDistances", unfollowed := true, recurses := true, apart := false, narrowed := true }
def RscodeDistancesUptoSaid : Prop := rscodeDistancesUptoRow.holds Try.pinned (OpenSpec.upto rscodeDistancesSpec)

end Rows
end Go.Proofs.Ytpkhgapifnjbeaa
