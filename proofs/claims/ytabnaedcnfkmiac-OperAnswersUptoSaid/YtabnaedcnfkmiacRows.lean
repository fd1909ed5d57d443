/-
  No cell of these rows narrows 'for every input' (looked for: loops, veiled, ifaces, maps, wideKeys, modest, calm, conditions, laid).
  DERIVED. THE GIVEN ROWS OF THIS SEAT. 12 by the template 'for every input the law returns true; each argument reads behind the call as it read before'; 0 by the template 'total and deterministic' (their statements: YtabnaedcnfkmiacTotals.lean).
  GIVEN WITH THE SEED: the statements are not yours to turn. If you find one false, say at which input.
  Laid BY PROGRAM, IN A SANDBOX (cutbox-rows.mjs): the forced cells as the released guide's own fill.sh prints them over the translation d8267b0f4149b4f3… (all of the seat's roots in one cut). By AI agents, Wed Nov 11 2026. No macro, syntax, notation, axiom, sorry.
-/
import Derived.Test.YtabnaedcnfkmiacChecked
import GoSem.Claim
import GoSem.ClaimJoined
import GoSem.ClaimMapViews
import Derived.JoinedTies
import Derived.KernelRfl
namespace Go.Proofs.Ytabnaedcnfkmiac
/- THE CELL 'sum', in the pinned program and in every row, IS THE sha256 OF THE DUMP (.gsa) THAT YtabnaedcnfkmiacProg.lean LOADS. Nothing in Lean hashes anything: it is a label: what it is worth is what the hold of that sum in a sandbox is worth. -/
noncomputable def Try.pinned : Pinned := { name := "ytabnaedcnfkmiac", sum := "d8267b0f4149b4f335034337b86f5b95998641bf75bb96846c8cc091d9bc7924", checked := Try.checked }
namespace Rows
def none {H : Type} : Left H := { results := [], args := [] }

/-- 'interregnumlaw11.FeasReasons': WHATEVER THE INPUT: true; the input reads as it did. -/
def feasReasonsSpec : ChangeSpec := { name := "feasReasons", fn := fun _ => fun
  | [d1, d2, d3] => { results := [.lit (.bool true)], args := [d1, d2, d3] }
  | _ => none }
def feasReasonsRow : OpenClaim := { program := "ytabnaedcnfkmiac", sum := "d8267b0f4149b4f335034337b86f5b95998641bf75bb96846c8cc091d9bc7924", func := "interregnum/interregnumlaw11.FeasReasons", spec := "feasReasons", inPlace := ["internal/bytealg.IndexByteString", "internal/bytealg.IndexString"], unfollowed := true, recurses := true, named := ["internal/bytealg.MaxLen"], apart := false }
def FeasReasonsSaid : Prop := feasReasonsRow.holds Try.pinned (OpenSpec.ofChange feasReasonsSpec)

/-- ITS FALSE NEIGHBOUR: 'it returns false'. Refute it at one input. -/
def feasReasonsWrong : ChangeSpec := { name := "feasReasons", fn := fun _ => fun
  | [d1, d2, d3] => { results := [.lit (.bool false)], args := [d1, d2, d3] }
  | _ => none }
def FeasReasonsWrongFalsely : Prop := feasReasonsRow.holds Try.pinned (OpenSpec.ofChange feasReasonsWrong)

/-- 'interregnumlaw06.OperRights': WHATEVER THE INPUT: true; the input reads as it did. -/
def operRightsSpec : ChangeSpec := { name := "operRights", fn := fun _ => fun
  | [d] => { results := [.lit (.bool true)], args := [d] }
  | _ => none }
def operRightsRow : OpenClaim := { program := "ytabnaedcnfkmiac", sum := "d8267b0f4149b4f335034337b86f5b95998641bf75bb96846c8cc091d9bc7924", func := "interregnum/interregnumlaw06.OperRights", spec := "operRights", inPlace := ["internal/bytealg.IndexByteString", "internal/bytealg.IndexString"], unfollowed := true, recurses := true, named := ["internal/bytealg.MaxLen"], apart := false }
def OperRightsSaid : Prop := operRightsRow.holds Try.pinned (OpenSpec.ofChange operRightsSpec)

/-- ITS FALSE NEIGHBOUR: 'it returns false'. Refute it at one input. -/
def operRightsWrong : ChangeSpec := { name := "operRights", fn := fun _ => fun
  | [d] => { results := [.lit (.bool false)], args := [d] }
  | _ => none }
def OperRightsWrongFalsely : Prop := operRightsRow.holds Try.pinned (OpenSpec.ofChange operRightsWrong)

/-- 'interregnumlaw06.OperAnswers': WHATEVER THE INPUT: true; the input reads as it did. -/
def operAnswersSpec : ChangeSpec := { name := "operAnswers", fn := fun _ => fun
  | [d1, d2, d3] => { results := [.lit (.bool true)], args := [d1, d2, d3] }
  | _ => none }
def operAnswersRow : OpenClaim := { program := "ytabnaedcnfkmiac", sum := "d8267b0f4149b4f335034337b86f5b95998641bf75bb96846c8cc091d9bc7924", func := "interregnum/interregnumlaw06.OperAnswers", spec := "operAnswers", inPlace := ["internal/bytealg.IndexByteString", "internal/bytealg.IndexString"], unfollowed := true, recurses := true, named := ["internal/bytealg.MaxLen"], apart := false }
def OperAnswersSaid : Prop := operAnswersRow.holds Try.pinned (OpenSpec.ofChange operAnswersSpec)

/-- ITS FALSE NEIGHBOUR: 'it returns false'. Refute it at one input. -/
def operAnswersWrong : ChangeSpec := { name := "operAnswers", fn := fun _ => fun
  | [d1, d2, d3] => { results := [.lit (.bool false)], args := [d1, d2, d3] }
  | _ => none }
def OperAnswersWrongFalsely : Prop := operAnswersRow.holds Try.pinned (OpenSpec.ofChange operAnswersWrong)

/-- 'interregnumlaw05.ModelTakes': WHATEVER THE INPUT: true; the input reads as it did. -/
def modelTakesSpec : ChangeSpec := { name := "modelTakes", fn := fun _ => fun
  | [d1, d2] => { results := [.lit (.bool true)], args := [d1, d2] }
  | _ => none }
def modelTakesRow : OpenClaim := { program := "ytabnaedcnfkmiac", sum := "d8267b0f4149b4f335034337b86f5b95998641bf75bb96846c8cc091d9bc7924", func := "interregnum/interregnumlaw05.ModelTakes", spec := "modelTakes", inPlace := ["internal/bytealg.IndexByteString", "internal/bytealg.IndexString"], unfollowed := true, recurses := true, named := ["internal/bytealg.MaxLen"], apart := false }
def ModelTakesSaid : Prop := modelTakesRow.holds Try.pinned (OpenSpec.ofChange modelTakesSpec)

/-- ITS FALSE NEIGHBOUR: 'it returns false'. Refute it at one input. -/
def modelTakesWrong : ChangeSpec := { name := "modelTakes", fn := fun _ => fun
  | [d1, d2] => { results := [.lit (.bool false)], args := [d1, d2] }
  | _ => none }
def ModelTakesWrongFalsely : Prop := modelTakesRow.holds Try.pinned (OpenSpec.ofChange modelTakesWrong)

/-- 'interregnumlaw05.ModelBack': WHATEVER THE INPUT: true; the input reads as it did. -/
def modelBackSpec : ChangeSpec := { name := "modelBack", fn := fun _ => fun
  | [d1, d2, d3, d4, d5, d6] => { results := [.lit (.bool true)], args := [d1, d2, d3, d4, d5, d6] }
  | _ => none }
def modelBackRow : OpenClaim := { program := "ytabnaedcnfkmiac", sum := "d8267b0f4149b4f335034337b86f5b95998641bf75bb96846c8cc091d9bc7924", func := "interregnum/interregnumlaw05.ModelBack", spec := "modelBack", inPlace := ["internal/bytealg.IndexByteString", "internal/bytealg.IndexString"], unfollowed := true, recurses := true, named := ["internal/bytealg.MaxLen"], apart := false }
def ModelBackSaid : Prop := modelBackRow.holds Try.pinned (OpenSpec.ofChange modelBackSpec)

/-- ITS FALSE NEIGHBOUR: 'it returns false'. Refute it at one input. -/
def modelBackWrong : ChangeSpec := { name := "modelBack", fn := fun _ => fun
  | [d1, d2, d3, d4, d5, d6] => { results := [.lit (.bool false)], args := [d1, d2, d3, d4, d5, d6] }
  | _ => none }
def ModelBackWrongFalsely : Prop := modelBackRow.holds Try.pinned (OpenSpec.ofChange modelBackWrong)

/-- 'interregnumlaw05.ModelOne': WHATEVER THE INPUT: true; the input reads as it did. -/
def modelOneSpec : ChangeSpec := { name := "modelOne", fn := fun _ => fun
  | [d1, d2] => { results := [.lit (.bool true)], args := [d1, d2] }
  | _ => none }
def modelOneRow : OpenClaim := { program := "ytabnaedcnfkmiac", sum := "d8267b0f4149b4f335034337b86f5b95998641bf75bb96846c8cc091d9bc7924", func := "interregnum/interregnumlaw05.ModelOne", spec := "modelOne", inPlace := ["internal/bytealg.IndexByteString", "internal/bytealg.IndexString"], unfollowed := true, recurses := true, named := ["internal/bytealg.MaxLen"], apart := false }
def ModelOneSaid : Prop := modelOneRow.holds Try.pinned (OpenSpec.ofChange modelOneSpec)

/-- ITS FALSE NEIGHBOUR: 'it returns false'. Refute it at one input. -/
def modelOneWrong : ChangeSpec := { name := "modelOne", fn := fun _ => fun
  | [d1, d2] => { results := [.lit (.bool false)], args := [d1, d2] }
  | _ => none }
def ModelOneWrongFalsely : Prop := modelOneRow.holds Try.pinned (OpenSpec.ofChange modelOneWrong)

/-- 'interregnumlaw19.WheelPlays': WHATEVER THE INPUT: true; the input reads as it did. -/
def wheelPlaysSpec : ChangeSpec := { name := "wheelPlays", fn := fun _ => fun
  | [d1, d2] => { results := [.lit (.bool true)], args := [d1, d2] }
  | _ => none }
def wheelPlaysRow : OpenClaim := { program := "ytabnaedcnfkmiac", sum := "d8267b0f4149b4f335034337b86f5b95998641bf75bb96846c8cc091d9bc7924", func := "interregnum/interregnumlaw19.WheelPlays", spec := "wheelPlays", recurses := true, apart := false }
def WheelPlaysSaid : Prop := wheelPlaysRow.holds Try.pinned (OpenSpec.ofChange wheelPlaysSpec)

/-- ITS FALSE NEIGHBOUR: 'it returns false'. Refute it at one input. -/
def wheelPlaysWrong : ChangeSpec := { name := "wheelPlays", fn := fun _ => fun
  | [d1, d2] => { results := [.lit (.bool false)], args := [d1, d2] }
  | _ => none }
def WheelPlaysWrongFalsely : Prop := wheelPlaysRow.holds Try.pinned (OpenSpec.ofChange wheelPlaysWrong)

/-- 'interregnumlaw19.WheelParts': WHATEVER THE INPUT: true; the input reads as it did. -/
def wheelPartsSpec : ChangeSpec := { name := "wheelParts", fn := fun _ => fun
  | [d1, d2, d3] => { results := [.lit (.bool true)], args := [d1, d2, d3] }
  | _ => none }
def wheelPartsRow : OpenClaim := { program := "ytabnaedcnfkmiac", sum := "d8267b0f4149b4f335034337b86f5b95998641bf75bb96846c8cc091d9bc7924", func := "interregnum/interregnumlaw19.WheelParts", spec := "wheelParts", recurses := true, apart := false }
def WheelPartsSaid : Prop := wheelPartsRow.holds Try.pinned (OpenSpec.ofChange wheelPartsSpec)

/-- ITS FALSE NEIGHBOUR: 'it returns false'. Refute it at one input. -/
def wheelPartsWrong : ChangeSpec := { name := "wheelParts", fn := fun _ => fun
  | [d1, d2, d3] => { results := [.lit (.bool false)], args := [d1, d2, d3] }
  | _ => none }
def WheelPartsWrongFalsely : Prop := wheelPartsRow.holds Try.pinned (OpenSpec.ofChange wheelPartsWrong)

/-- 'interregnumlaw19.WheelSets': WHATEVER THE INPUT: true; the input reads as it did. -/
def wheelSetsSpec : ChangeSpec := { name := "wheelSets", fn := fun _ => fun
  | [d1, d2, d3, d4] => { results := [.lit (.bool true)], args := [d1, d2, d3, d4] }
  | _ => none }
def wheelSetsRow : OpenClaim := { program := "ytabnaedcnfkmiac", sum := "d8267b0f4149b4f335034337b86f5b95998641bf75bb96846c8cc091d9bc7924", func := "interregnum/interregnumlaw19.WheelSets", spec := "wheelSets", recurses := true, apart := false }
def WheelSetsSaid : Prop := wheelSetsRow.holds Try.pinned (OpenSpec.ofChange wheelSetsSpec)

/-- ITS FALSE NEIGHBOUR: 'it returns false'. Refute it at one input. -/
def wheelSetsWrong : ChangeSpec := { name := "wheelSets", fn := fun _ => fun
  | [d1, d2, d3, d4] => { results := [.lit (.bool false)], args := [d1, d2, d3, d4] }
  | _ => none }
def WheelSetsWrongFalsely : Prop := wheelSetsRow.holds Try.pinned (OpenSpec.ofChange wheelSetsWrong)

/-- 'interregnumlaw19.WheelNil': WHATEVER THE INPUT: true; the input reads as it did. -/
def wheelNilSpec : ChangeSpec := { name := "wheelNil", fn := fun _ => fun
  | [d] => { results := [.lit (.bool true)], args := [d] }
  | _ => none }
def wheelNilRow : OpenClaim := { program := "ytabnaedcnfkmiac", sum := "d8267b0f4149b4f335034337b86f5b95998641bf75bb96846c8cc091d9bc7924", func := "interregnum/interregnumlaw19.WheelNil", spec := "wheelNil", recurses := true, apart := false }
def WheelNilSaid : Prop := wheelNilRow.holds Try.pinned (OpenSpec.ofChange wheelNilSpec)

/-- ITS FALSE NEIGHBOUR: 'it returns false'. Refute it at one input. -/
def wheelNilWrong : ChangeSpec := { name := "wheelNil", fn := fun _ => fun
  | [d] => { results := [.lit (.bool false)], args := [d] }
  | _ => none }
def WheelNilWrongFalsely : Prop := wheelNilRow.holds Try.pinned (OpenSpec.ofChange wheelNilWrong)

/-- 'interregnumlaw17.BucketPlays': WHATEVER THE INPUT: true; the input reads as it did. -/
def bucketPlaysSpec : ChangeSpec := { name := "bucketPlays", fn := fun _ => fun
  | [d1, d2] => { results := [.lit (.bool true)], args := [d1, d2] }
  | _ => none }
def bucketPlaysRow : OpenClaim := { program := "ytabnaedcnfkmiac", sum := "d8267b0f4149b4f335034337b86f5b95998641bf75bb96846c8cc091d9bc7924", func := "interregnum/interregnumlaw17.BucketPlays", spec := "bucketPlays", recurses := true, apart := false }
def BucketPlaysSaid : Prop := bucketPlaysRow.holds Try.pinned (OpenSpec.ofChange bucketPlaysSpec)

/-- ITS FALSE NEIGHBOUR: 'it returns false'. Refute it at one input. -/
def bucketPlaysWrong : ChangeSpec := { name := "bucketPlays", fn := fun _ => fun
  | [d1, d2] => { results := [.lit (.bool false)], args := [d1, d2] }
  | _ => none }
def BucketPlaysWrongFalsely : Prop := bucketPlaysRow.holds Try.pinned (OpenSpec.ofChange bucketPlaysWrong)

/-- 'interregnumlaw17.BucketOrder': WHATEVER THE INPUT: true; the input reads as it did. -/
def bucketOrderSpec : ChangeSpec := { name := "bucketOrder", fn := fun _ => fun
  | [d1, d2] => { results := [.lit (.bool true)], args := [d1, d2] }
  | _ => none }
def bucketOrderRow : OpenClaim := { program := "ytabnaedcnfkmiac", sum := "d8267b0f4149b4f335034337b86f5b95998641bf75bb96846c8cc091d9bc7924", func := "interregnum/interregnumlaw17.BucketOrder", spec := "bucketOrder", recurses := true, apart := false }
def BucketOrderSaid : Prop := bucketOrderRow.holds Try.pinned (OpenSpec.ofChange bucketOrderSpec)

/-- ITS FALSE NEIGHBOUR: 'it returns false'. Refute it at one input. -/
def bucketOrderWrong : ChangeSpec := { name := "bucketOrder", fn := fun _ => fun
  | [d1, d2] => { results := [.lit (.bool false)], args := [d1, d2] }
  | _ => none }
def BucketOrderWrongFalsely : Prop := bucketOrderRow.holds Try.pinned (OpenSpec.ofChange bucketOrderWrong)

/- THE SECOND FORM. 'bulk': how many values and letters a reading holds, each counted each time it is reached (what is shared counts as often as it is met; a slice's spare places count too). A statement '..UptoSaid' is the law's where the arguments, and the package variables that the reading takes, are together of bulk at most 1048576: NARROWER than '..Said'. Prove '..Said' where nothing that the law and all that it calls make is longer than what came in: it says more and counts as full. Else prove '..UptoSaid'. A law counts once. -/
mutual
def uptoBulk {H : Type} : DataW H → Nat
  | .lit (.string bytes) => bytes.length + 1
  | .lit _ => 1
  | .nil => 1
  | .ptr d => uptoBulk d + 1
  | .slice elems spare => uptoBulkAll elems + uptoBulkAll spare + 1
  | .agg parts => uptoBulkAll parts + 1
  | .iface _ d => uptoBulk d + 1
  | .map entries => uptoBulkEntries entries + 1
  | .held _ => 1
def uptoBulkAll {H : Type} : List (DataW H) → Nat
  | [] => 0
  | d :: r => uptoBulk d + uptoBulkAll r
def uptoBulkEntries {H : Type} : List (Lit × DataW H) → Nat
  | [] => 0
  | x :: r => uptoBulkEntry x + uptoBulkEntries r
def uptoBulkEntry {H : Type} : Lit × DataW H → Nat
  | (.string bytes, d) => bytes.length + uptoBulk d + 1
  | (_, d) => uptoBulk d + 1
 end
def uptoSmall : (H : Type) → List (DataW H) → Bool := fun _ ds => decide (uptoBulkAll ds ≤ 1048576)
def OpenSpec.upto (s : _root_.Go.ChangeSpec) : _root_.Go.OpenSpec := { _root_.Go.OpenSpec.ofChange s with cond := some uptoSmall }

/-- 'interregnumlaw11.FeasReasons', WHERE WHAT IT READS IS OF BULK AT MOST 1048576: true; the input reads as it did. -/
def feasReasonsUptoRow : OpenClaim := { program := "ytabnaedcnfkmiac", sum := "d8267b0f4149b4f335034337b86f5b95998641bf75bb96846c8cc091d9bc7924", func := "interregnum/interregnumlaw11.FeasReasons", spec := "feasReasons", inPlace := ["internal/bytealg.IndexByteString", "internal/bytealg.IndexString"], unfollowed := true, recurses := true, named := ["internal/bytealg.MaxLen"], apart := false, narrowed := true }
def FeasReasonsUptoSaid : Prop := feasReasonsUptoRow.holds Try.pinned (OpenSpec.upto feasReasonsSpec)

/-- 'interregnumlaw06.OperRights', WHERE WHAT IT READS IS OF BULK AT MOST 1048576: true; the input reads as it did. -/
def operRightsUptoRow : OpenClaim := { program := "ytabnaedcnfkmiac", sum := "d8267b0f4149b4f335034337b86f5b95998641bf75bb96846c8cc091d9bc7924", func := "interregnum/interregnumlaw06.OperRights", spec := "operRights", inPlace := ["internal/bytealg.IndexByteString", "internal/bytealg.IndexString"], unfollowed := true, recurses := true, named := ["internal/bytealg.MaxLen"], apart := false, narrowed := true }
def OperRightsUptoSaid : Prop := operRightsUptoRow.holds Try.pinned (OpenSpec.upto operRightsSpec)

/-- 'interregnumlaw06.OperAnswers', WHERE WHAT IT READS IS OF BULK AT MOST 1048576: true; the input reads as it did. -/
def operAnswersUptoRow : OpenClaim := { program := "ytabnaedcnfkmiac", sum := "d8267b0f4149b4f335034337b86f5b95998641bf75bb96846c8cc091d9bc7924", func := "interregnum/interregnumlaw06.OperAnswers", spec := "operAnswers", inPlace := ["internal/bytealg.IndexByteString", "internal/bytealg.IndexString"], unfollowed := true, recurses := true, named := ["internal/bytealg.MaxLen"], apart := false, narrowed := true }
def OperAnswersUptoSaid : Prop := operAnswersUptoRow.holds Try.pinned (OpenSpec.upto operAnswersSpec)

/-- 'interregnumlaw05.ModelTakes', WHERE WHAT IT READS IS OF BULK AT MOST 1048576: true; the input reads as it did. -/
def modelTakesUptoRow : OpenClaim := { program := "ytabnaedcnfkmiac", sum := "d8267b0f4149b4f335034337b86f5b95998641bf75bb96846c8cc091d9bc7924", func := "interregnum/interregnumlaw05.ModelTakes", spec := "modelTakes", inPlace := ["internal/bytealg.IndexByteString", "internal/bytealg.IndexString"], unfollowed := true, recurses := true, named := ["internal/bytealg.MaxLen"], apart := false, narrowed := true }
def ModelTakesUptoSaid : Prop := modelTakesUptoRow.holds Try.pinned (OpenSpec.upto modelTakesSpec)

/-- 'interregnumlaw05.ModelBack', WHERE WHAT IT READS IS OF BULK AT MOST 1048576: true; the input reads as it did. -/
def modelBackUptoRow : OpenClaim := { program := "ytabnaedcnfkmiac", sum := "d8267b0f4149b4f335034337b86f5b95998641bf75bb96846c8cc091d9bc7924", func := "interregnum/interregnumlaw05.ModelBack", spec := "modelBack", inPlace := ["internal/bytealg.IndexByteString", "internal/bytealg.IndexString"], unfollowed := true, recurses := true, named := ["internal/bytealg.MaxLen"], apart := false, narrowed := true }
def ModelBackUptoSaid : Prop := modelBackUptoRow.holds Try.pinned (OpenSpec.upto modelBackSpec)

/-- 'interregnumlaw05.ModelOne', WHERE WHAT IT READS IS OF BULK AT MOST 1048576: true; the input reads as it did. -/
def modelOneUptoRow : OpenClaim := { program := "ytabnaedcnfkmiac", sum := "d8267b0f4149b4f335034337b86f5b95998641bf75bb96846c8cc091d9bc7924", func := "interregnum/interregnumlaw05.ModelOne", spec := "modelOne", inPlace := ["internal/bytealg.IndexByteString", "internal/bytealg.IndexString"], unfollowed := true, recurses := true, named := ["internal/bytealg.MaxLen"], apart := false, narrowed := true }
def ModelOneUptoSaid : Prop := modelOneUptoRow.holds Try.pinned (OpenSpec.upto modelOneSpec)

/-- 'interregnumlaw19.WheelPlays', WHERE WHAT IT READS IS OF BULK AT MOST 1048576: true; the input reads as it did. -/
def wheelPlaysUptoRow : OpenClaim := { program := "ytabnaedcnfkmiac", sum := "d8267b0f4149b4f335034337b86f5b95998641bf75bb96846c8cc091d9bc7924", func := "interregnum/interregnumlaw19.WheelPlays", spec := "wheelPlays", recurses := true, apart := false, narrowed := true }
def WheelPlaysUptoSaid : Prop := wheelPlaysUptoRow.holds Try.pinned (OpenSpec.upto wheelPlaysSpec)

/-- 'interregnumlaw19.WheelParts', WHERE WHAT IT READS IS OF BULK AT MOST 1048576: true; the input reads as it did. -/
def wheelPartsUptoRow : OpenClaim := { program := "ytabnaedcnfkmiac", sum := "d8267b0f4149b4f335034337b86f5b95998641bf75bb96846c8cc091d9bc7924", func := "interregnum/interregnumlaw19.WheelParts", spec := "wheelParts", recurses := true, apart := false, narrowed := true }
def WheelPartsUptoSaid : Prop := wheelPartsUptoRow.holds Try.pinned (OpenSpec.upto wheelPartsSpec)

/-- 'interregnumlaw19.WheelSets', WHERE WHAT IT READS IS OF BULK AT MOST 1048576: true; the input reads as it did. -/
def wheelSetsUptoRow : OpenClaim := { program := "ytabnaedcnfkmiac", sum := "d8267b0f4149b4f335034337b86f5b95998641bf75bb96846c8cc091d9bc7924", func := "interregnum/interregnumlaw19.WheelSets", spec := "wheelSets", recurses := true, apart := false, narrowed := true }
def WheelSetsUptoSaid : Prop := wheelSetsUptoRow.holds Try.pinned (OpenSpec.upto wheelSetsSpec)

/-- 'interregnumlaw19.WheelNil', WHERE WHAT IT READS IS OF BULK AT MOST 1048576: true; the input reads as it did. -/
def wheelNilUptoRow : OpenClaim := { program := "ytabnaedcnfkmiac", sum := "d8267b0f4149b4f335034337b86f5b95998641bf75bb96846c8cc091d9bc7924", func := "interregnum/interregnumlaw19.WheelNil", spec := "wheelNil", recurses := true, apart := false, narrowed := true }
def WheelNilUptoSaid : Prop := wheelNilUptoRow.holds Try.pinned (OpenSpec.upto wheelNilSpec)

/-- 'interregnumlaw17.BucketPlays', WHERE WHAT IT READS IS OF BULK AT MOST 1048576: true; the input reads as it did. -/
def bucketPlaysUptoRow : OpenClaim := { program := "ytabnaedcnfkmiac", sum := "d8267b0f4149b4f335034337b86f5b95998641bf75bb96846c8cc091d9bc7924", func := "interregnum/interregnumlaw17.BucketPlays", spec := "bucketPlays", recurses := true, apart := false, narrowed := true }
def BucketPlaysUptoSaid : Prop := bucketPlaysUptoRow.holds Try.pinned (OpenSpec.upto bucketPlaysSpec)

/-- 'interregnumlaw17.BucketOrder', WHERE WHAT IT READS IS OF BULK AT MOST 1048576: true; the input reads as it did. -/
def bucketOrderUptoRow : OpenClaim := { program := "ytabnaedcnfkmiac", sum := "d8267b0f4149b4f335034337b86f5b95998641bf75bb96846c8cc091d9bc7924", func := "interregnum/interregnumlaw17.BucketOrder", spec := "bucketOrder", recurses := true, apart := false, narrowed := true }
def BucketOrderUptoSaid : Prop := bucketOrderUptoRow.holds Try.pinned (OpenSpec.upto bucketOrderSpec)

end Rows
end Go.Proofs.Ytabnaedcnfkmiac
