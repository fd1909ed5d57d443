/-
  No cell of these rows narrows 'for every input' (looked for: loops, veiled, ifaces, maps, wideKeys, modest, calm, conditions, laid).
  DERIVED. THE GIVEN ROWS OF THIS SEAT. 12 by the template 'for every input the law returns true; each argument reads behind the call as it read before'; 0 by the template 'total and deterministic' (their statements: YtabnaedcnfkmiadTotals.lean).
  GIVEN WITH THE SEED: the statements are not yours to turn. If you find one false, say at which input.
  Laid BY PROGRAM, IN A SANDBOX (cutbox-rows.mjs): the forced cells as the released guide's own fill.sh prints them over the translation 480cef0877d498a7… (all of the seat's roots in one cut). By AI agents, Wed Nov 11 2026. No macro, syntax, notation, axiom, sorry.
-/
import Derived.Test.YtabnaedcnfkmiadChecked
import GoSem.Claim
import GoSem.ClaimJoined
import GoSem.ClaimMapViews
import Derived.JoinedTies
import Derived.KernelRfl
namespace Go.Proofs.Ytabnaedcnfkmiad
/- THE CELL 'sum', in the pinned program and in every row, IS THE sha256 OF THE DUMP (.gsa) THAT YtabnaedcnfkmiadProg.lean LOADS. Nothing in Lean hashes anything: it is a label: what it is worth is what the hold of that sum in a sandbox is worth. -/
noncomputable def Try.pinned : Pinned := { name := "ytabnaedcnfkmiad", sum := "480cef0877d498a7a33b50f963abe4bac32952303f353fd7e92390ab0b5205a5", checked := Try.checked }
namespace Rows
def none {H : Type} : Left H := { results := [], args := [] }

/-- 'interregnumlaw17.BucketMore': WHATEVER THE INPUT: true; the input reads as it did. -/
def bucketMoreSpec : ChangeSpec := { name := "bucketMore", fn := fun _ => fun
  | [d1, d2, d3] => { results := [.lit (.bool true)], args := [d1, d2, d3] }
  | _ => none }
def bucketMoreRow : OpenClaim := { program := "ytabnaedcnfkmiad", sum := "480cef0877d498a7a33b50f963abe4bac32952303f353fd7e92390ab0b5205a5", func := "interregnum/interregnumlaw17.BucketMore", spec := "bucketMore", recurses := true, plainKeys := false, apart := false }
def BucketMoreSaid : Prop := bucketMoreRow.holds Try.pinned (OpenSpec.ofChange bucketMoreSpec)

/-- ITS FALSE NEIGHBOUR: 'it returns false'. Refute it at one input. -/
def bucketMoreWrong : ChangeSpec := { name := "bucketMore", fn := fun _ => fun
  | [d1, d2, d3] => { results := [.lit (.bool false)], args := [d1, d2, d3] }
  | _ => none }
def BucketMoreWrongFalsely : Prop := bucketMoreRow.holds Try.pinned (OpenSpec.ofChange bucketMoreWrong)

/-- 'interregnumlaw17.BucketNil': WHATEVER THE INPUT: true; the input reads as it did. -/
def bucketNilSpec : ChangeSpec := { name := "bucketNil", fn := fun _ => fun
  | [d] => { results := [.lit (.bool true)], args := [d] }
  | _ => none }
def bucketNilRow : OpenClaim := { program := "ytabnaedcnfkmiad", sum := "480cef0877d498a7a33b50f963abe4bac32952303f353fd7e92390ab0b5205a5", func := "interregnum/interregnumlaw17.BucketNil", spec := "bucketNil", recurses := true, plainKeys := false, apart := false }
def BucketNilSaid : Prop := bucketNilRow.holds Try.pinned (OpenSpec.ofChange bucketNilSpec)

/-- ITS FALSE NEIGHBOUR: 'it returns false'. Refute it at one input. -/
def bucketNilWrong : ChangeSpec := { name := "bucketNil", fn := fun _ => fun
  | [d] => { results := [.lit (.bool false)], args := [d] }
  | _ => none }
def BucketNilWrongFalsely : Prop := bucketNilRow.holds Try.pinned (OpenSpec.ofChange bucketNilWrong)

/-- 'interregnumlaw24.AgentOrders': WHATEVER THE INPUT: true; the input reads as it did. -/
def agentOrdersSpec : ChangeSpec := { name := "agentOrders", fn := fun _ => fun
  | [d1, d2, d3, d4, d5] => { results := [.lit (.bool true)], args := [d1, d2, d3, d4, d5] }
  | _ => none }
def agentOrdersRow : OpenClaim := { program := "ytabnaedcnfkmiad", sum := "480cef0877d498a7a33b50f963abe4bac32952303f353fd7e92390ab0b5205a5", func := "interregnum/interregnumlaw24.AgentOrders", spec := "agentOrders", inPlace := ["internal/bytealg.IndexByteString", "internal/bytealg.IndexString"], unfollowed := true, recurses := true, named := ["internal/bytealg.MaxLen"], plainKeys := false, apart := false }
def AgentOrdersSaid : Prop := agentOrdersRow.holds Try.pinned (OpenSpec.ofChange agentOrdersSpec)

/-- ITS FALSE NEIGHBOUR: 'it returns false'. Refute it at one input. -/
def agentOrdersWrong : ChangeSpec := { name := "agentOrders", fn := fun _ => fun
  | [d1, d2, d3, d4, d5] => { results := [.lit (.bool false)], args := [d1, d2, d3, d4, d5] }
  | _ => none }
def AgentOrdersWrongFalsely : Prop := agentOrdersRow.holds Try.pinned (OpenSpec.ofChange agentOrdersWrong)

/-- 'interregnumlaw24.AgentFits': WHATEVER THE INPUT: true; the input reads as it did. -/
def agentFitsSpec : ChangeSpec := { name := "agentFits", fn := fun _ => fun
  | [d1, d2, d3] => { results := [.lit (.bool true)], args := [d1, d2, d3] }
  | _ => none }
def agentFitsRow : OpenClaim := { program := "ytabnaedcnfkmiad", sum := "480cef0877d498a7a33b50f963abe4bac32952303f353fd7e92390ab0b5205a5", func := "interregnum/interregnumlaw24.AgentFits", spec := "agentFits", inPlace := ["internal/bytealg.IndexByteString", "internal/bytealg.IndexString"], unfollowed := true, recurses := true, named := ["internal/bytealg.MaxLen"], plainKeys := false, apart := false }
def AgentFitsSaid : Prop := agentFitsRow.holds Try.pinned (OpenSpec.ofChange agentFitsSpec)

/-- ITS FALSE NEIGHBOUR: 'it returns false'. Refute it at one input. -/
def agentFitsWrong : ChangeSpec := { name := "agentFits", fn := fun _ => fun
  | [d1, d2, d3] => { results := [.lit (.bool false)], args := [d1, d2, d3] }
  | _ => none }
def AgentFitsWrongFalsely : Prop := agentFitsRow.holds Try.pinned (OpenSpec.ofChange agentFitsWrong)

/-- 'interregnumlaw18.LabelsPlays': WHATEVER THE INPUT: true; the input reads as it did. -/
def labelsPlaysSpec : ChangeSpec := { name := "labelsPlays", fn := fun _ => fun
  | [d1, d2] => { results := [.lit (.bool true)], args := [d1, d2] }
  | _ => none }
def labelsPlaysRow : OpenClaim := { program := "ytabnaedcnfkmiad", sum := "480cef0877d498a7a33b50f963abe4bac32952303f353fd7e92390ab0b5205a5", func := "interregnum/interregnumlaw18.LabelsPlays", spec := "labelsPlays", unfollowed := true, recurses := true, plainKeys := false, apart := false }
def LabelsPlaysSaid : Prop := labelsPlaysRow.holds Try.pinned (OpenSpec.ofChange labelsPlaysSpec)

/-- ITS FALSE NEIGHBOUR: 'it returns false'. Refute it at one input. -/
def labelsPlaysWrong : ChangeSpec := { name := "labelsPlays", fn := fun _ => fun
  | [d1, d2] => { results := [.lit (.bool false)], args := [d1, d2] }
  | _ => none }
def LabelsPlaysWrongFalsely : Prop := labelsPlaysRow.holds Try.pinned (OpenSpec.ofChange labelsPlaysWrong)

/-- 'interregnumlaw18.LabelsBoth': WHATEVER THE INPUT: true; the input reads as it did. -/
def labelsBothSpec : ChangeSpec := { name := "labelsBoth", fn := fun _ => fun
  | [d1, d2, d3] => { results := [.lit (.bool true)], args := [d1, d2, d3] }
  | _ => none }
def labelsBothRow : OpenClaim := { program := "ytabnaedcnfkmiad", sum := "480cef0877d498a7a33b50f963abe4bac32952303f353fd7e92390ab0b5205a5", func := "interregnum/interregnumlaw18.LabelsBoth", spec := "labelsBoth", unfollowed := true, recurses := true, plainKeys := false, apart := false }
def LabelsBothSaid : Prop := labelsBothRow.holds Try.pinned (OpenSpec.ofChange labelsBothSpec)

/-- ITS FALSE NEIGHBOUR: 'it returns false'. Refute it at one input. -/
def labelsBothWrong : ChangeSpec := { name := "labelsBoth", fn := fun _ => fun
  | [d1, d2, d3] => { results := [.lit (.bool false)], args := [d1, d2, d3] }
  | _ => none }
def LabelsBothWrongFalsely : Prop := labelsBothRow.holds Try.pinned (OpenSpec.ofChange labelsBothWrong)

/-- 'interregnumlaw18.LabelsKeeps': WHATEVER THE INPUT: true; the input reads as it did. -/
def labelsKeepsSpec : ChangeSpec := { name := "labelsKeeps", fn := fun _ => fun
  | [d1, d2] => { results := [.lit (.bool true)], args := [d1, d2] }
  | _ => none }
def labelsKeepsRow : OpenClaim := { program := "ytabnaedcnfkmiad", sum := "480cef0877d498a7a33b50f963abe4bac32952303f353fd7e92390ab0b5205a5", func := "interregnum/interregnumlaw18.LabelsKeeps", spec := "labelsKeeps", unfollowed := true, recurses := true, plainKeys := false, apart := false }
def LabelsKeepsSaid : Prop := labelsKeepsRow.holds Try.pinned (OpenSpec.ofChange labelsKeepsSpec)

/-- ITS FALSE NEIGHBOUR: 'it returns false'. Refute it at one input. -/
def labelsKeepsWrong : ChangeSpec := { name := "labelsKeeps", fn := fun _ => fun
  | [d1, d2] => { results := [.lit (.bool false)], args := [d1, d2] }
  | _ => none }
def LabelsKeepsWrongFalsely : Prop := labelsKeepsRow.holds Try.pinned (OpenSpec.ofChange labelsKeepsWrong)

/-- 'interregnumlaw18.LabelsNil': WHATEVER THE INPUT: true; the input reads as it did. -/
def labelsNilSpec : ChangeSpec := { name := "labelsNil", fn := fun _ => fun
  | [d] => { results := [.lit (.bool true)], args := [d] }
  | _ => none }
def labelsNilRow : OpenClaim := { program := "ytabnaedcnfkmiad", sum := "480cef0877d498a7a33b50f963abe4bac32952303f353fd7e92390ab0b5205a5", func := "interregnum/interregnumlaw18.LabelsNil", spec := "labelsNil", unfollowed := true, recurses := true, plainKeys := false, apart := false }
def LabelsNilSaid : Prop := labelsNilRow.holds Try.pinned (OpenSpec.ofChange labelsNilSpec)

/-- ITS FALSE NEIGHBOUR: 'it returns false'. Refute it at one input. -/
def labelsNilWrong : ChangeSpec := { name := "labelsNil", fn := fun _ => fun
  | [d] => { results := [.lit (.bool false)], args := [d] }
  | _ => none }
def LabelsNilWrongFalsely : Prop := labelsNilRow.holds Try.pinned (OpenSpec.ofChange labelsNilWrong)

/-- 'interregnumlaw06.OperDecodes': WHATEVER THE INPUT: true; the input reads as it did. -/
def operDecodesSpec : ChangeSpec := { name := "operDecodes", fn := fun _ => fun
  | [d] => { results := [.lit (.bool true)], args := [d] }
  | _ => none }
def operDecodesRow : OpenClaim := { program := "ytabnaedcnfkmiad", sum := "480cef0877d498a7a33b50f963abe4bac32952303f353fd7e92390ab0b5205a5", func := "interregnum/interregnumlaw06.OperDecodes", spec := "operDecodes", inPlace := ["internal/bytealg.IndexByteString", "internal/bytealg.IndexString"], unfollowed := true, recurses := true, named := ["internal/bytealg.MaxLen"], plainKeys := false, apart := false }
def OperDecodesSaid : Prop := operDecodesRow.holds Try.pinned (OpenSpec.ofChange operDecodesSpec)

/-- ITS FALSE NEIGHBOUR: 'it returns false'. Refute it at one input. -/
def operDecodesWrong : ChangeSpec := { name := "operDecodes", fn := fun _ => fun
  | [d] => { results := [.lit (.bool false)], args := [d] }
  | _ => none }
def OperDecodesWrongFalsely : Prop := operDecodesRow.holds Try.pinned (OpenSpec.ofChange operDecodesWrong)

/-- 'interregnumlaw06.OperBack': WHATEVER THE INPUT: true; the input reads as it did. -/
def operBackSpec : ChangeSpec := { name := "operBack", fn := fun _ => fun
  | [d1, d2, d3] => { results := [.lit (.bool true)], args := [d1, d2, d3] }
  | _ => none }
def operBackRow : OpenClaim := { program := "ytabnaedcnfkmiad", sum := "480cef0877d498a7a33b50f963abe4bac32952303f353fd7e92390ab0b5205a5", func := "interregnum/interregnumlaw06.OperBack", spec := "operBack", inPlace := ["internal/bytealg.IndexByteString", "internal/bytealg.IndexString"], unfollowed := true, recurses := true, named := ["internal/bytealg.MaxLen"], plainKeys := false, apart := false }
def OperBackSaid : Prop := operBackRow.holds Try.pinned (OpenSpec.ofChange operBackSpec)

/-- ITS FALSE NEIGHBOUR: 'it returns false'. Refute it at one input. -/
def operBackWrong : ChangeSpec := { name := "operBack", fn := fun _ => fun
  | [d1, d2, d3] => { results := [.lit (.bool false)], args := [d1, d2, d3] }
  | _ => none }
def OperBackWrongFalsely : Prop := operBackRow.holds Try.pinned (OpenSpec.ofChange operBackWrong)

/-- 'interregnumlaw06.OperOne': WHATEVER THE INPUT: true; the input reads as it did. -/
def operOneSpec : ChangeSpec := { name := "operOne", fn := fun _ => fun
  | [d] => { results := [.lit (.bool true)], args := [d] }
  | _ => none }
def operOneRow : OpenClaim := { program := "ytabnaedcnfkmiad", sum := "480cef0877d498a7a33b50f963abe4bac32952303f353fd7e92390ab0b5205a5", func := "interregnum/interregnumlaw06.OperOne", spec := "operOne", inPlace := ["internal/bytealg.IndexByteString", "internal/bytealg.IndexString"], unfollowed := true, recurses := true, named := ["internal/bytealg.MaxLen"], plainKeys := false, apart := false }
def OperOneSaid : Prop := operOneRow.holds Try.pinned (OpenSpec.ofChange operOneSpec)

/-- ITS FALSE NEIGHBOUR: 'it returns false'. Refute it at one input. -/
def operOneWrong : ChangeSpec := { name := "operOne", fn := fun _ => fun
  | [d] => { results := [.lit (.bool false)], args := [d] }
  | _ => none }
def OperOneWrongFalsely : Prop := operOneRow.holds Try.pinned (OpenSpec.ofChange operOneWrong)

/-- 'interregnumlaw13.VictimRoom': WHATEVER THE INPUT: true; the input reads as it did. -/
def victimRoomSpec : ChangeSpec := { name := "victimRoom", fn := fun _ => fun
  | [d1, d2, d3] => { results := [.lit (.bool true)], args := [d1, d2, d3] }
  | _ => none }
def victimRoomRow : OpenClaim := { program := "ytabnaedcnfkmiad", sum := "480cef0877d498a7a33b50f963abe4bac32952303f353fd7e92390ab0b5205a5", func := "interregnum/interregnumlaw13.VictimRoom", spec := "victimRoom", inPlace := ["internal/bytealg.IndexByteString", "internal/bytealg.IndexString"], unfollowed := true, recurses := true, named := ["internal/bytealg.MaxLen"], plainKeys := false, apart := false }
def VictimRoomSaid : Prop := victimRoomRow.holds Try.pinned (OpenSpec.ofChange victimRoomSpec)

/-- ITS FALSE NEIGHBOUR: 'it returns false'. Refute it at one input. -/
def victimRoomWrong : ChangeSpec := { name := "victimRoom", fn := fun _ => fun
  | [d1, d2, d3] => { results := [.lit (.bool false)], args := [d1, d2, d3] }
  | _ => none }
def VictimRoomWrongFalsely : Prop := victimRoomRow.holds Try.pinned (OpenSpec.ofChange victimRoomWrong)

/- THE SECOND FORM. 'bulk': how many values and letters a reading holds, each counted each time it is reached (what is shared counts as often as it is met; a slice's spare places count too). A statement '..UptoSaid' is the law's where the arguments, and the package variables that the reading takes, are together of bulk at most 1048576: NARROWER than '..Said'. Prove '..Said' where nothing that the law and all that it calls make is longer than what came in: it says more and counts as full. Else prove '..UptoSaid'. A law counts once. -/
mutual
def uptoBulk {H : Type} : DataW H → Nat
  | .lit (.string bytes) => bytes.length + 1
  | .lit _ => 1
  | .nil => 1
  | .ptr d => uptoBulk d + 1
  | .slice elems spare => uptoBulkAll elems + uptoBulkAll spare + 1
  | .agg parts => uptoBulkAll parts + 1
  | .iface _ d => uptoBulk d + 1
  | .map entries => uptoBulkEntries entries + 1
  | .held _ => 1
def uptoBulkAll {H : Type} : List (DataW H) → Nat
  | [] => 0
  | d :: r => uptoBulk d + uptoBulkAll r
def uptoBulkEntries {H : Type} : List (Lit × DataW H) → Nat
  | [] => 0
  | x :: r => uptoBulkEntry x + uptoBulkEntries r
def uptoBulkEntry {H : Type} : Lit × DataW H → Nat
  | (.string bytes, d) => bytes.length + uptoBulk d + 1
  | (_, d) => uptoBulk d + 1
 end
def uptoSmall : (H : Type) → List (DataW H) → Bool := fun _ ds => decide (uptoBulkAll ds ≤ 1048576)
def OpenSpec.upto (s : _root_.Go.ChangeSpec) : _root_.Go.OpenSpec := { _root_.Go.OpenSpec.ofChange s with cond := some uptoSmall }

/-- 'interregnumlaw17.BucketMore', WHERE WHAT IT READS IS OF BULK AT MOST 1048576: true; the input reads as it did. -/
def bucketMoreUptoRow : OpenClaim := { program := "ytabnaedcnfkmiad", sum := "480cef0877d498a7a33b50f963abe4bac32952303f353fd7e92390ab0b5205a5", func := "interregnum/interregnumlaw17.BucketMore", spec := "bucketMore", recurses := true, plainKeys := false, apart := false, narrowed := true }
def BucketMoreUptoSaid : Prop := bucketMoreUptoRow.holds Try.pinned (OpenSpec.upto bucketMoreSpec)

/-- 'interregnumlaw17.BucketNil', WHERE WHAT IT READS IS OF BULK AT MOST 1048576: true; the input reads as it did. -/
def bucketNilUptoRow : OpenClaim := { program := "ytabnaedcnfkmiad", sum := "480cef0877d498a7a33b50f963abe4bac32952303f353fd7e92390ab0b5205a5", func := "interregnum/interregnumlaw17.BucketNil", spec := "bucketNil", recurses := true, plainKeys := false, apart := false, narrowed := true }
def BucketNilUptoSaid : Prop := bucketNilUptoRow.holds Try.pinned (OpenSpec.upto bucketNilSpec)

/-- 'interregnumlaw24.AgentOrders', WHERE WHAT IT READS IS OF BULK AT MOST 1048576: true; the input reads as it did. -/
def agentOrdersUptoRow : OpenClaim := { program := "ytabnaedcnfkmiad", sum := "480cef0877d498a7a33b50f963abe4bac32952303f353fd7e92390ab0b5205a5", func := "interregnum/interregnumlaw24.AgentOrders", spec := "agentOrders", inPlace := ["internal/bytealg.IndexByteString", "internal/bytealg.IndexString"], unfollowed := true, recurses := true, named := ["internal/bytealg.MaxLen"], plainKeys := false, apart := false, narrowed := true }
def AgentOrdersUptoSaid : Prop := agentOrdersUptoRow.holds Try.pinned (OpenSpec.upto agentOrdersSpec)

/-- 'interregnumlaw24.AgentFits', WHERE WHAT IT READS IS OF BULK AT MOST 1048576: true; the input reads as it did. -/
def agentFitsUptoRow : OpenClaim := { program := "ytabnaedcnfkmiad", sum := "480cef0877d498a7a33b50f963abe4bac32952303f353fd7e92390ab0b5205a5", func := "interregnum/interregnumlaw24.AgentFits", spec := "agentFits", inPlace := ["internal/bytealg.IndexByteString", "internal/bytealg.IndexString"], unfollowed := true, recurses := true, named := ["internal/bytealg.MaxLen"], plainKeys := false, apart := false, narrowed := true }
def AgentFitsUptoSaid : Prop := agentFitsUptoRow.holds Try.pinned (OpenSpec.upto agentFitsSpec)

/-- 'interregnumlaw18.LabelsPlays', WHERE WHAT IT READS IS OF BULK AT MOST 1048576: true; the input reads as it did. -/
def labelsPlaysUptoRow : OpenClaim := { program := "ytabnaedcnfkmiad", sum := "480cef0877d498a7a33b50f963abe4bac32952303f353fd7e92390ab0b5205a5", func := "interregnum/interregnumlaw18.LabelsPlays", spec := "labelsPlays", unfollowed := true, recurses := true, plainKeys := false, apart := false, narrowed := true }
def LabelsPlaysUptoSaid : Prop := labelsPlaysUptoRow.holds Try.pinned (OpenSpec.upto labelsPlaysSpec)

/-- 'interregnumlaw18.LabelsBoth', WHERE WHAT IT READS IS OF BULK AT MOST 1048576: true; the input reads as it did. -/
def labelsBothUptoRow : OpenClaim := { program := "ytabnaedcnfkmiad", sum := "480cef0877d498a7a33b50f963abe4bac32952303f353fd7e92390ab0b5205a5", func := "interregnum/interregnumlaw18.LabelsBoth", spec := "labelsBoth", unfollowed := true, recurses := true, plainKeys := false, apart := false, narrowed := true }
def LabelsBothUptoSaid : Prop := labelsBothUptoRow.holds Try.pinned (OpenSpec.upto labelsBothSpec)

/-- 'interregnumlaw18.LabelsKeeps', WHERE WHAT IT READS IS OF BULK AT MOST 1048576: true; the input reads as it did. -/
def labelsKeepsUptoRow : OpenClaim := { program := "ytabnaedcnfkmiad", sum := "480cef0877d498a7a33b50f963abe4bac32952303f353fd7e92390ab0b5205a5", func := "interregnum/interregnumlaw18.LabelsKeeps", spec := "labelsKeeps", unfollowed := true, recurses := true, plainKeys := false, apart := false, narrowed := true }
def LabelsKeepsUptoSaid : Prop := labelsKeepsUptoRow.holds Try.pinned (OpenSpec.upto labelsKeepsSpec)

/-- 'interregnumlaw18.LabelsNil', WHERE WHAT IT READS IS OF BULK AT MOST 1048576: true; the input reads as it did. -/
def labelsNilUptoRow : OpenClaim := { program := "ytabnaedcnfkmiad", sum := "480cef0877d498a7a33b50f963abe4bac32952303f353fd7e92390ab0b5205a5", func := "interregnum/interregnumlaw18.LabelsNil", spec := "labelsNil", unfollowed := true, recurses := true, plainKeys := false, apart := false, narrowed := true }
def LabelsNilUptoSaid : Prop := labelsNilUptoRow.holds Try.pinned (OpenSpec.upto labelsNilSpec)

/-- 'interregnumlaw06.OperDecodes', WHERE WHAT IT READS IS OF BULK AT MOST 1048576: true; the input reads as it did. -/
def operDecodesUptoRow : OpenClaim := { program := "ytabnaedcnfkmiad", sum := "480cef0877d498a7a33b50f963abe4bac32952303f353fd7e92390ab0b5205a5", func := "interregnum/interregnumlaw06.OperDecodes", spec := "operDecodes", inPlace := ["internal/bytealg.IndexByteString", "internal/bytealg.IndexString"], unfollowed := true, recurses := true, named := ["internal/bytealg.MaxLen"], plainKeys := false, apart := false, narrowed := true }
def OperDecodesUptoSaid : Prop := operDecodesUptoRow.holds Try.pinned (OpenSpec.upto operDecodesSpec)

/-- 'interregnumlaw06.OperBack', WHERE WHAT IT READS IS OF BULK AT MOST 1048576: true; the input reads as it did. -/
def operBackUptoRow : OpenClaim := { program := "ytabnaedcnfkmiad", sum := "480cef0877d498a7a33b50f963abe4bac32952303f353fd7e92390ab0b5205a5", func := "interregnum/interregnumlaw06.OperBack", spec := "operBack", inPlace := ["internal/bytealg.IndexByteString", "internal/bytealg.IndexString"], unfollowed := true, recurses := true, named := ["internal/bytealg.MaxLen"], plainKeys := false, apart := false, narrowed := true }
def OperBackUptoSaid : Prop := operBackUptoRow.holds Try.pinned (OpenSpec.upto operBackSpec)

/-- 'interregnumlaw06.OperOne', WHERE WHAT IT READS IS OF BULK AT MOST 1048576: true; the input reads as it did. -/
def operOneUptoRow : OpenClaim := { program := "ytabnaedcnfkmiad", sum := "480cef0877d498a7a33b50f963abe4bac32952303f353fd7e92390ab0b5205a5", func := "interregnum/interregnumlaw06.OperOne", spec := "operOne", inPlace := ["internal/bytealg.IndexByteString", "internal/bytealg.IndexString"], unfollowed := true, recurses := true, named := ["internal/bytealg.MaxLen"], plainKeys := false, apart := false, narrowed := true }
def OperOneUptoSaid : Prop := operOneUptoRow.holds Try.pinned (OpenSpec.upto operOneSpec)

/-- 'interregnumlaw13.VictimRoom', WHERE WHAT IT READS IS OF BULK AT MOST 1048576: true; the input reads as it did. -/
def victimRoomUptoRow : OpenClaim := { program := "ytabnaedcnfkmiad", sum := "480cef0877d498a7a33b50f963abe4bac32952303f353fd7e92390ab0b5205a5", func := "interregnum/interregnumlaw13.VictimRoom", spec := "victimRoom", inPlace := ["internal/bytealg.IndexByteString", "internal/bytealg.IndexString"], unfollowed := true, recurses := true, named := ["internal/bytealg.MaxLen"], plainKeys := false, apart := false, narrowed := true }
def VictimRoomUptoSaid : Prop := victimRoomUptoRow.holds Try.pinned (OpenSpec.upto victimRoomSpec)

end Rows
end Go.Proofs.Ytabnaedcnfkmiad
