/-
  No cell of these rows narrows 'for every input' (looked for: loops, veiled, ifaces, maps, wideKeys, modest, calm, conditions, laid).
  DERIVED. THE GIVEN ROWS OF THIS SEAT. 4 by the template 'for every input the law returns true; each argument reads behind the call as it read before'; 0 by the template 'total and deterministic' (their statements: YtcmjinkfgbadoabTotals.lean).
  GIVEN WITH THE SEED: the statements are not yours to turn. If you find one false, say at which input.
  Laid BY PROGRAM, IN A SANDBOX (cutbox-rows.mjs): the forced cells as the released guide's own fill.sh prints them over the translation 9a57c0dc409c674c… (all of the seat's roots in one cut). By AI agents, Wed Nov 11 2026. No macro, syntax, notation, axiom, sorry.
-/
import Derived.Test.YtcmjinkfgbadoabChecked
import GoSem.Claim
import GoSem.ClaimJoined
import GoSem.ClaimMapViews
import Derived.JoinedTies
import Derived.KernelRfl
namespace Go.Proofs.Ytcmjinkfgbadoab
/- THE CELL 'sum', in the pinned program and in every row, IS THE sha256 OF THE DUMP (.gsa) THAT YtcmjinkfgbadoabProg.lean LOADS. Nothing in Lean hashes anything: it is a label: what it is worth is what the hold of that sum in a sandbox is worth. -/
noncomputable def Try.pinned : Pinned := { name := "ytcmjinkfgbadoab", sum := "9a57c0dc409c674c30b8077110b61f02d8929779ce33200eb5a65773664d8635", checked := Try.checked }
namespace Rows
def none {H : Type} : Left H := { results := [], args := [] }

/-- 'interregnumlaw18.LabelsPlays': WHATEVER THE INPUT: true; the input reads as it did. -/
def labelsPlaysSpec : ChangeSpec := { name := "labelsPlays", fn := fun _ => fun
  | [d1, d2] => { results := [.lit (.bool true)], args := [d1, d2] }
  | _ => none }
def labelsPlaysRow : OpenClaim := { program := "ytcmjinkfgbadoab", sum := "9a57c0dc409c674c30b8077110b61f02d8929779ce33200eb5a65773664d8635", func := "interregnum/interregnumlaw18.LabelsPlays", spec := "labelsPlays", unfollowed := true, recurses := true, plainKeys := false, apart := false }
def LabelsPlaysSaid : Prop := labelsPlaysRow.holds Try.pinned (OpenSpec.ofChange labelsPlaysSpec)

/-- ITS FALSE NEIGHBOUR: 'it returns false'. Refute it at one input. -/
def labelsPlaysWrong : ChangeSpec := { name := "labelsPlays", fn := fun _ => fun
  | [d1, d2] => { results := [.lit (.bool false)], args := [d1, d2] }
  | _ => none }
def LabelsPlaysWrongFalsely : Prop := labelsPlaysRow.holds Try.pinned (OpenSpec.ofChange labelsPlaysWrong)

/-- 'interregnumlaw18.LabelsBoth': WHATEVER THE INPUT: true; the input reads as it did. -/
def labelsBothSpec : ChangeSpec := { name := "labelsBoth", fn := fun _ => fun
  | [d1, d2, d3] => { results := [.lit (.bool true)], args := [d1, d2, d3] }
  | _ => none }
def labelsBothRow : OpenClaim := { program := "ytcmjinkfgbadoab", sum := "9a57c0dc409c674c30b8077110b61f02d8929779ce33200eb5a65773664d8635", func := "interregnum/interregnumlaw18.LabelsBoth", spec := "labelsBoth", unfollowed := true, recurses := true, plainKeys := false, apart := false }
def LabelsBothSaid : Prop := labelsBothRow.holds Try.pinned (OpenSpec.ofChange labelsBothSpec)

/-- ITS FALSE NEIGHBOUR: 'it returns false'. Refute it at one input. -/
def labelsBothWrong : ChangeSpec := { name := "labelsBoth", fn := fun _ => fun
  | [d1, d2, d3] => { results := [.lit (.bool false)], args := [d1, d2, d3] }
  | _ => none }
def LabelsBothWrongFalsely : Prop := labelsBothRow.holds Try.pinned (OpenSpec.ofChange labelsBothWrong)

/-- 'interregnumlaw18.LabelsKeeps': WHATEVER THE INPUT: true; the input reads as it did. -/
def labelsKeepsSpec : ChangeSpec := { name := "labelsKeeps", fn := fun _ => fun
  | [d1, d2] => { results := [.lit (.bool true)], args := [d1, d2] }
  | _ => none }
def labelsKeepsRow : OpenClaim := { program := "ytcmjinkfgbadoab", sum := "9a57c0dc409c674c30b8077110b61f02d8929779ce33200eb5a65773664d8635", func := "interregnum/interregnumlaw18.LabelsKeeps", spec := "labelsKeeps", unfollowed := true, recurses := true, plainKeys := false, apart := false }
def LabelsKeepsSaid : Prop := labelsKeepsRow.holds Try.pinned (OpenSpec.ofChange labelsKeepsSpec)

/-- ITS FALSE NEIGHBOUR: 'it returns false'. Refute it at one input. -/
def labelsKeepsWrong : ChangeSpec := { name := "labelsKeeps", fn := fun _ => fun
  | [d1, d2] => { results := [.lit (.bool false)], args := [d1, d2] }
  | _ => none }
def LabelsKeepsWrongFalsely : Prop := labelsKeepsRow.holds Try.pinned (OpenSpec.ofChange labelsKeepsWrong)

/-- 'interregnumlaw18.LabelsNil': WHATEVER THE INPUT: true; the input reads as it did. -/
def labelsNilSpec : ChangeSpec := { name := "labelsNil", fn := fun _ => fun
  | [d] => { results := [.lit (.bool true)], args := [d] }
  | _ => none }
def labelsNilRow : OpenClaim := { program := "ytcmjinkfgbadoab", sum := "9a57c0dc409c674c30b8077110b61f02d8929779ce33200eb5a65773664d8635", func := "interregnum/interregnumlaw18.LabelsNil", spec := "labelsNil", unfollowed := true, recurses := true, plainKeys := false, apart := false }
def LabelsNilSaid : Prop := labelsNilRow.holds Try.pinned (OpenSpec.ofChange labelsNilSpec)

/-- ITS FALSE NEIGHBOUR: 'it returns false'. Refute it at one input. -/
def labelsNilWrong : ChangeSpec := { name := "labelsNil", fn := fun _ => fun
  | [d] => { results := [.lit (.bool false)], args := [d] }
  | _ => none }
def LabelsNilWrongFalsely : Prop := labelsNilRow.holds Try.pinned (OpenSpec.ofChange labelsNilWrong)

/- THE SECOND FORM. 'bulk': how many values and letters a reading holds, each counted each time it is reached (what is shared counts as often as it is met; a slice's spare places count too). A statement '..UptoSaid' is the law's where the arguments, and the package variables that the reading takes, are together of bulk at most 1048576: NARROWER than '..Said'. Prove '..Said' where nothing that the law and all that it calls make is longer than what came in: it says more and counts as full. Else prove '..UptoSaid'. A law counts once. -/
mutual
def uptoBulk {H : Type} : DataW H → Nat
  | .lit (.string bytes) => bytes.length + 1
  | .lit _ => 1
  | .nil => 1
  | .ptr d => uptoBulk d + 1
  | .slice elems spare => uptoBulkAll elems + uptoBulkAll spare + 1
  | .agg parts => uptoBulkAll parts + 1
  | .iface _ d => uptoBulk d + 1
  | .map entries => uptoBulkEntries entries + 1
  | .held _ => 1
def uptoBulkAll {H : Type} : List (DataW H) → Nat
  | [] => 0
  | d :: r => uptoBulk d + uptoBulkAll r
def uptoBulkEntries {H : Type} : List (Lit × DataW H) → Nat
  | [] => 0
  | x :: r => uptoBulkEntry x + uptoBulkEntries r
def uptoBulkEntry {H : Type} : Lit × DataW H → Nat
  | (.string bytes, d) => bytes.length + uptoBulk d + 1
  | (_, d) => uptoBulk d + 1
 end
def uptoSmall : (H : Type) → List (DataW H) → Bool := fun _ ds => decide (uptoBulkAll ds ≤ 1048576)
def OpenSpec.upto (s : _root_.Go.ChangeSpec) : _root_.Go.OpenSpec := { _root_.Go.OpenSpec.ofChange s with cond := some uptoSmall }

/-- 'interregnumlaw18.LabelsPlays', WHERE WHAT IT READS IS OF BULK AT MOST 1048576: true; the input reads as it did. -/
def labelsPlaysUptoRow : OpenClaim := { program := "ytcmjinkfgbadoab", sum := "9a57c0dc409c674c30b8077110b61f02d8929779ce33200eb5a65773664d8635", func := "interregnum/interregnumlaw18.LabelsPlays", spec := "labelsPlays", unfollowed := true, recurses := true, plainKeys := false, apart := false, narrowed := true }
def LabelsPlaysUptoSaid : Prop := labelsPlaysUptoRow.holds Try.pinned (OpenSpec.upto labelsPlaysSpec)

/-- 'interregnumlaw18.LabelsBoth', WHERE WHAT IT READS IS OF BULK AT MOST 1048576: true; the input reads as it did. -/
def labelsBothUptoRow : OpenClaim := { program := "ytcmjinkfgbadoab", sum := "9a57c0dc409c674c30b8077110b61f02d8929779ce33200eb5a65773664d8635", func := "interregnum/interregnumlaw18.LabelsBoth", spec := "labelsBoth", unfollowed := true, recurses := true, plainKeys := false, apart := false, narrowed := true }
def LabelsBothUptoSaid : Prop := labelsBothUptoRow.holds Try.pinned (OpenSpec.upto labelsBothSpec)

/-- 'interregnumlaw18.LabelsKeeps', WHERE WHAT IT READS IS OF BULK AT MOST 1048576: true; the input reads as it did. -/
def labelsKeepsUptoRow : OpenClaim := { program := "ytcmjinkfgbadoab", sum := "9a57c0dc409c674c30b8077110b61f02d8929779ce33200eb5a65773664d8635", func := "interregnum/interregnumlaw18.LabelsKeeps", spec := "labelsKeeps", unfollowed := true, recurses := true, plainKeys := false, apart := false, narrowed := true }
def LabelsKeepsUptoSaid : Prop := labelsKeepsUptoRow.holds Try.pinned (OpenSpec.upto labelsKeepsSpec)

/-- 'interregnumlaw18.LabelsNil', WHERE WHAT IT READS IS OF BULK AT MOST 1048576: true; the input reads as it did. -/
def labelsNilUptoRow : OpenClaim := { program := "ytcmjinkfgbadoab", sum := "9a57c0dc409c674c30b8077110b61f02d8929779ce33200eb5a65773664d8635", func := "interregnum/interregnumlaw18.LabelsNil", spec := "labelsNil", unfollowed := true, recurses := true, plainKeys := false, apart := false, narrowed := true }
def LabelsNilUptoSaid : Prop := labelsNilUptoRow.holds Try.pinned (OpenSpec.upto labelsNilSpec)

end Rows
end Go.Proofs.Ytcmjinkfgbadoab
