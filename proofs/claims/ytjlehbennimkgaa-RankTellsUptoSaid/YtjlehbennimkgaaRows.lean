/-
  No cell of these rows narrows 'for every input' (looked for: loops, veiled, ifaces, maps, wideKeys, modest, calm, conditions, laid).
  DERIVED. THE GIVEN ROWS OF THIS SEAT. 9 by the template 'for every input the law returns true; each argument reads behind the call as it read before'; 0 by the template 'total and deterministic' (their statements: YtjlehbennimkgaaTotals.lean).
  GIVEN WITH THE SEED: the statements are not yours to turn. If you find one false, say at which input.
  Laid BY PROGRAM, IN A SANDBOX (cutbox-rows.mjs): the forced cells as the released guide's own fill.sh prints them over the translation f952a9512aed1fba… (all of the seat's roots in one cut). By AI agents, Wed Nov 11 2026. No macro, syntax, notation, axiom, sorry.
-/
import Derived.Test.YtjlehbennimkgaaChecked
import GoSem.Claim
import GoSem.ClaimJoined
import GoSem.ClaimMapViews
import Derived.JoinedTies
import Derived.KernelRfl
namespace Go.Proofs.Ytjlehbennimkgaa
/- THE CELL 'sum', in the pinned program and in every row, IS THE sha256 OF THE DUMP (.gsa) THAT YtjlehbennimkgaaProg.lean LOADS. Nothing in Lean hashes anything: it is a label: what it is worth is what the hold of that sum in a sandbox is worth. -/
noncomputable def Try.pinned : Pinned := { name := "ytjlehbennimkgaa", sum := "f952a9512aed1fbaaba1e8e0464a1c569e53bb535e6fad9b6196b1d658cad832", checked := Try.checked }
namespace Rows
def none {H : Type} : Left H := { results := [], args := [] }

/-- 'interregnumlaw04.IdentNames': WHATEVER THE INPUT: true; the input reads as it did. -/
def identNamesSpec : ChangeSpec := { name := "identNames", fn := fun _ => fun
  | [d1, d2] => { results := [.lit (.bool true)], args := [d1, d2] }
  | _ => none }
def identNamesRow : OpenClaim := { program := "ytjlehbennimkgaa", sum := "f952a9512aed1fbaaba1e8e0464a1c569e53bb535e6fad9b6196b1d658cad832", func := "interregnum/interregnumlaw04.IdentNames", spec := "identNames", inPlace := ["internal/bytealg.IndexByteString", "internal/bytealg.IndexString"], unfollowed := true, recurses := true, named := ["internal/bytealg.MaxLen"], apart := false }
def IdentNamesSaid : Prop := identNamesRow.holds Try.pinned (OpenSpec.ofChange identNamesSpec)

/-- ITS FALSE NEIGHBOUR: 'it returns false'. Refute it at one input. -/
def identNamesWrong : ChangeSpec := { name := "identNames", fn := fun _ => fun
  | [d1, d2] => { results := [.lit (.bool false)], args := [d1, d2] }
  | _ => none }
def IdentNamesWrongFalsely : Prop := identNamesRow.holds Try.pinned (OpenSpec.ofChange identNamesWrong)

/-- 'interregnumlaw04.IdentBuilds': WHATEVER THE INPUT: true; the input reads as it did. -/
def identBuildsSpec : ChangeSpec := { name := "identBuilds", fn := fun _ => fun
  | [d1, d2] => { results := [.lit (.bool true)], args := [d1, d2] }
  | _ => none }
def identBuildsRow : OpenClaim := { program := "ytjlehbennimkgaa", sum := "f952a9512aed1fbaaba1e8e0464a1c569e53bb535e6fad9b6196b1d658cad832", func := "interregnum/interregnumlaw04.IdentBuilds", spec := "identBuilds", inPlace := ["internal/bytealg.IndexByteString", "internal/bytealg.IndexString"], unfollowed := true, recurses := true, named := ["internal/bytealg.MaxLen"], apart := false }
def IdentBuildsSaid : Prop := identBuildsRow.holds Try.pinned (OpenSpec.ofChange identBuildsSpec)

/-- ITS FALSE NEIGHBOUR: 'it returns false'. Refute it at one input. -/
def identBuildsWrong : ChangeSpec := { name := "identBuilds", fn := fun _ => fun
  | [d1, d2] => { results := [.lit (.bool false)], args := [d1, d2] }
  | _ => none }
def IdentBuildsWrongFalsely : Prop := identBuildsRow.holds Try.pinned (OpenSpec.ofChange identBuildsWrong)

/-- 'interregnumlaw04.IdentKeeps': WHATEVER THE INPUT: true; the input reads as it did. -/
def identKeepsSpec : ChangeSpec := { name := "identKeeps", fn := fun _ => fun
  | [d] => { results := [.lit (.bool true)], args := [d] }
  | _ => none }
def identKeepsRow : OpenClaim := { program := "ytjlehbennimkgaa", sum := "f952a9512aed1fbaaba1e8e0464a1c569e53bb535e6fad9b6196b1d658cad832", func := "interregnum/interregnumlaw04.IdentKeeps", spec := "identKeeps", inPlace := ["internal/bytealg.IndexByteString", "internal/bytealg.IndexString"], unfollowed := true, recurses := true, named := ["internal/bytealg.MaxLen"], apart := false }
def IdentKeepsSaid : Prop := identKeepsRow.holds Try.pinned (OpenSpec.ofChange identKeepsSpec)

/-- ITS FALSE NEIGHBOUR: 'it returns false'. Refute it at one input. -/
def identKeepsWrong : ChangeSpec := { name := "identKeeps", fn := fun _ => fun
  | [d] => { results := [.lit (.bool false)], args := [d] }
  | _ => none }
def IdentKeepsWrongFalsely : Prop := identKeepsRow.holds Try.pinned (OpenSpec.ofChange identKeepsWrong)

/-- 'interregnumlaw04.IdentSorted': WHATEVER THE INPUT: true; the input reads as it did. -/
def identSortedSpec : ChangeSpec := { name := "identSorted", fn := fun _ => fun
  | [d] => { results := [.lit (.bool true)], args := [d] }
  | _ => none }
def identSortedRow : OpenClaim := { program := "ytjlehbennimkgaa", sum := "f952a9512aed1fbaaba1e8e0464a1c569e53bb535e6fad9b6196b1d658cad832", func := "interregnum/interregnumlaw04.IdentSorted", spec := "identSorted", inPlace := ["internal/bytealg.IndexByteString", "internal/bytealg.IndexString"], unfollowed := true, recurses := true, named := ["internal/bytealg.MaxLen"], apart := false }
def IdentSortedSaid : Prop := identSortedRow.holds Try.pinned (OpenSpec.ofChange identSortedSpec)

/-- ITS FALSE NEIGHBOUR: 'it returns false'. Refute it at one input. -/
def identSortedWrong : ChangeSpec := { name := "identSorted", fn := fun _ => fun
  | [d] => { results := [.lit (.bool false)], args := [d] }
  | _ => none }
def IdentSortedWrongFalsely : Prop := identSortedRow.holds Try.pinned (OpenSpec.ofChange identSortedWrong)

/-- 'interregnumlaw04.IdentLabels': WHATEVER THE INPUT: true; the input reads as it did. -/
def identLabelsSpec : ChangeSpec := { name := "identLabels", fn := fun _ => fun
  | [d1, d2, d3] => { results := [.lit (.bool true)], args := [d1, d2, d3] }
  | _ => none }
def identLabelsRow : OpenClaim := { program := "ytjlehbennimkgaa", sum := "f952a9512aed1fbaaba1e8e0464a1c569e53bb535e6fad9b6196b1d658cad832", func := "interregnum/interregnumlaw04.IdentLabels", spec := "identLabels", inPlace := ["internal/bytealg.IndexByteString", "internal/bytealg.IndexString"], unfollowed := true, recurses := true, named := ["internal/bytealg.MaxLen"], apart := false }
def IdentLabelsSaid : Prop := identLabelsRow.holds Try.pinned (OpenSpec.ofChange identLabelsSpec)

/-- ITS FALSE NEIGHBOUR: 'it returns false'. Refute it at one input. -/
def identLabelsWrong : ChangeSpec := { name := "identLabels", fn := fun _ => fun
  | [d1, d2, d3] => { results := [.lit (.bool false)], args := [d1, d2, d3] }
  | _ => none }
def IdentLabelsWrongFalsely : Prop := identLabelsRow.holds Try.pinned (OpenSpec.ofChange identLabelsWrong)

/-- 'interregnumlaw04.IdentHas': WHATEVER THE INPUT: true; the input reads as it did. -/
def identHasSpec : ChangeSpec := { name := "identHas", fn := fun _ => fun
  | [d1, d2, d3] => { results := [.lit (.bool true)], args := [d1, d2, d3] }
  | _ => none }
def identHasRow : OpenClaim := { program := "ytjlehbennimkgaa", sum := "f952a9512aed1fbaaba1e8e0464a1c569e53bb535e6fad9b6196b1d658cad832", func := "interregnum/interregnumlaw04.IdentHas", spec := "identHas", inPlace := ["internal/bytealg.IndexByteString", "internal/bytealg.IndexString"], unfollowed := true, recurses := true, named := ["internal/bytealg.MaxLen"], apart := false }
def IdentHasSaid : Prop := identHasRow.holds Try.pinned (OpenSpec.ofChange identHasSpec)

/-- ITS FALSE NEIGHBOUR: 'it returns false'. Refute it at one input. -/
def identHasWrong : ChangeSpec := { name := "identHas", fn := fun _ => fun
  | [d1, d2, d3] => { results := [.lit (.bool false)], args := [d1, d2, d3] }
  | _ => none }
def IdentHasWrongFalsely : Prop := identHasRow.holds Try.pinned (OpenSpec.ofChange identHasWrong)

/-- 'interregnumlaw12.RankMore': WHATEVER THE INPUT: true; the input reads as it did. -/
def rankMoreSpec : ChangeSpec := { name := "rankMore", fn := fun _ => fun
  | [d1, d2, d3, d4] => { results := [.lit (.bool true)], args := [d1, d2, d3, d4] }
  | _ => none }
def rankMoreRow : OpenClaim := { program := "ytjlehbennimkgaa", sum := "f952a9512aed1fbaaba1e8e0464a1c569e53bb535e6fad9b6196b1d658cad832", func := "interregnum/interregnumlaw12.RankMore", spec := "rankMore", inPlace := ["internal/bytealg.IndexByteString", "internal/bytealg.IndexString"], unfollowed := true, recurses := true, named := ["internal/bytealg.MaxLen"], apart := false }
def RankMoreSaid : Prop := rankMoreRow.holds Try.pinned (OpenSpec.ofChange rankMoreSpec)

/-- ITS FALSE NEIGHBOUR: 'it returns false'. Refute it at one input. -/
def rankMoreWrong : ChangeSpec := { name := "rankMore", fn := fun _ => fun
  | [d1, d2, d3, d4] => { results := [.lit (.bool false)], args := [d1, d2, d3, d4] }
  | _ => none }
def RankMoreWrongFalsely : Prop := rankMoreRow.holds Try.pinned (OpenSpec.ofChange rankMoreWrong)

/-- 'interregnumlaw12.RankTells': WHATEVER THE INPUT: true; the input reads as it did. -/
def rankTellsSpec : ChangeSpec := { name := "rankTells", fn := fun _ => fun
  | [d1, d2, d3] => { results := [.lit (.bool true)], args := [d1, d2, d3] }
  | _ => none }
def rankTellsRow : OpenClaim := { program := "ytjlehbennimkgaa", sum := "f952a9512aed1fbaaba1e8e0464a1c569e53bb535e6fad9b6196b1d658cad832", func := "interregnum/interregnumlaw12.RankTells", spec := "rankTells", inPlace := ["internal/bytealg.IndexByteString", "internal/bytealg.IndexString"], unfollowed := true, recurses := true, named := ["internal/bytealg.MaxLen"], apart := false }
def RankTellsSaid : Prop := rankTellsRow.holds Try.pinned (OpenSpec.ofChange rankTellsSpec)

/-- ITS FALSE NEIGHBOUR: 'it returns false'. Refute it at one input. -/
def rankTellsWrong : ChangeSpec := { name := "rankTells", fn := fun _ => fun
  | [d1, d2, d3] => { results := [.lit (.bool false)], args := [d1, d2, d3] }
  | _ => none }
def RankTellsWrongFalsely : Prop := rankTellsRow.holds Try.pinned (OpenSpec.ofChange rankTellsWrong)

/-- 'interregnumlaw12.RankOrder': WHATEVER THE INPUT: true; the input reads as it did. -/
def rankOrderSpec : ChangeSpec := { name := "rankOrder", fn := fun _ => fun
  | [d1, d2, d3, d4] => { results := [.lit (.bool true)], args := [d1, d2, d3, d4] }
  | _ => none }
def rankOrderRow : OpenClaim := { program := "ytjlehbennimkgaa", sum := "f952a9512aed1fbaaba1e8e0464a1c569e53bb535e6fad9b6196b1d658cad832", func := "interregnum/interregnumlaw12.RankOrder", spec := "rankOrder", inPlace := ["internal/bytealg.IndexByteString", "internal/bytealg.IndexString"], unfollowed := true, recurses := true, named := ["internal/bytealg.MaxLen"], apart := false }
def RankOrderSaid : Prop := rankOrderRow.holds Try.pinned (OpenSpec.ofChange rankOrderSpec)

/-- ITS FALSE NEIGHBOUR: 'it returns false'. Refute it at one input. -/
def rankOrderWrong : ChangeSpec := { name := "rankOrder", fn := fun _ => fun
  | [d1, d2, d3, d4] => { results := [.lit (.bool false)], args := [d1, d2, d3, d4] }
  | _ => none }
def RankOrderWrongFalsely : Prop := rankOrderRow.holds Try.pinned (OpenSpec.ofChange rankOrderWrong)

/- THE SECOND FORM. 'bulk': how many values and letters a reading holds, each counted each time it is reached (what is shared counts as often as it is met; a slice's spare places count too). A statement '..UptoSaid' is the law's where the arguments, and the package variables that the reading takes, are together of bulk at most 1048576: NARROWER than '..Said'. Prove '..Said' where nothing that the law and all that it calls make is longer than what came in: it says more and counts as full. Else prove '..UptoSaid'. A law counts once. -/
mutual
def uptoBulk {H : Type} : DataW H → Nat
  | .lit (.string bytes) => bytes.length + 1
  | .lit _ => 1
  | .nil => 1
  | .ptr d => uptoBulk d + 1
  | .slice elems spare => uptoBulkAll elems + uptoBulkAll spare + 1
  | .agg parts => uptoBulkAll parts + 1
  | .iface _ d => uptoBulk d + 1
  | .map entries => uptoBulkEntries entries + 1
  | .held _ => 1
def uptoBulkAll {H : Type} : List (DataW H) → Nat
  | [] => 0
  | d :: r => uptoBulk d + uptoBulkAll r
def uptoBulkEntries {H : Type} : List (Lit × DataW H) → Nat
  | [] => 0
  | x :: r => uptoBulkEntry x + uptoBulkEntries r
def uptoBulkEntry {H : Type} : Lit × DataW H → Nat
  | (.string bytes, d) => bytes.length + uptoBulk d + 1
  | (_, d) => uptoBulk d + 1
 end
def uptoSmall : (H : Type) → List (DataW H) → Bool := fun _ ds => decide (uptoBulkAll ds ≤ 1048576)
def OpenSpec.upto (s : _root_.Go.ChangeSpec) : _root_.Go.OpenSpec := { _root_.Go.OpenSpec.ofChange s with cond := some uptoSmall }

/-- 'interregnumlaw04.IdentNames', WHERE WHAT IT READS IS OF BULK AT MOST 1048576: true; the input reads as it did. -/
def identNamesUptoRow : OpenClaim := { program := "ytjlehbennimkgaa", sum := "f952a9512aed1fbaaba1e8e0464a1c569e53bb535e6fad9b6196b1d658cad832", func := "interregnum/interregnumlaw04.IdentNames", spec := "identNames", inPlace := ["internal/bytealg.IndexByteString", "internal/bytealg.IndexString"], unfollowed := true, recurses := true, named := ["internal/bytealg.MaxLen"], apart := false, narrowed := true }
def IdentNamesUptoSaid : Prop := identNamesUptoRow.holds Try.pinned (OpenSpec.upto identNamesSpec)

/-- 'interregnumlaw04.IdentBuilds', WHERE WHAT IT READS IS OF BULK AT MOST 1048576: true; the input reads as it did. -/
def identBuildsUptoRow : OpenClaim := { program := "ytjlehbennimkgaa", sum := "f952a9512aed1fbaaba1e8e0464a1c569e53bb535e6fad9b6196b1d658cad832", func := "interregnum/interregnumlaw04.IdentBuilds", spec := "identBuilds", inPlace := ["internal/bytealg.IndexByteString", "internal/bytealg.IndexString"], unfollowed := true, recurses := true, named := ["internal/bytealg.MaxLen"], apart := false, narrowed := true }
def IdentBuildsUptoSaid : Prop := identBuildsUptoRow.holds Try.pinned (OpenSpec.upto identBuildsSpec)

/-- 'interregnumlaw04.IdentKeeps', WHERE WHAT IT READS IS OF BULK AT MOST 1048576: true; the input reads as it did. -/
def identKeepsUptoRow : OpenClaim := { program := "ytjlehbennimkgaa", sum := "f952a9512aed1fbaaba1e8e0464a1c569e53bb535e6fad9b6196b1d658cad832", func := "interregnum/interregnumlaw04.IdentKeeps", spec := "identKeeps", inPlace := ["internal/bytealg.IndexByteString", "internal/bytealg.IndexString"], unfollowed := true, recurses := true, named := ["internal/bytealg.MaxLen"], apart := false, narrowed := true }
def IdentKeepsUptoSaid : Prop := identKeepsUptoRow.holds Try.pinned (OpenSpec.upto identKeepsSpec)

/-- 'interregnumlaw04.IdentSorted', WHERE WHAT IT READS IS OF BULK AT MOST 1048576: true; the input reads as it did. -/
def identSortedUptoRow : OpenClaim := { program := "ytjlehbennimkgaa", sum := "f952a9512aed1fbaaba1e8e0464a1c569e53bb535e6fad9b6196b1d658cad832", func := "interregnum/interregnumlaw04.IdentSorted", spec := "identSorted", inPlace := ["internal/bytealg.IndexByteString", "internal/bytealg.IndexString"], unfollowed := true, recurses := true, named := ["internal/bytealg.MaxLen"], apart := false, narrowed := true }
def IdentSortedUptoSaid : Prop := identSortedUptoRow.holds Try.pinned (OpenSpec.upto identSortedSpec)

/-- 'interregnumlaw04.IdentLabels', WHERE WHAT IT READS IS OF BULK AT MOST 1048576: true; the input reads as it did. -/
def identLabelsUptoRow : OpenClaim := { program := "ytjlehbennimkgaa", sum := "f952a9512aed1fbaaba1e8e0464a1c569e53bb535e6fad9b6196b1d658cad832", func := "interregnum/interregnumlaw04.IdentLabels", spec := "identLabels", inPlace := ["internal/bytealg.IndexByteString", "internal/bytealg.IndexString"], unfollowed := true, recurses := true, named := ["internal/bytealg.MaxLen"], apart := false, narrowed := true }
def IdentLabelsUptoSaid : Prop := identLabelsUptoRow.holds Try.pinned (OpenSpec.upto identLabelsSpec)

/-- 'interregnumlaw04.IdentHas', WHERE WHAT IT READS IS OF BULK AT MOST 1048576: true; the input reads as it did. -/
def identHasUptoRow : OpenClaim := { program := "ytjlehbennimkgaa", sum := "f952a9512aed1fbaaba1e8e0464a1c569e53bb535e6fad9b6196b1d658cad832", func := "interregnum/interregnumlaw04.IdentHas", spec := "identHas", inPlace := ["internal/bytealg.IndexByteString", "internal/bytealg.IndexString"], unfollowed := true, recurses := true, named := ["internal/bytealg.MaxLen"], apart := false, narrowed := true }
def IdentHasUptoSaid : Prop := identHasUptoRow.holds Try.pinned (OpenSpec.upto identHasSpec)

/-- 'interregnumlaw12.RankMore', WHERE WHAT IT READS IS OF BULK AT MOST 1048576: true; the input reads as it did. -/
def rankMoreUptoRow : OpenClaim := { program := "ytjlehbennimkgaa", sum := "f952a9512aed1fbaaba1e8e0464a1c569e53bb535e6fad9b6196b1d658cad832", func := "interregnum/interregnumlaw12.RankMore", spec := "rankMore", inPlace := ["internal/bytealg.IndexByteString", "internal/bytealg.IndexString"], unfollowed := true, recurses := true, named := ["internal/bytealg.MaxLen"], apart := false, narrowed := true }
def RankMoreUptoSaid : Prop := rankMoreUptoRow.holds Try.pinned (OpenSpec.upto rankMoreSpec)

/-- 'interregnumlaw12.RankTells', WHERE WHAT IT READS IS OF BULK AT MOST 1048576: true; the input reads as it did. -/
def rankTellsUptoRow : OpenClaim := { program := "ytjlehbennimkgaa", sum := "f952a9512aed1fbaaba1e8e0464a1c569e53bb535e6fad9b6196b1d658cad832", func := "interregnum/interregnumlaw12.RankTells", spec := "rankTells", inPlace := ["internal/bytealg.IndexByteString", "internal/bytealg.IndexString"], unfollowed := true, recurses := true, named := ["internal/bytealg.MaxLen"], apart := false, narrowed := true }
def RankTellsUptoSaid : Prop := rankTellsUptoRow.holds Try.pinned (OpenSpec.upto rankTellsSpec)

/-- 'interregnumlaw12.RankOrder', WHERE WHAT IT READS IS OF BULK AT MOST 1048576: true; the input reads as it did. -/
def rankOrderUptoRow : OpenClaim := { program := "ytjlehbennimkgaa", sum := "f952a9512aed1fbaaba1e8e0464a1c569e53bb535e6fad9b6196b1d658cad832", func := "interregnum/interregnumlaw12.RankOrder", spec := "rankOrder", inPlace := ["internal/bytealg.IndexByteString", "internal/bytealg.IndexString"], unfollowed := true, recurses := true, named := ["internal/bytealg.MaxLen"], apart := false, narrowed := true }
def RankOrderUptoSaid : Prop := rankOrderUptoRow.holds Try.pinned (OpenSpec.upto rankOrderSpec)

end Rows
end Go.Proofs.Ytjlehbennimkgaa
