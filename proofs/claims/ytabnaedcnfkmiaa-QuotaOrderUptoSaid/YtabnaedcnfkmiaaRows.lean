/-
  No cell of these rows narrows 'for every input' (looked for: loops, veiled, ifaces, maps, wideKeys, modest, calm, conditions, laid).
  DERIVED. THE GIVEN ROWS OF THIS SEAT. 12 by the template 'for every input the law returns true; each argument reads behind the call as it read before'; 0 by the template 'total and deterministic' (their statements: YtabnaedcnfkmiaaTotals.lean).
  GIVEN WITH THE SEED: the statements are not yours to turn. If you find one false, say at which input.
  Laid BY PROGRAM, IN A SANDBOX (cutbox-rows.mjs): the forced cells as the released guide's own fill.sh prints them over the translation 685749fbdfd240b1… (all of the seat's roots in one cut). By AI agents, Wed Nov 11 2026. No macro, syntax, notation, axiom, sorry.
-/
import Derived.Test.YtabnaedcnfkmiaaChecked
import GoSem.Claim
import GoSem.ClaimJoined
import GoSem.ClaimMapViews
import Derived.JoinedTies
import Derived.KernelRfl
namespace Go.Proofs.Ytabnaedcnfkmiaa
/- THE CELL 'sum', in the pinned program and in every row, IS THE sha256 OF THE DUMP (.gsa) THAT YtabnaedcnfkmiaaProg.lean LOADS. Nothing in Lean hashes anything: it is a label: what it is worth is what the hold of that sum in a sandbox is worth. -/
noncomputable def Try.pinned : Pinned := { name := "ytabnaedcnfkmiaa", sum := "685749fbdfd240b11ecb942102aa8e305261764802e165b723a791f5bf58fb38", checked := Try.checked }
namespace Rows
def none {H : Type} : Left H := { results := [], args := [] }

/-- 'interregnumlaw01.PackOrders': WHATEVER THE INPUT: true; the input reads as it did. -/
def packOrdersSpec : ChangeSpec := { name := "packOrders", fn := fun _ => fun
  | [d1, d2] => { results := [.lit (.bool true)], args := [d1, d2] }
  | _ => none }
def packOrdersRow : OpenClaim := { program := "ytabnaedcnfkmiaa", sum := "685749fbdfd240b11ecb942102aa8e305261764802e165b723a791f5bf58fb38", func := "interregnum/interregnumlaw01.PackOrders", spec := "packOrders", apart := false }
def PackOrdersSaid : Prop := packOrdersRow.holds Try.pinned (OpenSpec.ofChange packOrdersSpec)

/-- ITS FALSE NEIGHBOUR: 'it returns false'. Refute it at one input. -/
def packOrdersWrong : ChangeSpec := { name := "packOrders", fn := fun _ => fun
  | [d1, d2] => { results := [.lit (.bool false)], args := [d1, d2] }
  | _ => none }
def PackOrdersWrongFalsely : Prop := packOrdersRow.holds Try.pinned (OpenSpec.ofChange packOrdersWrong)

/-- 'interregnumlaw01.PackPuts': WHATEVER THE INPUT: true; the input reads as it did. -/
def packPutsSpec : ChangeSpec := { name := "packPuts", fn := fun _ => fun
  | [d1, d2, d3] => { results := [.lit (.bool true)], args := [d1, d2, d3] }
  | _ => none }
def packPutsRow : OpenClaim := { program := "ytabnaedcnfkmiaa", sum := "685749fbdfd240b11ecb942102aa8e305261764802e165b723a791f5bf58fb38", func := "interregnum/interregnumlaw01.PackPuts", spec := "packPuts", apart := false }
def PackPutsSaid : Prop := packPutsRow.holds Try.pinned (OpenSpec.ofChange packPutsSpec)

/-- ITS FALSE NEIGHBOUR: 'it returns false'. Refute it at one input. -/
def packPutsWrong : ChangeSpec := { name := "packPuts", fn := fun _ => fun
  | [d1, d2, d3] => { results := [.lit (.bool false)], args := [d1, d2, d3] }
  | _ => none }
def PackPutsWrongFalsely : Prop := packPutsRow.holds Try.pinned (OpenSpec.ofChange packPutsWrong)

/-- 'interregnumlaw01.PackRuns': WHATEVER THE INPUT: true; the input reads as it did. -/
def packRunsSpec : ChangeSpec := { name := "packRuns", fn := fun _ => fun
  | [d1, d2] => { results := [.lit (.bool true)], args := [d1, d2] }
  | _ => none }
def packRunsRow : OpenClaim := { program := "ytabnaedcnfkmiaa", sum := "685749fbdfd240b11ecb942102aa8e305261764802e165b723a791f5bf58fb38", func := "interregnum/interregnumlaw01.PackRuns", spec := "packRuns", apart := false }
def PackRunsSaid : Prop := packRunsRow.holds Try.pinned (OpenSpec.ofChange packRunsSpec)

/-- ITS FALSE NEIGHBOUR: 'it returns false'. Refute it at one input. -/
def packRunsWrong : ChangeSpec := { name := "packRuns", fn := fun _ => fun
  | [d1, d2] => { results := [.lit (.bool false)], args := [d1, d2] }
  | _ => none }
def PackRunsWrongFalsely : Prop := packRunsRow.holds Try.pinned (OpenSpec.ofChange packRunsWrong)

/-- 'interregnumlaw01.PackTakes': WHATEVER THE INPUT: true; the input reads as it did. -/
def packTakesSpec : ChangeSpec := { name := "packTakes", fn := fun _ => fun
  | [d1, d2, d3] => { results := [.lit (.bool true)], args := [d1, d2, d3] }
  | _ => none }
def packTakesRow : OpenClaim := { program := "ytabnaedcnfkmiaa", sum := "685749fbdfd240b11ecb942102aa8e305261764802e165b723a791f5bf58fb38", func := "interregnum/interregnumlaw01.PackTakes", spec := "packTakes", apart := false }
def PackTakesSaid : Prop := packTakesRow.holds Try.pinned (OpenSpec.ofChange packTakesSpec)

/-- ITS FALSE NEIGHBOUR: 'it returns false'. Refute it at one input. -/
def packTakesWrong : ChangeSpec := { name := "packTakes", fn := fun _ => fun
  | [d1, d2, d3] => { results := [.lit (.bool false)], args := [d1, d2, d3] }
  | _ => none }
def PackTakesWrongFalsely : Prop := packTakesRow.holds Try.pinned (OpenSpec.ofChange packTakesWrong)

/-- 'interregnumlaw01.PackBack': WHATEVER THE INPUT: true; the input reads as it did. -/
def packBackSpec : ChangeSpec := { name := "packBack", fn := fun _ => fun
  | [d1, d2, d3, d4, d5] => { results := [.lit (.bool true)], args := [d1, d2, d3, d4, d5] }
  | _ => none }
def packBackRow : OpenClaim := { program := "ytabnaedcnfkmiaa", sum := "685749fbdfd240b11ecb942102aa8e305261764802e165b723a791f5bf58fb38", func := "interregnum/interregnumlaw01.PackBack", spec := "packBack", apart := false }
def PackBackSaid : Prop := packBackRow.holds Try.pinned (OpenSpec.ofChange packBackSpec)

/-- ITS FALSE NEIGHBOUR: 'it returns false'. Refute it at one input. -/
def packBackWrong : ChangeSpec := { name := "packBack", fn := fun _ => fun
  | [d1, d2, d3, d4, d5] => { results := [.lit (.bool false)], args := [d1, d2, d3, d4, d5] }
  | _ => none }
def PackBackWrongFalsely : Prop := packBackRow.holds Try.pinned (OpenSpec.ofChange packBackWrong)

/-- 'interregnumlaw01.PackOne': WHATEVER THE INPUT: true; the input reads as it did. -/
def packOneSpec : ChangeSpec := { name := "packOne", fn := fun _ => fun
  | [d1, d2, d3] => { results := [.lit (.bool true)], args := [d1, d2, d3] }
  | _ => none }
def packOneRow : OpenClaim := { program := "ytabnaedcnfkmiaa", sum := "685749fbdfd240b11ecb942102aa8e305261764802e165b723a791f5bf58fb38", func := "interregnum/interregnumlaw01.PackOne", spec := "packOne", apart := false }
def PackOneSaid : Prop := packOneRow.holds Try.pinned (OpenSpec.ofChange packOneSpec)

/-- ITS FALSE NEIGHBOUR: 'it returns false'. Refute it at one input. -/
def packOneWrong : ChangeSpec := { name := "packOne", fn := fun _ => fun
  | [d1, d2, d3] => { results := [.lit (.bool false)], args := [d1, d2, d3] }
  | _ => none }
def PackOneWrongFalsely : Prop := packOneRow.holds Try.pinned (OpenSpec.ofChange packOneWrong)

/-- 'interregnumlaw05.ModelGangs': WHATEVER THE INPUT: true; the input reads as it did. -/
def modelGangsSpec : ChangeSpec := { name := "modelGangs", fn := fun _ => fun
  | [d1, d2, d3] => { results := [.lit (.bool true)], args := [d1, d2, d3] }
  | _ => none }
def modelGangsRow : OpenClaim := { program := "ytabnaedcnfkmiaa", sum := "685749fbdfd240b11ecb942102aa8e305261764802e165b723a791f5bf58fb38", func := "interregnum/interregnumlaw05.ModelGangs", spec := "modelGangs", inPlace := ["internal/bytealg.IndexByteString", "internal/bytealg.IndexString"], unfollowed := true, recurses := true, named := ["internal/bytealg.MaxLen"], apart := false }
def ModelGangsSaid : Prop := modelGangsRow.holds Try.pinned (OpenSpec.ofChange modelGangsSpec)

/-- ITS FALSE NEIGHBOUR: 'it returns false'. Refute it at one input. -/
def modelGangsWrong : ChangeSpec := { name := "modelGangs", fn := fun _ => fun
  | [d1, d2, d3] => { results := [.lit (.bool false)], args := [d1, d2, d3] }
  | _ => none }
def ModelGangsWrongFalsely : Prop := modelGangsRow.holds Try.pinned (OpenSpec.ofChange modelGangsWrong)

/-- 'interregnumlaw10.QuotaTells': WHATEVER THE INPUT: true; the input reads as it did. -/
def quotaTellsSpec : ChangeSpec := { name := "quotaTells", fn := fun _ => fun
  | [d1, d2, d3, d4] => { results := [.lit (.bool true)], args := [d1, d2, d3, d4] }
  | _ => none }
def quotaTellsRow : OpenClaim := { program := "ytabnaedcnfkmiaa", sum := "685749fbdfd240b11ecb942102aa8e305261764802e165b723a791f5bf58fb38", func := "interregnum/interregnumlaw10.QuotaTells", spec := "quotaTells", inPlace := ["internal/bytealg.IndexByteString", "internal/bytealg.IndexString"], unfollowed := true, recurses := true, named := ["internal/bytealg.MaxLen"], apart := false }
def QuotaTellsSaid : Prop := quotaTellsRow.holds Try.pinned (OpenSpec.ofChange quotaTellsSpec)

/-- ITS FALSE NEIGHBOUR: 'it returns false'. Refute it at one input. -/
def quotaTellsWrong : ChangeSpec := { name := "quotaTells", fn := fun _ => fun
  | [d1, d2, d3, d4] => { results := [.lit (.bool false)], args := [d1, d2, d3, d4] }
  | _ => none }
def QuotaTellsWrongFalsely : Prop := quotaTellsRow.holds Try.pinned (OpenSpec.ofChange quotaTellsWrong)

/-- 'interregnumlaw10.QuotaHolds': WHATEVER THE INPUT: true; the input reads as it did. -/
def quotaHoldsSpec : ChangeSpec := { name := "quotaHolds", fn := fun _ => fun
  | [d1, d2] => { results := [.lit (.bool true)], args := [d1, d2] }
  | _ => none }
def quotaHoldsRow : OpenClaim := { program := "ytabnaedcnfkmiaa", sum := "685749fbdfd240b11ecb942102aa8e305261764802e165b723a791f5bf58fb38", func := "interregnum/interregnumlaw10.QuotaHolds", spec := "quotaHolds", inPlace := ["internal/bytealg.IndexByteString", "internal/bytealg.IndexString"], unfollowed := true, recurses := true, named := ["internal/bytealg.MaxLen"], apart := false }
def QuotaHoldsSaid : Prop := quotaHoldsRow.holds Try.pinned (OpenSpec.ofChange quotaHoldsSpec)

/-- ITS FALSE NEIGHBOUR: 'it returns false'. Refute it at one input. -/
def quotaHoldsWrong : ChangeSpec := { name := "quotaHolds", fn := fun _ => fun
  | [d1, d2] => { results := [.lit (.bool false)], args := [d1, d2] }
  | _ => none }
def QuotaHoldsWrongFalsely : Prop := quotaHoldsRow.holds Try.pinned (OpenSpec.ofChange quotaHoldsWrong)

/-- 'interregnumlaw10.QuotaApart': WHATEVER THE INPUT: true; the input reads as it did. -/
def quotaApartSpec : ChangeSpec := { name := "quotaApart", fn := fun _ => fun
  | [d1, d2, d3, d4] => { results := [.lit (.bool true)], args := [d1, d2, d3, d4] }
  | _ => none }
def quotaApartRow : OpenClaim := { program := "ytabnaedcnfkmiaa", sum := "685749fbdfd240b11ecb942102aa8e305261764802e165b723a791f5bf58fb38", func := "interregnum/interregnumlaw10.QuotaApart", spec := "quotaApart", inPlace := ["internal/bytealg.IndexByteString", "internal/bytealg.IndexString"], unfollowed := true, recurses := true, named := ["internal/bytealg.MaxLen"], apart := false }
def QuotaApartSaid : Prop := quotaApartRow.holds Try.pinned (OpenSpec.ofChange quotaApartSpec)

/-- ITS FALSE NEIGHBOUR: 'it returns false'. Refute it at one input. -/
def quotaApartWrong : ChangeSpec := { name := "quotaApart", fn := fun _ => fun
  | [d1, d2, d3, d4] => { results := [.lit (.bool false)], args := [d1, d2, d3, d4] }
  | _ => none }
def QuotaApartWrongFalsely : Prop := quotaApartRow.holds Try.pinned (OpenSpec.ofChange quotaApartWrong)

/-- 'interregnumlaw10.QuotaOrder': WHATEVER THE INPUT: true; the input reads as it did. -/
def quotaOrderSpec : ChangeSpec := { name := "quotaOrder", fn := fun _ => fun
  | [d1, d2, d3] => { results := [.lit (.bool true)], args := [d1, d2, d3] }
  | _ => none }
def quotaOrderRow : OpenClaim := { program := "ytabnaedcnfkmiaa", sum := "685749fbdfd240b11ecb942102aa8e305261764802e165b723a791f5bf58fb38", func := "interregnum/interregnumlaw10.QuotaOrder", spec := "quotaOrder", inPlace := ["internal/bytealg.IndexByteString", "internal/bytealg.IndexString"], unfollowed := true, recurses := true, named := ["internal/bytealg.MaxLen"], apart := false }
def QuotaOrderSaid : Prop := quotaOrderRow.holds Try.pinned (OpenSpec.ofChange quotaOrderSpec)

/-- ITS FALSE NEIGHBOUR: 'it returns false'. Refute it at one input. -/
def quotaOrderWrong : ChangeSpec := { name := "quotaOrder", fn := fun _ => fun
  | [d1, d2, d3] => { results := [.lit (.bool false)], args := [d1, d2, d3] }
  | _ => none }
def QuotaOrderWrongFalsely : Prop := quotaOrderRow.holds Try.pinned (OpenSpec.ofChange quotaOrderWrong)

/-- 'interregnumlaw05.ModelRights': WHATEVER THE INPUT: true; the input reads as it did. -/
def modelRightsSpec : ChangeSpec := { name := "modelRights", fn := fun _ => fun
  | [d1, d2, d3, d4] => { results := [.lit (.bool true)], args := [d1, d2, d3, d4] }
  | _ => none }
def modelRightsRow : OpenClaim := { program := "ytabnaedcnfkmiaa", sum := "685749fbdfd240b11ecb942102aa8e305261764802e165b723a791f5bf58fb38", func := "interregnum/interregnumlaw05.ModelRights", spec := "modelRights", inPlace := ["internal/bytealg.IndexByteString", "internal/bytealg.IndexString"], unfollowed := true, recurses := true, named := ["internal/bytealg.MaxLen"], apart := false }
def ModelRightsSaid : Prop := modelRightsRow.holds Try.pinned (OpenSpec.ofChange modelRightsSpec)

/-- ITS FALSE NEIGHBOUR: 'it returns false'. Refute it at one input. -/
def modelRightsWrong : ChangeSpec := { name := "modelRights", fn := fun _ => fun
  | [d1, d2, d3, d4] => { results := [.lit (.bool false)], args := [d1, d2, d3, d4] }
  | _ => none }
def ModelRightsWrongFalsely : Prop := modelRightsRow.holds Try.pinned (OpenSpec.ofChange modelRightsWrong)

/- THE SECOND FORM. 'bulk': how many values and letters a reading holds, each counted each time it is reached (what is shared counts as often as it is met; a slice's spare places count too). A statement '..UptoSaid' is the law's where the arguments, and the package variables that the reading takes, are together of bulk at most 1048576: NARROWER than '..Said'. Prove '..Said' where nothing that the law and all that it calls make is longer than what came in: it says more and counts as full. Else prove '..UptoSaid'. A law counts once. -/
mutual
def uptoBulk {H : Type} : DataW H → Nat
  | .lit (.string bytes) => bytes.length + 1
  | .lit _ => 1
  | .nil => 1
  | .ptr d => uptoBulk d + 1
  | .slice elems spare => uptoBulkAll elems + uptoBulkAll spare + 1
  | .agg parts => uptoBulkAll parts + 1
  | .iface _ d => uptoBulk d + 1
  | .map entries => uptoBulkEntries entries + 1
  | .held _ => 1
def uptoBulkAll {H : Type} : List (DataW H) → Nat
  | [] => 0
  | d :: r => uptoBulk d + uptoBulkAll r
def uptoBulkEntries {H : Type} : List (Lit × DataW H) → Nat
  | [] => 0
  | x :: r => uptoBulkEntry x + uptoBulkEntries r
def uptoBulkEntry {H : Type} : Lit × DataW H → Nat
  | (.string bytes, d) => bytes.length + uptoBulk d + 1
  | (_, d) => uptoBulk d + 1
 end
def uptoSmall : (H : Type) → List (DataW H) → Bool := fun _ ds => decide (uptoBulkAll ds ≤ 1048576)
def OpenSpec.upto (s : _root_.Go.ChangeSpec) : _root_.Go.OpenSpec := { _root_.Go.OpenSpec.ofChange s with cond := some uptoSmall }

/-- 'interregnumlaw01.PackOrders', WHERE WHAT IT READS IS OF BULK AT MOST 1048576: true; the input reads as it did. -/
def packOrdersUptoRow : OpenClaim := { program := "ytabnaedcnfkmiaa", sum := "685749fbdfd240b11ecb942102aa8e305261764802e165b723a791f5bf58fb38", func := "interregnum/interregnumlaw01.PackOrders", spec := "packOrders", apart := false, narrowed := true }
def PackOrdersUptoSaid : Prop := packOrdersUptoRow.holds Try.pinned (OpenSpec.upto packOrdersSpec)

/-- 'interregnumlaw01.PackPuts', WHERE WHAT IT READS IS OF BULK AT MOST 1048576: true; the input reads as it did. -/
def packPutsUptoRow : OpenClaim := { program := "ytabnaedcnfkmiaa", sum := "685749fbdfd240b11ecb942102aa8e305261764802e165b723a791f5bf58fb38", func := "interregnum/interregnumlaw01.PackPuts", spec := "packPuts", apart := false, narrowed := true }
def PackPutsUptoSaid : Prop := packPutsUptoRow.holds Try.pinned (OpenSpec.upto packPutsSpec)

/-- 'interregnumlaw01.PackRuns', WHERE WHAT IT READS IS OF BULK AT MOST 1048576: true; the input reads as it did. -/
def packRunsUptoRow : OpenClaim := { program := "ytabnaedcnfkmiaa", sum := "685749fbdfd240b11ecb942102aa8e305261764802e165b723a791f5bf58fb38", func := "interregnum/interregnumlaw01.PackRuns", spec := "packRuns", apart := false, narrowed := true }
def PackRunsUptoSaid : Prop := packRunsUptoRow.holds Try.pinned (OpenSpec.upto packRunsSpec)

/-- 'interregnumlaw01.PackTakes', WHERE WHAT IT READS IS OF BULK AT MOST 1048576: true; the input reads as it did. -/
def packTakesUptoRow : OpenClaim := { program := "ytabnaedcnfkmiaa", sum := "685749fbdfd240b11ecb942102aa8e305261764802e165b723a791f5bf58fb38", func := "interregnum/interregnumlaw01.PackTakes", spec := "packTakes", apart := false, narrowed := true }
def PackTakesUptoSaid : Prop := packTakesUptoRow.holds Try.pinned (OpenSpec.upto packTakesSpec)

/-- 'interregnumlaw01.PackBack', WHERE WHAT IT READS IS OF BULK AT MOST 1048576: true; the input reads as it did. -/
def packBackUptoRow : OpenClaim := { program := "ytabnaedcnfkmiaa", sum := "685749fbdfd240b11ecb942102aa8e305261764802e165b723a791f5bf58fb38", func := "interregnum/interregnumlaw01.PackBack", spec := "packBack", apart := false, narrowed := true }
def PackBackUptoSaid : Prop := packBackUptoRow.holds Try.pinned (OpenSpec.upto packBackSpec)

/-- 'interregnumlaw01.PackOne', WHERE WHAT IT READS IS OF BULK AT MOST 1048576: true; the input reads as it did. -/
def packOneUptoRow : OpenClaim := { program := "ytabnaedcnfkmiaa", sum := "685749fbdfd240b11ecb942102aa8e305261764802e165b723a791f5bf58fb38", func := "interregnum/interregnumlaw01.PackOne", spec := "packOne", apart := false, narrowed := true }
def PackOneUptoSaid : Prop := packOneUptoRow.holds Try.pinned (OpenSpec.upto packOneSpec)

/-- 'interregnumlaw05.ModelGangs', WHERE WHAT IT READS IS OF BULK AT MOST 1048576: true; the input reads as it did. -/
def modelGangsUptoRow : OpenClaim := { program := "ytabnaedcnfkmiaa", sum := "685749fbdfd240b11ecb942102aa8e305261764802e165b723a791f5bf58fb38", func := "interregnum/interregnumlaw05.ModelGangs", spec := "modelGangs", inPlace := ["internal/bytealg.IndexByteString", "internal/bytealg.IndexString"], unfollowed := true, recurses := true, named := ["internal/bytealg.MaxLen"], apart := false, narrowed := true }
def ModelGangsUptoSaid : Prop := modelGangsUptoRow.holds Try.pinned (OpenSpec.upto modelGangsSpec)

/-- 'interregnumlaw10.QuotaTells', WHERE WHAT IT READS IS OF BULK AT MOST 1048576: true; the input reads as it did. -/
def quotaTellsUptoRow : OpenClaim := { program := "ytabnaedcnfkmiaa", sum := "685749fbdfd240b11ecb942102aa8e305261764802e165b723a791f5bf58fb38", func := "interregnum/interregnumlaw10.QuotaTells", spec := "quotaTells", inPlace := ["internal/bytealg.IndexByteString", "internal/bytealg.IndexString"], unfollowed := true, recurses := true, named := ["internal/bytealg.MaxLen"], apart := false, narrowed := true }
def QuotaTellsUptoSaid : Prop := quotaTellsUptoRow.holds Try.pinned (OpenSpec.upto quotaTellsSpec)

/-- 'interregnumlaw10.QuotaHolds', WHERE WHAT IT READS IS OF BULK AT MOST 1048576: true; the input reads as it did. -/
def quotaHoldsUptoRow : OpenClaim := { program := "ytabnaedcnfkmiaa", sum := "685749fbdfd240b11ecb942102aa8e305261764802e165b723a791f5bf58fb38", func := "interregnum/interregnumlaw10.QuotaHolds", spec := "quotaHolds", inPlace := ["internal/bytealg.IndexByteString", "internal/bytealg.IndexString"], unfollowed := true, recurses := true, named := ["internal/bytealg.MaxLen"], apart := false, narrowed := true }
def QuotaHoldsUptoSaid : Prop := quotaHoldsUptoRow.holds Try.pinned (OpenSpec.upto quotaHoldsSpec)

/-- 'interregnumlaw10.QuotaApart', WHERE WHAT IT READS IS OF BULK AT MOST 1048576: true; the input reads as it did. -/
def quotaApartUptoRow : OpenClaim := { program := "ytabnaedcnfkmiaa", sum := "685749fbdfd240b11ecb942102aa8e305261764802e165b723a791f5bf58fb38", func := "interregnum/interregnumlaw10.QuotaApart", spec := "quotaApart", inPlace := ["internal/bytealg.IndexByteString", "internal/bytealg.IndexString"], unfollowed := true, recurses := true, named := ["internal/bytealg.MaxLen"], apart := false, narrowed := true }
def QuotaApartUptoSaid : Prop := quotaApartUptoRow.holds Try.pinned (OpenSpec.upto quotaApartSpec)

/-- 'interregnumlaw10.QuotaOrder', WHERE WHAT IT READS IS OF BULK AT MOST 1048576: true; the input reads as it did. -/
def quotaOrderUptoRow : OpenClaim := { program := "ytabnaedcnfkmiaa", sum := "685749fbdfd240b11ecb942102aa8e305261764802e165b723a791f5bf58fb38", func := "interregnum/interregnumlaw10.QuotaOrder", spec := "quotaOrder", inPlace := ["internal/bytealg.IndexByteString", "internal/bytealg.IndexString"], unfollowed := true, recurses := true, named := ["internal/bytealg.MaxLen"], apart := false, narrowed := true }
def QuotaOrderUptoSaid : Prop := quotaOrderUptoRow.holds Try.pinned (OpenSpec.upto quotaOrderSpec)

/-- 'interregnumlaw05.ModelRights', WHERE WHAT IT READS IS OF BULK AT MOST 1048576: true; the input reads as it did. -/
def modelRightsUptoRow : OpenClaim := { program := "ytabnaedcnfkmiaa", sum := "685749fbdfd240b11ecb942102aa8e305261764802e165b723a791f5bf58fb38", func := "interregnum/interregnumlaw05.ModelRights", spec := "modelRights", inPlace := ["internal/bytealg.IndexByteString", "internal/bytealg.IndexString"], unfollowed := true, recurses := true, named := ["internal/bytealg.MaxLen"], apart := false, narrowed := true }
def ModelRightsUptoSaid : Prop := modelRightsUptoRow.holds Try.pinned (OpenSpec.upto modelRightsSpec)

end Rows
end Go.Proofs.Ytabnaedcnfkmiaa
