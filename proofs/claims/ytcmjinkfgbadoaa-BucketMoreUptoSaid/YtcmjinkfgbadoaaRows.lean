/-
  No cell of these rows narrows 'for every input' (looked for: loops, veiled, ifaces, maps, wideKeys, modest, calm, conditions, laid).
  DERIVED. THE GIVEN ROWS OF THIS SEAT. 5 by the template 'for every input the law returns true; each argument reads behind the call as it read before'; 0 by the template 'total and deterministic' (their statements: YtcmjinkfgbadoaaTotals.lean).
  GIVEN WITH THE SEED: the statements are not yours to turn. If you find one false, say at which input.
  Laid BY PROGRAM, IN A SANDBOX (cutbox-rows.mjs): the forced cells as the released guide's own fill.sh prints them over the translation 79253d4c13350151… (all of the seat's roots in one cut). By AI agents, Wed Nov 11 2026. No macro, syntax, notation, axiom, sorry.
-/
import Derived.Test.YtcmjinkfgbadoaaChecked
import GoSem.Claim
import GoSem.ClaimJoined
import GoSem.ClaimMapViews
import Derived.JoinedTies
import Derived.KernelRfl
namespace Go.Proofs.Ytcmjinkfgbadoaa
/- THE CELL 'sum', in the pinned program and in every row, IS THE sha256 OF THE DUMP (.gsa) THAT YtcmjinkfgbadoaaProg.lean LOADS. Nothing in Lean hashes anything: it is a label: what it is worth is what the hold of that sum in a sandbox is worth. -/
noncomputable def Try.pinned : Pinned := { name := "ytcmjinkfgbadoaa", sum := "79253d4c13350151a8658865dc345a9a49d73a0012fa7535a8224c9cd9999a5d", checked := Try.checked }
namespace Rows
def none {H : Type} : Left H := { results := [], args := [] }

/-- 'interregnumlaw17.BucketPlays': WHATEVER THE INPUT: true; the input reads as it did. -/
def bucketPlaysSpec : ChangeSpec := { name := "bucketPlays", fn := fun _ => fun
  | [d1, d2] => { results := [.lit (.bool true)], args := [d1, d2] }
  | _ => none }
def bucketPlaysRow : OpenClaim := { program := "ytcmjinkfgbadoaa", sum := "79253d4c13350151a8658865dc345a9a49d73a0012fa7535a8224c9cd9999a5d", func := "interregnum/interregnumlaw17.BucketPlays", spec := "bucketPlays", recurses := true, apart := false }
def BucketPlaysSaid : Prop := bucketPlaysRow.holds Try.pinned (OpenSpec.ofChange bucketPlaysSpec)

/-- ITS FALSE NEIGHBOUR: 'it returns false'. Refute it at one input. -/
def bucketPlaysWrong : ChangeSpec := { name := "bucketPlays", fn := fun _ => fun
  | [d1, d2] => { results := [.lit (.bool false)], args := [d1, d2] }
  | _ => none }
def BucketPlaysWrongFalsely : Prop := bucketPlaysRow.holds Try.pinned (OpenSpec.ofChange bucketPlaysWrong)

/-- 'interregnumlaw17.BucketOrder': WHATEVER THE INPUT: true; the input reads as it did. -/
def bucketOrderSpec : ChangeSpec := { name := "bucketOrder", fn := fun _ => fun
  | [d1, d2] => { results := [.lit (.bool true)], args := [d1, d2] }
  | _ => none }
def bucketOrderRow : OpenClaim := { program := "ytcmjinkfgbadoaa", sum := "79253d4c13350151a8658865dc345a9a49d73a0012fa7535a8224c9cd9999a5d", func := "interregnum/interregnumlaw17.BucketOrder", spec := "bucketOrder", recurses := true, apart := false }
def BucketOrderSaid : Prop := bucketOrderRow.holds Try.pinned (OpenSpec.ofChange bucketOrderSpec)

/-- ITS FALSE NEIGHBOUR: 'it returns false'. Refute it at one input. -/
def bucketOrderWrong : ChangeSpec := { name := "bucketOrder", fn := fun _ => fun
  | [d1, d2] => { results := [.lit (.bool false)], args := [d1, d2] }
  | _ => none }
def BucketOrderWrongFalsely : Prop := bucketOrderRow.holds Try.pinned (OpenSpec.ofChange bucketOrderWrong)

/-- 'interregnumlaw17.BucketMore': WHATEVER THE INPUT: true; the input reads as it did. -/
def bucketMoreSpec : ChangeSpec := { name := "bucketMore", fn := fun _ => fun
  | [d1, d2, d3] => { results := [.lit (.bool true)], args := [d1, d2, d3] }
  | _ => none }
def bucketMoreRow : OpenClaim := { program := "ytcmjinkfgbadoaa", sum := "79253d4c13350151a8658865dc345a9a49d73a0012fa7535a8224c9cd9999a5d", func := "interregnum/interregnumlaw17.BucketMore", spec := "bucketMore", recurses := true, apart := false }
def BucketMoreSaid : Prop := bucketMoreRow.holds Try.pinned (OpenSpec.ofChange bucketMoreSpec)

/-- ITS FALSE NEIGHBOUR: 'it returns false'. Refute it at one input. -/
def bucketMoreWrong : ChangeSpec := { name := "bucketMore", fn := fun _ => fun
  | [d1, d2, d3] => { results := [.lit (.bool false)], args := [d1, d2, d3] }
  | _ => none }
def BucketMoreWrongFalsely : Prop := bucketMoreRow.holds Try.pinned (OpenSpec.ofChange bucketMoreWrong)

/-- 'interregnumlaw14.OrderApart': WHATEVER THE INPUT: true; the input reads as it did. -/
def orderApartSpec : ChangeSpec := { name := "orderApart", fn := fun _ => fun
  | [d1, d2] => { results := [.lit (.bool true)], args := [d1, d2] }
  | _ => none }
def orderApartRow : OpenClaim := { program := "ytcmjinkfgbadoaa", sum := "79253d4c13350151a8658865dc345a9a49d73a0012fa7535a8224c9cd9999a5d", func := "interregnum/interregnumlaw14.OrderApart", spec := "orderApart", unfollowed := true, recurses := true, apart := false }
def OrderApartSaid : Prop := orderApartRow.holds Try.pinned (OpenSpec.ofChange orderApartSpec)

/-- ITS FALSE NEIGHBOUR: 'it returns false'. Refute it at one input. -/
def orderApartWrong : ChangeSpec := { name := "orderApart", fn := fun _ => fun
  | [d1, d2] => { results := [.lit (.bool false)], args := [d1, d2] }
  | _ => none }
def OrderApartWrongFalsely : Prop := orderApartRow.holds Try.pinned (OpenSpec.ofChange orderApartWrong)

/-- 'interregnumlaw24.AgentKeeps': WHATEVER THE INPUT: true; the input reads as it did. -/
def agentKeepsSpec : ChangeSpec := { name := "agentKeeps", fn := fun _ => fun
  | [d] => { results := [.lit (.bool true)], args := [d] }
  | _ => none }
def agentKeepsRow : OpenClaim := { program := "ytcmjinkfgbadoaa", sum := "79253d4c13350151a8658865dc345a9a49d73a0012fa7535a8224c9cd9999a5d", func := "interregnum/interregnumlaw24.AgentKeeps", spec := "agentKeeps", inPlace := ["internal/bytealg.IndexByteString", "internal/bytealg.IndexString"], unfollowed := true, recurses := true, named := ["internal/bytealg.MaxLen"], apart := false }
def AgentKeepsSaid : Prop := agentKeepsRow.holds Try.pinned (OpenSpec.ofChange agentKeepsSpec)

/-- ITS FALSE NEIGHBOUR: 'it returns false'. Refute it at one input. -/
def agentKeepsWrong : ChangeSpec := { name := "agentKeeps", fn := fun _ => fun
  | [d] => { results := [.lit (.bool false)], args := [d] }
  | _ => none }
def AgentKeepsWrongFalsely : Prop := agentKeepsRow.holds Try.pinned (OpenSpec.ofChange agentKeepsWrong)

/- THE SECOND FORM. 'bulk': how many values and letters a reading holds, each counted each time it is reached (what is shared counts as often as it is met; a slice's spare places count too). A statement '..UptoSaid' is the law's where the arguments, and the package variables that the reading takes, are together of bulk at most 1048576: NARROWER than '..Said'. Prove '..Said' where nothing that the law and all that it calls make is longer than what came in: it says more and counts as full. Else prove '..UptoSaid'. A law counts once. -/
mutual
def uptoBulk {H : Type} : DataW H → Nat
  | .lit (.string bytes) => bytes.length + 1
  | .lit _ => 1
  | .nil => 1
  | .ptr d => uptoBulk d + 1
  | .slice elems spare => uptoBulkAll elems + uptoBulkAll spare + 1
  | .agg parts => uptoBulkAll parts + 1
  | .iface _ d => uptoBulk d + 1
  | .map entries => uptoBulkEntries entries + 1
  | .held _ => 1
def uptoBulkAll {H : Type} : List (DataW H) → Nat
  | [] => 0
  | d :: r => uptoBulk d + uptoBulkAll r
def uptoBulkEntries {H : Type} : List (Lit × DataW H) → Nat
  | [] => 0
  | x :: r => uptoBulkEntry x + uptoBulkEntries r
def uptoBulkEntry {H : Type} : Lit × DataW H → Nat
  | (.string bytes, d) => bytes.length + uptoBulk d + 1
  | (_, d) => uptoBulk d + 1
 end
def uptoSmall : (H : Type) → List (DataW H) → Bool := fun _ ds => decide (uptoBulkAll ds ≤ 1048576)
def OpenSpec.upto (s : _root_.Go.ChangeSpec) : _root_.Go.OpenSpec := { _root_.Go.OpenSpec.ofChange s with cond := some uptoSmall }

/-- 'interregnumlaw17.BucketPlays', WHERE WHAT IT READS IS OF BULK AT MOST 1048576: true; the input reads as it did. -/
def bucketPlaysUptoRow : OpenClaim := { program := "ytcmjinkfgbadoaa", sum := "79253d4c13350151a8658865dc345a9a49d73a0012fa7535a8224c9cd9999a5d", func := "interregnum/interregnumlaw17.BucketPlays", spec := "bucketPlays", recurses := true, apart := false, narrowed := true }
def BucketPlaysUptoSaid : Prop := bucketPlaysUptoRow.holds Try.pinned (OpenSpec.upto bucketPlaysSpec)

/-- 'interregnumlaw17.BucketOrder', WHERE WHAT IT READS IS OF BULK AT MOST 1048576: true; the input reads as it did. -/
def bucketOrderUptoRow : OpenClaim := { program := "ytcmjinkfgbadoaa", sum := "79253d4c13350151a8658865dc345a9a49d73a0012fa7535a8224c9cd9999a5d", func := "interregnum/interregnumlaw17.BucketOrder", spec := "bucketOrder", recurses := true, apart := false, narrowed := true }
def BucketOrderUptoSaid : Prop := bucketOrderUptoRow.holds Try.pinned (OpenSpec.upto bucketOrderSpec)

/-- 'interregnumlaw17.BucketMore', WHERE WHAT IT READS IS OF BULK AT MOST 1048576: true; the input reads as it did. -/
def bucketMoreUptoRow : OpenClaim := { program := "ytcmjinkfgbadoaa", sum := "79253d4c13350151a8658865dc345a9a49d73a0012fa7535a8224c9cd9999a5d", func := "interregnum/interregnumlaw17.BucketMore", spec := "bucketMore", recurses := true, apart := false, narrowed := true }
def BucketMoreUptoSaid : Prop := bucketMoreUptoRow.holds Try.pinned (OpenSpec.upto bucketMoreSpec)

/-- 'interregnumlaw14.OrderApart', WHERE WHAT IT READS IS OF BULK AT MOST 1048576: true; the input reads as it did. -/
def orderApartUptoRow : OpenClaim := { program := "ytcmjinkfgbadoaa", sum := "79253d4c13350151a8658865dc345a9a49d73a0012fa7535a8224c9cd9999a5d", func := "interregnum/interregnumlaw14.OrderApart", spec := "orderApart", unfollowed := true, recurses := true, apart := false, narrowed := true }
def OrderApartUptoSaid : Prop := orderApartUptoRow.holds Try.pinned (OpenSpec.upto orderApartSpec)

/-- 'interregnumlaw24.AgentKeeps', WHERE WHAT IT READS IS OF BULK AT MOST 1048576: true; the input reads as it did. -/
def agentKeepsUptoRow : OpenClaim := { program := "ytcmjinkfgbadoaa", sum := "79253d4c13350151a8658865dc345a9a49d73a0012fa7535a8224c9cd9999a5d", func := "interregnum/interregnumlaw24.AgentKeeps", spec := "agentKeeps", inPlace := ["internal/bytealg.IndexByteString", "internal/bytealg.IndexString"], unfollowed := true, recurses := true, named := ["internal/bytealg.MaxLen"], apart := false, narrowed := true }
def AgentKeepsUptoSaid : Prop := agentKeepsUptoRow.holds Try.pinned (OpenSpec.upto agentKeepsSpec)

end Rows
end Go.Proofs.Ytcmjinkfgbadoaa
