/- Functions, and what the code asks of them: PPdqSt3. -/
import Derived.KernelRfl
import Derived.Test.YtjlehbennimkgaaIdentLabelsP4
import Derived.Test.YtjlehbennimkgaaIdentLabelsP5
import Derived.Test.YtjlehbennimkgaaIdentLabelsP6
import Derived.Test.YtjlehbennimkgaaIdentLabelsP9
import Derived.Test.YtjlehbennimkgaaIdentLabelsP11
import Derived.Test.YtjlehbennimkgaaIdentLabelsP13
import Derived.Test.YtjlehbennimkgaaIdentLabelsP15
import Derived.Test.YtjlehbennimkgaaIdentLabelsP17
import Derived.Test.YtjlehbennimkgaaIdentLabelsP20
import Derived.Test.YtjlehbennimkgaaIdentLabelsP21
import Derived.Test.YtjlehbennimkgaaIdentLabelsP22
set_option linter.unusedVariables false
set_option linter.unusedSimpArgs false
-- slices.Sort[[]string,string]
namespace Go.Abs
open Go
def f167.args (a:List (ByteArray)):List D:=[.msl 0 1 (List.length a)]
def f167.blks (a:List (ByteArray)):List (List D):=[[.dead,.arr false 1 (List.length a) (gl aB a)]]
def f167.res (a:List (ByteArray)):List D:=[]
def f167.blks' (a:List (ByteArray)):List (List D):=[[.dead,.arr false 1 (List.length ((dN slt) a)) (gl aB ((dN slt) a))]]
def f167.C:aK:=FnC f167.args f167.blks (fun a=>lA a) f167.res f167.blks'
end Go.Abs

-- slices.pdqsortOrdered[string]
namespace Go.Abs
open Go
def f193.args (a:(List (ByteArray))×Int×Int×Int):List D:=[.msl 0 1 (List.length a.1),.int .i64 a.2.1,.int .i64 a.2.2.1,.int .i64 a.2.2.2]
def f193.blks (a:(List (ByteArray))×Int×Int×Int):List (List D):=[[.dead,.arr false 1 (List.length a.1) (gl aB a.1)]]
def f193.res (a:(List (ByteArray))×Int×Int×Int):List D:=[]
def f193.blks' (a:(List (ByteArray))×Int×Int×Int):List (List D):=[[.dead,.arr false 1 (List.length ((dK slt) a)) (gl aB ((dK slt) a))]]
def f193.rpre (n:Nat) (a:(List (ByteArray))×Int×Int×Int):Prop:=n7 a∧aCH a < n
def f193.Cn (n:Nat):aK:=FnC f193.args f193.blks (fun a=>f193.rpre n a) f193.res f193.blks'
def f193.C:aK:=FnC f193.args f193.blks (fun a=>n7 a) f193.res f193.blks'
end Go.Abs

/- slices.Sort[[]string,string] -/
namespace Go.Abs
open Go
set_option linter.unusedVariables false
def f167.kills (a:List (ByteArray)):List Hint:=[]
def f167.cuts (a:List (ByteArray)):List (Nat×Σ β:Type,β→Tm):=[(999999,⟨Unit,fun x=>⟨[],[],[]⟩⟩)]
def f167.af (a:List (ByteArray)):AF:=AF.mk (.seq (.region [oT 3 1000000 .move [0],
 oT 4 1000001 (.len false) [3],
 oT 2 1000002 .move [4]])
 (.region [oT 5 1000003 .move [0],
 oT 6 1000004 .move [2],
 oT 7 1000005 .move [2],
 oT 8 1000006 (.conv (.int .u64)) [7],
 oT 9 1000007 (.call false 194) [8],
 ⟨(some 10),1000011,(.call true 193),[.t 5,.c (.int .i64 (0)),.t 6,.t 9],none⟩]))
 [] 1 10
def f167.env:Env:=[(194,f194.C),(193,f193.C)]
def f167.tree (a:List (ByteArray)):Prop:=Let (IntKind.u64.wrap (List.length a:Int)) (fun v1:Int=>∃ c2:Int,(v1=c2)∧(dV c2)∧((List.length a)=(List.length a))∧∃ c3:(List (ByteArray))×Int×Int×Int,((List.length a)=List.length c3.1)∧((0:Int)=c3.2.1)∧((List.length a:Int)=c3.2.2.1)∧((cD c2)=c3.2.2.2)∧SlQ (List.length a) (List.length c3.1) (gl aB a) (gl aB c3.1) ((n7 c3)∧SlQ (List.length ((dK slt) c3)) (List.length ((dN slt) a)) (gl aB ((dK slt) c3)) (gl aB ((dN slt) a)) (True)))
def f167.vc (a:List (ByteArray)):Prop:=(0≤(List.length a:Int)∧(List.length a:Int)≤18446744073709551615∧(dV (List.length a:Int)∧(n7 (a,(0:Int),(List.length a:Int),(cD (List.length a:Int)))∧((List.length ((dK slt) (a,(0:Int),(List.length a:Int),(cD (List.length a:Int)))))=(List.length a)∧(((dK slt) (a,(0:Int),(List.length a:Int),(cD (List.length a:Int))))=(dN slt) a)))))
set_option maxRecDepth 100000 in
set_option maxHeartbeats 2000000 in
theorem f167.of (a:List (ByteArray)) (h:f167.vc a):f167.tree a:=wrapK.u64 h (fun h8 h9 k10=>⟨(List.length a:Int),⟨rfl,⟨k10.1,⟨rfl,⟨(a,(0:Int),(List.length a:Int),(cD (List.length a:Int))),⟨(aV (gl aB a) (Rds.self (enc:=aB))),⟨rfl,⟨rfl,⟨rfl,slQ (Rds.self (enc:=aB)) (⟨k10.2.1,iG k10.2.2 (fun (h4:(List.length ((dK slt) (a,(0:Int),(List.length a:Int),(cD (List.length a:Int)))))=(List.length a)) hk=>slQ (Rds.to (Rds.self (enc:=aB)) hk) (trivial))⟩)⟩⟩⟩⟩⟩⟩⟩⟩⟩)
theorem f167.eq (a:List (ByteArray)):(f167.af a).gives f167.env (f167.args a) (f167.blks a) (f167.res a) (f167.blks' a)=f167.tree a:=by kernel_rfl
end Go.Abs

/- slices.pdqsortOrdered[string] -/
namespace Go.Abs
open Go
set_option linter.unusedVariables false
def f193.S0 (a:(List (ByteArray))×Int×Int×Int) (x:Int×Int×Int×Bool×Bool×(List (ByteArray))):Tm:=⟨[.msl 0 1 (List.length x.2.2.2.2.2),.int .i64 x.1,.int .i64 x.2.1,.int .i64 x.2.2.1,.dead,.dead,.dead,.dead,.bool x.2.2.2.1,.bool x.2.2.2.2.1,.dead,.dead,.dead,.dead,.dead,.dead,.dead,.dead,.dead,.dead,.dead,.dead,.dead,.dead,.dead,.dead,.dead,.dead,.dead,.dead,.dead,.dead,.dead,.dead,.dead,.dead,.dead,.dead,.dead,.dead,.dead,.dead,.dead,.dead,.dead,.dead,.dead,.dead,.dead,.dead,.dead,.dead,.dead,.dead,.dead,.dead,.dead,.dead,.dead,.dead,.dead,.dead,.dead,.dead,.dead,.dead,.dead,.dead,.dead,.dead,.dead,.dead,.dead,.dead,.dead,.dead,.dead,.dead,.dead,.dead,.dead,.dead,.dead,.dead,.dead,.dead,.dead,.dead,.dead,.dead,.dead,.dead,.dead,.dead,.dead,.dead,.dead,.dead,.dead,.dead,.dead,.dead,.dead,.dead,.dead,.dead,.dead,.dead,.dead,.dead,.dead,.dead,.dead,.dead,.dead,.dead,.dead,.dead,.dead,.dead,.dead,.dead,.dead,.dead,.dead,.dead,.dead,.dead,.dead,.dead,.dead,.dead,.dead,.dead],[(0,false,[.dead,.arr false 1 (List.length x.2.2.2.2.2) (gl aB x.2.2.2.2.2)])],[]⟩
def f193.kills (a:(List (ByteArray))×Int×Int×Int):List Hint:=[.tell (Int×Int×Int×Bool×Bool×(List (ByteArray))) (f193.S0 a)]
def f193.cuts (a:(List (ByteArray))×Int×Int×Int):List (Nat×Σ β:Type,β→Tm):=[(999999,⟨Unit,fun x=>⟨[],[],[]⟩⟩),
 (100009,⟨Int×Int×Int×Bool×Bool×Int×(List (ByteArray)),fun x=>⟨[.msl 0 1 (List.length x.2.2.2.2.2.2),.int .i64 x.1,.int .i64 x.2.1,.int .i64 x.2.2.1,.dead,.dead,.dead,.dead,.bool x.2.2.2.1,.bool x.2.2.2.2.1,.int .i64 x.2.2.2.2.2.1,.dead,.dead,.dead,.dead,.dead,.dead,.dead,.dead,.dead,.dead,.dead,.dead,.dead,.dead,.dead,.dead,.dead,.dead,.dead,.dead,.dead,.dead,.dead,.dead,.dead,.dead,.dead,.dead,.dead,.dead,.dead,.dead,.dead,.dead,.dead,.dead,.dead,.dead,.dead,.dead,.dead,.dead,.dead,.dead,.dead,.dead,.dead,.dead,.dead,.dead,.dead,.dead,.dead,.dead,.dead,.dead,.dead,.dead,.dead,.dead,.dead,.dead,.dead,.dead,.dead,.dead,.dead,.dead,.dead,.dead,.dead,.dead,.dead,.dead,.dead,.dead,.dead,.dead,.dead,.dead,.dead,.dead,.dead,.dead,.dead,.dead,.dead,.dead,.dead,.dead,.dead,.dead,.dead,.dead,.dead,.dead,.dead,.dead,.dead,.dead,.dead,.dead,.dead,.dead,.dead,.dead,.dead,.dead,.dead,.dead,.dead,.dead,.dead,.dead,.dead,.dead,.dead,.dead,.dead,.dead,.dead,.dead,.dead],[(0,false,[.dead,.arr false 1 (List.length x.2.2.2.2.2.2) (gl aB x.2.2.2.2.2.2)])],[]⟩⟩),
 (100013,⟨Int×Int×Int×Bool×Bool×Int×Int×Int×(List (ByteArray)),fun x=>⟨[.msl 0 1 (List.length x.2.2.2.2.2.2.2.2),.int .i64 x.1,.int .i64 x.2.1,.int .i64 x.2.2.1,.dead,.dead,.dead,.dead,.bool x.2.2.2.1,.bool x.2.2.2.2.1,.int .i64 x.2.2.2.2.2.1,.int .i64 x.2.2.2.2.2.2.1,.int .i64 x.2.2.2.2.2.2.2.1,.dead,.dead,.dead,.dead,.dead,.dead,.dead,.dead,.dead,.dead,.dead,.dead,.dead,.dead,.dead,.dead,.dead,.dead,.dead,.dead,.dead,.dead,.dead,.dead,.dead,.dead,.dead,.dead,.dead,.dead,.dead,.dead,.dead,.dead,.dead,.dead,.dead,.dead,.dead,.dead,.dead,.dead,.dead,.dead,.dead,.dead,.dead,.dead,.dead,.dead,.dead,.dead,.dead,.dead,.dead,.dead,.dead,.dead,.dead,.dead,.dead,.dead,.dead,.dead,.dead,.dead,.dead,.dead,.dead,.dead,.dead,.dead,.dead,.dead,.dead,.dead,.dead,.dead,.dead,.dead,.dead,.dead,.dead,.dead,.dead,.dead,.dead,.dead,.dead,.dead,.dead,.dead,.dead,.dead,.dead,.dead,.dead,.dead,.dead,.dead,.dead,.dead,.dead,.dead,.dead,.dead,.dead,.dead,.dead,.dead,.dead,.dead,.dead,.dead,.dead,.dead,.dead,.dead,.dead,.dead,.dead],[(0,false,[.dead,.arr false 1 (List.length x.2.2.2.2.2.2.2.2) (gl aB x.2.2.2.2.2.2.2.2)])],[]⟩⟩),
 (100017,⟨Int×Int×Int×Bool×Bool×Int×Int×(List (ByteArray)),fun x=>⟨[.msl 0 1 (List.length x.2.2.2.2.2.2.2),.int .i64 x.1,.int .i64 x.2.1,.int .i64 x.2.2.1,.dead,.dead,.dead,.dead,.bool x.2.2.2.1,.bool x.2.2.2.2.1,.int .i64 x.2.2.2.2.2.1,.int .i64 x.2.2.2.2.2.2.1,.dead,.dead,.dead,.dead,.dead,.dead,.dead,.dead,.dead,.dead,.dead,.dead,.dead,.dead,.dead,.dead,.dead,.dead,.dead,.dead,.dead,.dead,.dead,.dead,.dead,.dead,.dead,.dead,.dead,.dead,.dead,.dead,.dead,.dead,.dead,.dead,.dead,.dead,.dead,.dead,.dead,.dead,.dead,.dead,.dead,.dead,.dead,.dead,.dead,.dead,.dead,.dead,.dead,.dead,.dead,.dead,.dead,.dead,.dead,.dead,.dead,.dead,.dead,.dead,.dead,.dead,.dead,.dead,.dead,.dead,.dead,.dead,.dead,.dead,.dead,.dead,.dead,.dead,.dead,.dead,.dead,.dead,.dead,.dead,.dead,.dead,.dead,.dead,.dead,.dead,.dead,.dead,.dead,.dead,.dead,.dead,.dead,.dead,.dead,.dead,.dead,.dead,.dead,.dead,.dead,.dead,.dead,.dead,.dead,.dead,.dead,.dead,.dead,.dead,.dead,.dead,.dead,.dead,.dead,.dead,.dead,.dead],[(0,false,[.dead,.arr false 1 (List.length x.2.2.2.2.2.2.2) (gl aB x.2.2.2.2.2.2.2)])],[]⟩⟩),
 (100020,⟨Int×Int×Int×Int×Int×(List (ByteArray)),fun x=>⟨[.msl 0 1 (List.length x.2.2.2.2.2),.int .i64 x.1,.int .i64 x.2.1,.int .i64 x.2.2.1,.dead,.dead,.dead,.dead,.dead,.dead,.int .i64 x.2.2.2.1,.int .i64 x.2.2.2.2.1,.dead,.dead,.dead,.dead,.dead,.dead,.dead,.dead,.dead,.dead,.dead,.dead,.dead,.dead,.dead,.dead,.dead,.dead,.dead,.dead,.dead,.dead,.dead,.dead,.dead,.dead,.dead,.dead,.dead,.dead,.dead,.dead,.dead,.dead,.dead,.dead,.dead,.dead,.dead,.dead,.dead,.dead,.dead,.dead,.dead,.dead,.dead,.dead,.dead,.dead,.dead,.dead,.dead,.dead,.dead,.dead,.dead,.dead,.dead,.dead,.dead,.dead,.dead,.dead,.dead,.dead,.dead,.dead,.dead,.dead,.dead,.dead,.dead,.dead,.dead,.dead,.dead,.dead,.dead,.dead,.dead,.dead,.dead,.dead,.dead,.dead,.dead,.dead,.dead,.dead,.dead,.dead,.dead,.dead,.dead,.dead,.dead,.dead,.dead,.dead,.dead,.dead,.dead,.dead,.dead,.dead,.dead,.dead,.dead,.dead,.dead,.dead,.dead,.dead,.dead,.dead,.dead,.dead,.dead,.dead,.dead,.dead],[(0,false,[.dead,.arr false 1 (List.length x.2.2.2.2.2) (gl aB x.2.2.2.2.2)])],[]⟩⟩)]
def f193.af (a:(List (ByteArray))×Int×Int×Int):AF:=AF.mk (.seq (.region [⟨(some 8),1000000,.move,[.c (.bool true)],none⟩])
 (.seq (.region [⟨(some 9),1000001,.move,[.c (.bool true)],none⟩])
 (.block 0 (.loopT (Int×Int×Int×Bool×Bool×(List (ByteArray))) (f193.S0 a) 1000002 1000168 (.block 1 (.seq (.region [oT 19 1000002 .move [2],
 oT 20 1000003 .move [1],
 oT 21 1000004 (.bin .sub) [19,20],
 oT 10 1000005 .move [21]])
 (.seq (.seq (.region [oT 22 1000006 .move [10],
 ⟨(some 23),1000007,(.bin .leq),[.t 22,.c (.int .i64 (12))],none⟩])
 (.cond (.t 23) (.seq (.region [oT 24 1000008 .move [0],
 oT 25 1000009 .move [1],
 oT 26 1000010 .move [2],
 oT 27 1000011 (.call true 211) [24,25,26]])
 (.ret)) (.skip)))
 (.seq (.seq (.region [oT 28 1000015 .move [3],
 ⟨(some 29),1000016,(.bin .eql),[.t 28,.c (.int .i64 (0))],none⟩])
 (.cond (.t 29) (.seq (.region [oT 30 1000017 .move [0],
 oT 31 1000018 .move [1],
 oT 32 1000019 .move [2],
 oT 33 1000020 (.call true 212) [30,31,32]])
 (.ret)) (.skip)))
 (.joinT (Int×Int×Int×Bool×Bool×Int×(List (ByteArray))) (fun x=>⟨[.msl 0 1 (List.length x.2.2.2.2.2.2),.int .i64 x.1,.int .i64 x.2.1,.int .i64 x.2.2.1,.dead,.dead,.dead,.dead,.bool x.2.2.2.1,.bool x.2.2.2.2.1,.int .i64 x.2.2.2.2.2.1,.dead,.dead,.dead,.dead,.dead,.dead,.dead,.dead,.dead,.dead,.dead,.dead,.dead,.dead,.dead,.dead,.dead,.dead,.dead,.dead,.dead,.dead,.dead,.dead,.dead,.dead,.dead,.dead,.dead,.dead,.dead,.dead,.dead,.dead,.dead,.dead,.dead,.dead,.dead,.dead,.dead,.dead,.dead,.dead,.dead,.dead,.dead,.dead,.dead,.dead,.dead,.dead,.dead,.dead,.dead,.dead,.dead,.dead,.dead,.dead,.dead,.dead,.dead,.dead,.dead,.dead,.dead,.dead,.dead,.dead,.dead,.dead,.dead,.dead,.dead,.dead,.dead,.dead,.dead,.dead,.dead,.dead,.dead,.dead,.dead,.dead,.dead,.dead,.dead,.dead,.dead,.dead,.dead,.dead,.dead,.dead,.dead,.dead,.dead,.dead,.dead,.dead,.dead,.dead,.dead,.dead,.dead,.dead,.dead,.dead,.dead,.dead,.dead,.dead,.dead,.dead,.dead,.dead,.dead,.dead,.dead,.dead,.dead],[(0,false,[.dead,.arr false 1 (List.length x.2.2.2.2.2.2) (gl aB x.2.2.2.2.2.2)])],[]⟩) (.seq (.region [oT 34 1000024 .move [8],
 oT 35 1000025 (.un .not) [34]])
 (.cond (.t 35) (.seq (.region [oT 36 1000026 .move [0],
 oT 37 1000027 .move [1],
 oT 38 1000028 .move [2],
 oT 39 1000029 (.call true 213) [36,37,38]])
 (.region [oT 40 1000033 .move [3],
 ⟨(some 41),1000034,(.bin .sub),[.t 40,.c (.int .i64 (1))],none⟩,
 oT 3 1000035 .move [41]])) (.skip)))
 (.seq (.region [oT 43 1000036 .move [0],
 oT 44 1000037 .move [1],
 oT 45 1000038 .move [2],
 oT 46 1000039 (.call true 214) [43,44,45],
 oT 42 1000043 .move [46],
 oT 47 1000044 (.extract 0) [42],
 oT 48 1000045 (.extract 1) [42],
 oT 11 1000046 .move [47],
 oT 12 1000047 .move [48]])
 (.joinT (Int×Int×Int×Bool×Bool×Int×Int×Int×(List (ByteArray))) (fun x=>⟨[.msl 0 1 (List.length x.2.2.2.2.2.2.2.2),.int .i64 x.1,.int .i64 x.2.1,.int .i64 x.2.2.1,.dead,.dead,.dead,.dead,.bool x.2.2.2.1,.bool x.2.2.2.2.1,.int .i64 x.2.2.2.2.2.1,.int .i64 x.2.2.2.2.2.2.1,.int .i64 x.2.2.2.2.2.2.2.1,.dead,.dead,.dead,.dead,.dead,.dead,.dead,.dead,.dead,.dead,.dead,.dead,.dead,.dead,.dead,.dead,.dead,.dead,.dead,.dead,.dead,.dead,.dead,.dead,.dead,.dead,.dead,.dead,.dead,.dead,.dead,.dead,.dead,.dead,.dead,.dead,.dead,.dead,.dead,.dead,.dead,.dead,.dead,.dead,.dead,.dead,.dead,.dead,.dead,.dead,.dead,.dead,.dead,.dead,.dead,.dead,.dead,.dead,.dead,.dead,.dead,.dead,.dead,.dead,.dead,.dead,.dead,.dead,.dead,.dead,.dead,.dead,.dead,.dead,.dead,.dead,.dead,.dead,.dead,.dead,.dead,.dead,.dead,.dead,.dead,.dead,.dead,.dead,.dead,.dead,.dead,.dead,.dead,.dead,.dead,.dead,.dead,.dead,.dead,.dead,.dead,.dead,.dead,.dead,.dead,.dead,.dead,.dead,.dead,.dead,.dead,.dead,.dead,.dead,.dead,.dead,.dead,.dead,.dead,.dead,.dead],[(0,false,[.dead,.arr false 1 (List.length x.2.2.2.2.2.2.2.2) (gl aB x.2.2.2.2.2.2.2.2)])],[]⟩) (.seq (.region [oT 49 1000048 .move [12],
 ⟨(some 50),1000049,(.bin .eql),[.t 49,.c (.int .i64 (2))],none⟩])
 (.cond (.t 50) (.seq (.region [oT 51 1000050 .move [0],
 oT 52 1000051 .move [1],
 oT 53 1000052 .move [2],
 oT 54 1000053 (.call true 215) [51,52,53]])
 (.seq (.region [oT 55 1000057 .move [2],
 ⟨(some 56),1000058,(.bin .sub),[.t 55,.c (.int .i64 (1))],none⟩,
 oT 57 1000059 .move [11],
 oT 58 1000060 .move [1],
 oT 59 1000061 (.bin .sub) [57,58],
 oT 60 1000062 (.bin .sub) [56,59],
 oT 11 1000063 .move [60]])
 (.region [⟨(some 12),1000064,.move,[.c (.int .i64 (1))],none⟩]))) (.skip)))
 (.joinT (Int×Int×Int×Bool×Bool×Int×Int×(List (ByteArray))) (fun x=>⟨[.msl 0 1 (List.length x.2.2.2.2.2.2.2),.int .i64 x.1,.int .i64 x.2.1,.int .i64 x.2.2.1,.dead,.dead,.dead,.dead,.bool x.2.2.2.1,.bool x.2.2.2.2.1,.int .i64 x.2.2.2.2.2.1,.int .i64 x.2.2.2.2.2.2.1,.dead,.dead,.dead,.dead,.dead,.dead,.dead,.dead,.dead,.dead,.dead,.dead,.dead,.dead,.dead,.dead,.dead,.dead,.dead,.dead,.dead,.dead,.dead,.dead,.dead,.dead,.dead,.dead,.dead,.dead,.dead,.dead,.dead,.dead,.dead,.dead,.dead,.dead,.dead,.dead,.dead,.dead,.dead,.dead,.dead,.dead,.dead,.dead,.dead,.dead,.dead,.dead,.dead,.dead,.dead,.dead,.dead,.dead,.dead,.dead,.dead,.dead,.dead,.dead,.dead,.dead,.dead,.dead,.dead,.dead,.dead,.dead,.dead,.dead,.dead,.dead,.dead,.dead,.dead,.dead,.dead,.dead,.dead,.dead,.dead,.dead,.dead,.dead,.dead,.dead,.dead,.dead,.dead,.dead,.dead,.dead,.dead,.dead,.dead,.dead,.dead,.dead,.dead,.dead,.dead,.dead,.dead,.dead,.dead,.dead,.dead,.dead,.dead,.dead,.dead,.dead,.dead,.dead,.dead,.dead,.dead,.dead],[(0,false,[.dead,.arr false 1 (List.length x.2.2.2.2.2.2.2) (gl aB x.2.2.2.2.2.2.2)])],[]⟩) (.seq (.region [oT 61 1000065 .move [8],
 oT 62 1000066 .move [61],
 oG 63 1000067 .move [9] 62 true,
 ⟨(some 64),1000068,.pick,[.t 62,.t 63,.c (.bool false)],none⟩,
 oT 65 1000069 .move [64],
 oG 66 1000070 .move [12] 65 true,
 ⟨(some 67),1000071,(.bin .eql),[.t 66,.c (.int .i64 (1))],(some (65,true))⟩,
 ⟨(some 68),1000072,.pick,[.t 65,.t 67,.c (.bool false)],none⟩])
 (.cond (.t 68) (.seq (.region [oT 69 1000073 .move [0],
 oT 70 1000074 .move [1],
 oT 71 1000075 .move [2],
 oT 72 1000076 (.call true 216) [69,70,71]])
 (.cond (.t 72) (.ret) (.skip))) (.skip)))
 (.joinT (Int×Int×Int×Int×Int×(List (ByteArray))) (fun x=>⟨[.msl 0 1 (List.length x.2.2.2.2.2),.int .i64 x.1,.int .i64 x.2.1,.int .i64 x.2.2.1,.dead,.dead,.dead,.dead,.dead,.dead,.int .i64 x.2.2.2.1,.int .i64 x.2.2.2.2.1,.dead,.dead,.dead,.dead,.dead,.dead,.dead,.dead,.dead,.dead,.dead,.dead,.dead,.dead,.dead,.dead,.dead,.dead,.dead,.dead,.dead,.dead,.dead,.dead,.dead,.dead,.dead,.dead,.dead,.dead,.dead,.dead,.dead,.dead,.dead,.dead,.dead,.dead,.dead,.dead,.dead,.dead,.dead,.dead,.dead,.dead,.dead,.dead,.dead,.dead,.dead,.dead,.dead,.dead,.dead,.dead,.dead,.dead,.dead,.dead,.dead,.dead,.dead,.dead,.dead,.dead,.dead,.dead,.dead,.dead,.dead,.dead,.dead,.dead,.dead,.dead,.dead,.dead,.dead,.dead,.dead,.dead,.dead,.dead,.dead,.dead,.dead,.dead,.dead,.dead,.dead,.dead,.dead,.dead,.dead,.dead,.dead,.dead,.dead,.dead,.dead,.dead,.dead,.dead,.dead,.dead,.dead,.dead,.dead,.dead,.dead,.dead,.dead,.dead,.dead,.dead,.dead,.dead,.dead,.dead,.dead,.dead],[(0,false,[.dead,.arr false 1 (List.length x.2.2.2.2.2) (gl aB x.2.2.2.2.2)])],[]⟩) (.seq (.region [oT 73 1000080 .move [1],
 ⟨(some 74),1000081,(.bin .gtr),[.t 73,.c (.int .i64 (0))],none⟩,
 oT 75 1000082 .move [74],
 oG 76 1000083 .move [0] 75 true,
 oG 77 1000084 .move [1] 75 true,
 ⟨(some 78),1000085,(.bin .sub),[.t 77,.c (.int .i64 (1))],(some (75,true))⟩,
 oG 79 1000086 (.indexAddr 1 none) [76,78] 75 true,
 oG 80 1000087 (.load false 1) [79] 75 true,
 oG 81 1000088 .move [0] 75 true,
 oG 82 1000089 .move [11] 75 true,
 oG 83 1000090 (.indexAddr 1 none) [81,82] 75 true,
 oG 84 1000091 (.load false 1) [83] 75 true,
 oG 85 1000092 (.call false 217) [80,84] 75 true,
 oG 86 1000096 (.un .not) [85] 75 true,
 ⟨(some 87),1000097,.pick,[.t 75,.t 86,.c (.bool false)],none⟩])
 (.cond (.t 87) (.seq (.region [oT 88 1000098 .move [0],
 oT 89 1000099 .move [1],
 oT 90 1000100 .move [2],
 oT 91 1000101 .move [11],
 oT 92 1000102 (.call true 218) [88,89,90,91],
 oT 13 1000106 .move [92]])
 (.seq (.region [oT 93 1000107 .move [13],
 oT 1 1000108 .move [93]])
 (.exit 1))) (.skip)))
 (.seq (.region [oT 95 1000109 .move [0],
 oT 96 1000110 .move [1],
 oT 97 1000111 .move [2],
 oT 98 1000112 .move [11],
 oT 99 1000113 (.call true 219) [95,96,97,98],
 oT 94 1000117 .move [99],
 oT 100 1000118 (.extract 0) [94],
 oT 101 1000119 (.extract 1) [94],
 oT 14 1000120 .move [100],
 oT 15 1000121 .move [101]])
 (.seq (.region [oT 102 1000122 .move [15],
 oT 9 1000123 .move [102]])
 (.seq (.region [oT 103 1000124 .move [14],
 oT 104 1000125 .move [1],
 oT 105 1000126 (.bin .sub) [103,104],
 oT 106 1000127 .move [2],
 oT 107 1000128 .move [14],
 oT 108 1000129 (.bin .sub) [106,107],
 oT 16 1000130 .move [105],
 oT 17 1000131 .move [108]])
 (.seq (.region [oT 109 1000132 .move [10],
 ⟨(some 110),1000133,(.bin .quo),[.t 109,.c (.int .i64 (8))],none⟩,
 oT 18 1000134 .move [110]])
 (.seq (.region [oT 111 1000135 .move [16],
 oT 112 1000136 .move [17],
 oT 113 1000137 (.bin .lss) [111,112]])
 (.cond (.t 113) (.seq (.region [oT 114 1000138 .move [16],
 oT 115 1000139 .move [18],
 oT 116 1000140 (.bin .geq) [114,115],
 oT 8 1000141 .move [116]])
 (.seq (.region [oT 117 1000142 .move [0],
 oT 118 1000143 .move [1],
 oT 119 1000144 .move [14],
 oT 120 1000145 .move [3],
 oT 121 1000146 (.call true 193) [117,118,119,120]])
 (.region [oT 122 1000150 .move [14],
 ⟨(some 123),1000151,(.bin .add),[.t 122,.c (.int .i64 (1))],none⟩,
 oT 1 1000152 .move [123]]))) (.seq (.region [oT 124 1000153 .move [17],
 oT 125 1000154 .move [18],
 oT 126 1000155 (.bin .geq) [124,125],
 oT 8 1000156 .move [126]])
 (.seq (.region [oT 127 1000157 .move [0],
 oT 128 1000158 .move [14],
 ⟨(some 129),1000159,(.bin .add),[.t 128,.c (.int .i64 (1))],none⟩,
 oT 130 1000160 .move [2],
 oT 131 1000161 .move [3],
 oT 132 1000162 (.call true 193) [127,129,130,131]])
 (.region [oT 133 1000166 .move [14],
 oT 2 1000167 .move [133]]))))))))))))))))))))))
 [] 1 130
def f193.env (n:Nat):Env:=[(193,f193.Cn n),(211,f211.C),(212,f212.C),(213,f213.C),(214,f214.C),(215,f215.C),(216,f216.C),(217,f217.C),(218,f218.C),(219,f219.C)]
def f193.tree (a:(List (ByteArray))×Int×Int×Int) (n:Nat):Prop:=∃ (I2:(Int×Int×Int×Bool×Bool×(List (ByteArray)))→Prop) (μ3:(Int×Int×Int×Bool×Bool×(List (ByteArray)))→Nat),(∃ x1:Int×Int×Int×Bool×Bool×(List (ByteArray)),((List.length a.1)=(List.length x1.2.2.2.2.2))∧(a.2.1=x1.1)∧(a.2.2.1=x1.2.1)∧(a.2.2.2=x1.2.2.1)∧(true=x1.2.2.2.1)∧(true=x1.2.2.2.2.1)∧SlQ (List.length a.1) (List.length x1.2.2.2.2.2) (gl aB a.1) (gl aB x1.2.2.2.2.2) (I2 x1))∧∀ y4:Int×Int×Int×Bool×Bool×(List (ByteArray)),I2 y4→(Let (IntKind.i64.wrap (y4.2.1 - y4.1)) (fun v5:Int=>Br (decide (v5≤(12:Int))) (((List.length y4.2.2.2.2.2)=(List.length y4.2.2.2.2.2))∧∃ c8:(List (ByteArray))×Int×Int,((List.length y4.2.2.2.2.2)=List.length c8.1)∧(y4.1=c8.2.1)∧(y4.2.1=c8.2.2)∧SlQ (List.length y4.2.2.2.2.2) (List.length c8.1) (gl aB y4.2.2.2.2.2) (gl aB c8.1) ((fM c8)∧SlQ (List.length ((rH slt) c8)) (List.length ((dK slt) a)) (gl aB ((rH slt) c8)) (gl aB ((dK slt) a)) (True))) (Br (y4.2.2.1==(0:Int)) (((List.length y4.2.2.2.2.2)=(List.length y4.2.2.2.2.2))∧∃ c14:(List (ByteArray))×Int×Int,((List.length y4.2.2.2.2.2)=List.length c14.1)∧(y4.1=c14.2.1)∧(y4.2.1=c14.2.2)∧SlQ (List.length y4.2.2.2.2.2) (List.length c14.1) (gl aB y4.2.2.2.2.2) (gl aB c14.1) ((eL c14)∧SlQ (List.length ((kO slt) c14)) (List.length ((dK slt) a)) (gl aB ((kO slt) c14)) (gl aB ((dK slt) a)) (True))) (∃ I18:(Int×Int×Int×Bool×Bool×Int×(List (ByteArray)))→Prop,(Br (!y4.2.2.2.1) (((List.length y4.2.2.2.2.2)=(List.length y4.2.2.2.2.2))∧∃ c21:(List (ByteArray))×Int×Int,((List.length y4.2.2.2.2.2)=List.length c21.1)∧(y4.1=c21.2.1)∧(y4.2.1=c21.2.2)∧SlQ (List.length y4.2.2.2.2.2) (List.length c21.1) (gl aB y4.2.2.2.2.2) (gl aB c21.1) ((fM c21)∧Let (IntKind.i64.wrap (y4.2.2.1 - (1:Int))) (fun v23:Int=>∃ x24:Int×Int×Int×Bool×Bool×Int×(List (ByteArray)),((List.length y4.2.2.2.2.2)=(List.length x24.2.2.2.2.2.2))∧(y4.1=x24.1)∧(y4.2.1=x24.2.1)∧(v23=x24.2.2.1)∧(y4.2.2.2.1=x24.2.2.2.1)∧(y4.2.2.2.2.1=x24.2.2.2.2.1)∧(v5=x24.2.2.2.2.2.1)∧SlQ (List.length (dT c21)) (List.length x24.2.2.2.2.2.2) (gl aB (dT c21)) (gl aB x24.2.2.2.2.2.2) (I18 x24)))) (∃ x29:Int×Int×Int×Bool×Bool×Int×(List (ByteArray)),((List.length y4.2.2.2.2.2)=(List.length x29.2.2.2.2.2.2))∧(y4.1=x29.1)∧(y4.2.1=x29.2.1)∧(y4.2.2.1=x29.2.2.1)∧(y4.2.2.2.1=x29.2.2.2.1)∧(y4.2.2.2.2.1=x29.2.2.2.2.1)∧(v5=x29.2.2.2.2.2.1)∧SlQ (List.length y4.2.2.2.2.2) (List.length x29.2.2.2.2.2.2) (gl aB y4.2.2.2.2.2) (gl aB x29.2.2.2.2.2.2) (I18 x29)))∧∀ y32:Int×Int×Int×Bool×Bool×Int×(List (ByteArray)),I18 y32→(((List.length y32.2.2.2.2.2.2)=(List.length y32.2.2.2.2.2.2))∧∃ c35:(List (ByteArray))×Int×Int,((List.length y32.2.2.2.2.2.2)=List.length c35.1)∧(y32.1=c35.2.1)∧(y32.2.1=c35.2.2)∧SlQ (List.length y32.2.2.2.2.2.2) (List.length c35.1) (gl aB y32.2.2.2.2.2.2) (gl aB c35.1) ((eL c35)∧∃ I37:(Int×Int×Int×Bool×Bool×Int×Int×Int×(List (ByteArray)))→Prop,(Br ((((aQ slt) c35).2.1)==(2:Int)) (((List.length y32.2.2.2.2.2.2)=(List.length (((aQ slt) c35).2.2)))∧∃ c40:(List (ByteArray))×Int×Int,((List.length y32.2.2.2.2.2.2)=List.length c40.1)∧(y32.1=c40.2.1)∧(y32.2.1=c40.2.2)∧SlQ (List.length (((aQ slt) c35).2.2)) (List.length c40.1) (gl aB (((aQ slt) c35).2.2)) (gl aB c40.1) ((fM c40)∧Let (IntKind.i64.wrap (y32.2.1 - (1:Int))) (fun v42:Int=>Let (IntKind.i64.wrap ((((aQ slt) c35).1) - y32.1)) (fun v43:Int=>Let (IntKind.i64.wrap (v42 - v43)) (fun v44:Int=>∃ x45:Int×Int×Int×Bool×Bool×Int×Int×Int×(List (ByteArray)),((List.length y32.2.2.2.2.2.2)=(List.length x45.2.2.2.2.2.2.2.2))∧(y32.1=x45.1)∧(y32.2.1=x45.2.1)∧(y32.2.2.1=x45.2.2.1)∧(y32.2.2.2.1=x45.2.2.2.1)∧(y32.2.2.2.2.1=x45.2.2.2.2.1)∧(y32.2.2.2.2.2.1=x45.2.2.2.2.2.1)∧(v44=x45.2.2.2.2.2.2.1)∧((1:Int)=x45.2.2.2.2.2.2.2.1)∧SlQ (List.length (pO c40)) (List.length x45.2.2.2.2.2.2.2.2) (gl aB (pO c40)) (gl aB x45.2.2.2.2.2.2.2.2) (I37 x45)))))) (∃ x56:Int×Int×Int×Bool×Bool×Int×Int×Int×(List (ByteArray)),((List.length y32.2.2.2.2.2.2)=(List.length x56.2.2.2.2.2.2.2.2))∧(y32.1=x56.1)∧(y32.2.1=x56.2.1)∧(y32.2.2.1=x56.2.2.1)∧(y32.2.2.2.1=x56.2.2.2.1)∧(y32.2.2.2.2.1=x56.2.2.2.2.1)∧(y32.2.2.2.2.2.1=x56.2.2.2.2.2.1)∧((((aQ slt) c35).1)=x56.2.2.2.2.2.2.1)∧((((aQ slt) c35).2.1)=x56.2.2.2.2.2.2.2.1)∧SlQ (List.length (((aQ slt) c35).2.2)) (List.length x56.2.2.2.2.2.2.2.2) (gl aB (((aQ slt) c35).2.2)) (gl aB x56.2.2.2.2.2.2.2.2) (I37 x56)))∧∀ y59:Int×Int×Int×Bool×Bool×Int×Int×Int×(List (ByteArray)),I37 y59→(∃ I62:(Int×Int×Int×Bool×Bool×Int×Int×(List (ByteArray)))→Prop,(Br y59.2.2.2.1 (Br y59.2.2.2.2.1 (Br (y59.2.2.2.2.2.2.2.1==(1:Int)) (((List.length y59.2.2.2.2.2.2.2.2)=(List.length y59.2.2.2.2.2.2.2.2))∧∃ c69:(List (ByteArray))×Int×Int,((List.length y59.2.2.2.2.2.2.2.2)=List.length c69.1)∧(y59.1=c69.2.1)∧(y59.2.1=c69.2.2)∧SlQ (List.length y59.2.2.2.2.2.2.2.2) (List.length c69.1) (gl aB y59.2.2.2.2.2.2.2.2) (gl aB c69.1) ((eL c69)∧Br (((bD slt) c69).1) (SlQ (List.length (((bD slt) c69).2)) (List.length ((dK slt) a)) (gl aB (((bD slt) c69).2)) (gl aB ((dK slt) a)) (True)) (∃ x74:Int×Int×Int×Bool×Bool×Int×Int×(List (ByteArray)),((List.length y59.2.2.2.2.2.2.2.2)=(List.length x74.2.2.2.2.2.2.2))∧(y59.1=x74.1)∧(y59.2.1=x74.2.1)∧(y59.2.2.1=x74.2.2.1)∧(y59.2.2.2.1=x74.2.2.2.1)∧(y59.2.2.2.2.1=x74.2.2.2.2.1)∧(y59.2.2.2.2.2.1=x74.2.2.2.2.2.1)∧(y59.2.2.2.2.2.2.1=x74.2.2.2.2.2.2.1)∧SlQ (List.length (((bD slt) c69).2)) (List.length x74.2.2.2.2.2.2.2) (gl aB (((bD slt) c69).2)) (gl aB x74.2.2.2.2.2.2.2) (I62 x74)))) (∃ x78:Int×Int×Int×Bool×Bool×Int×Int×(List (ByteArray)),((List.length y59.2.2.2.2.2.2.2.2)=(List.length x78.2.2.2.2.2.2.2))∧(y59.1=x78.1)∧(y59.2.1=x78.2.1)∧(y59.2.2.1=x78.2.2.1)∧(y59.2.2.2.1=x78.2.2.2.1)∧(y59.2.2.2.2.1=x78.2.2.2.2.1)∧(y59.2.2.2.2.2.1=x78.2.2.2.2.2.1)∧(y59.2.2.2.2.2.2.1=x78.2.2.2.2.2.2.1)∧SlQ (List.length y59.2.2.2.2.2.2.2.2) (List.length x78.2.2.2.2.2.2.2) (gl aB y59.2.2.2.2.2.2.2.2) (gl aB x78.2.2.2.2.2.2.2) (I62 x78))) (∃ x81:Int×Int×Int×Bool×Bool×Int×Int×(List (ByteArray)),((List.length y59.2.2.2.2.2.2.2.2)=(List.length x81.2.2.2.2.2.2.2))∧(y59.1=x81.1)∧(y59.2.1=x81.2.1)∧(y59.2.2.1=x81.2.2.1)∧(y59.2.2.2.1=x81.2.2.2.1)∧(y59.2.2.2.2.1=x81.2.2.2.2.1)∧(y59.2.2.2.2.2.1=x81.2.2.2.2.2.1)∧(y59.2.2.2.2.2.2.1=x81.2.2.2.2.2.2.1)∧SlQ (List.length y59.2.2.2.2.2.2.2.2) (List.length x81.2.2.2.2.2.2.2) (gl aB y59.2.2.2.2.2.2.2.2) (gl aB x81.2.2.2.2.2.2.2) (I62 x81))) (∃ x84:Int×Int×Int×Bool×Bool×Int×Int×(List (ByteArray)),((List.length y59.2.2.2.2.2.2.2.2)=(List.length x84.2.2.2.2.2.2.2))∧(y59.1=x84.1)∧(y59.2.1=x84.2.1)∧(y59.2.2.1=x84.2.2.1)∧(y59.2.2.2.1=x84.2.2.2.1)∧(y59.2.2.2.2.1=x84.2.2.2.2.1)∧(y59.2.2.2.2.2.1=x84.2.2.2.2.2.1)∧(y59.2.2.2.2.2.2.1=x84.2.2.2.2.2.2.1)∧SlQ (List.length y59.2.2.2.2.2.2.2.2) (List.length x84.2.2.2.2.2.2.2) (gl aB y59.2.2.2.2.2.2.2.2) (gl aB x84.2.2.2.2.2.2.2) (I62 x84)))∧∀ y87:Int×Int×Int×Bool×Bool×Int×Int×(List (ByteArray)),I62 y87→(∃ I90:(Int×Int×Int×Int×Int×(List (ByteArray)))→Prop,(Br (decide ((0:Int) < y87.1)) (Let (IntKind.i64.wrap (y87.1 - (1:Int))) (fun v93:Int=>Br (decide ((0:Int)≤v93)&&decide (v93 < (List.length y87.2.2.2.2.2.2.2:Int))) (((List.length y87.2.2.2.2.2.2.2)=(List.length y87.2.2.2.2.2.2.2))∧(Br (decide ((0:Int)≤y87.2.2.2.2.2.2.1)&&decide (y87.2.2.2.2.2.2.1 < (List.length y87.2.2.2.2.2.2.2:Int))) (((List.length y87.2.2.2.2.2.2.2)=(List.length y87.2.2.2.2.2.2.2))∧(∃ c96:ByteArray×ByteArray,((at_ y87.2.2.2.2.2.2.2 v93)=c96.1)∧((at_ y87.2.2.2.2.2.2.2 y87.2.2.2.2.2.2.1)=c96.2)∧True∧Br (!(bN c96)) (((List.length y87.2.2.2.2.2.2.2)=(List.length y87.2.2.2.2.2.2.2))∧∃ c99:(List (ByteArray))×Int×Int×Int,((List.length y87.2.2.2.2.2.2.2)=List.length c99.1)∧(y87.1=c99.2.1)∧(y87.2.1=c99.2.2.1)∧(y87.2.2.2.2.2.2.1=c99.2.2.2)∧SlQ (List.length y87.2.2.2.2.2.2.2) (List.length c99.1) (gl aB y87.2.2.2.2.2.2.2) (gl aB c99.1) ((gG c99)∧∃ x101:Int×Int×Int×Bool×Bool×(List (ByteArray)),((List.length y87.2.2.2.2.2.2.2)=(List.length x101.2.2.2.2.2))∧((((cJ slt) c99).1)=x101.1)∧(y87.2.1=x101.2.1)∧(y87.2.2.1=x101.2.2.1)∧(y87.2.2.2.1=x101.2.2.2.1)∧(y87.2.2.2.2.1=x101.2.2.2.2.1)∧SlQ (List.length (((cJ slt) c99).2)) (List.length x101.2.2.2.2.2) (gl aB (((cJ slt) c99).2)) (gl aB x101.2.2.2.2.2) (I2 x101∧μ3 x101 < μ3 y4))) (∃ x104:Int×Int×Int×Int×Int×(List (ByteArray)),((List.length y87.2.2.2.2.2.2.2)=(List.length x104.2.2.2.2.2))∧(y87.1=x104.1)∧(y87.2.1=x104.2.1)∧(y87.2.2.1=x104.2.2.1)∧(y87.2.2.2.2.2.1=x104.2.2.2.1)∧(y87.2.2.2.2.2.2.1=x104.2.2.2.2.1)∧SlQ (List.length y87.2.2.2.2.2.2.2) (List.length x104.2.2.2.2.2) (gl aB y87.2.2.2.2.2.2.2) (gl aB x104.2.2.2.2.2) (I90 x104)))) False)) False)) (∃ x113:Int×Int×Int×Int×Int×(List (ByteArray)),((List.length y87.2.2.2.2.2.2.2)=(List.length x113.2.2.2.2.2))∧(y87.1=x113.1)∧(y87.2.1=x113.2.1)∧(y87.2.2.1=x113.2.2.1)∧(y87.2.2.2.2.2.1=x113.2.2.2.1)∧(y87.2.2.2.2.2.2.1=x113.2.2.2.2.1)∧SlQ (List.length y87.2.2.2.2.2.2.2) (List.length x113.2.2.2.2.2) (gl aB y87.2.2.2.2.2.2.2) (gl aB x113.2.2.2.2.2) (I90 x113)))∧∀ y116:Int×Int×Int×Int×Int×(List (ByteArray)),I90 y116→(((List.length y116.2.2.2.2.2)=(List.length y116.2.2.2.2.2))∧∃ c119:(List (ByteArray))×Int×Int×Int,((List.length y116.2.2.2.2.2)=List.length c119.1)∧(y116.1=c119.2.1)∧(y116.2.1=c119.2.2.1)∧(y116.2.2.2.2.1=c119.2.2.2)∧SlQ (List.length y116.2.2.2.2.2) (List.length c119.1) (gl aB y116.2.2.2.2.2) (gl aB c119.1) ((gG c119)∧Let (IntKind.i64.wrap ((((aO slt) c119).1) - y116.1)) (fun v121:Int=>Let (IntKind.i64.wrap (y116.2.1 - (((aO slt) c119).1))) (fun v122:Int=>Let (IntKind.i64.wrap (Int.tdiv y116.2.2.2.1 (8:Int))) (fun v123:Int=>Br (decide (v121 < v122)) (((List.length y116.2.2.2.2.2)=(List.length (((aO slt) c119).2.2)))∧∃ c126:(List (ByteArray))×Int×Int×Int,((List.length y116.2.2.2.2.2)=List.length c126.1)∧(y116.1=c126.2.1)∧((((aO slt) c119).1)=c126.2.2.1)∧(y116.2.2.1=c126.2.2.2)∧SlQ (List.length (((aO slt) c119).2.2)) (List.length c126.1) (gl aB (((aO slt) c119).2.2)) (gl aB c126.1) ((f193.rpre n c126)∧Let (IntKind.i64.wrap ((((aO slt) c119).1)+(1:Int))) (fun v128:Int=>∃ x129:Int×Int×Int×Bool×Bool×(List (ByteArray)),((List.length y116.2.2.2.2.2)=(List.length x129.2.2.2.2.2))∧(v128=x129.1)∧(y116.2.1=x129.2.1)∧(y116.2.2.1=x129.2.2.1)∧((decide (v123≤v121))=x129.2.2.2.1)∧((((aO slt) c119).2.1)=x129.2.2.2.2.1)∧SlQ (List.length ((dK slt) c126)) (List.length x129.2.2.2.2.2) (gl aB ((dK slt) c126)) (gl aB x129.2.2.2.2.2) (I2 x129∧μ3 x129 < μ3 y4)))) (Let (IntKind.i64.wrap ((((aO slt) c119).1)+(1:Int))) (fun v135:Int=>((List.length y116.2.2.2.2.2)=(List.length (((aO slt) c119).2.2)))∧∃ nL:(List (ByteArray))×Int×Int×Int,((List.length y116.2.2.2.2.2)=List.length nL.1)∧(v135=nL.2.1)∧(y116.2.1=nL.2.2.1)∧(y116.2.2.1=nL.2.2.2)∧SlQ (List.length (((aO slt) c119).2.2)) (List.length nL.1) (gl aB (((aO slt) c119).2.2)) (gl aB nL.1) ((f193.rpre n nL)∧∃ x138:Int×Int×Int×Bool×Bool×(List (ByteArray)),((List.length y116.2.2.2.2.2)=(List.length x138.2.2.2.2.2))∧(y116.1=x138.1)∧((((aO slt) c119).1)=x138.2.1)∧(y116.2.2.1=x138.2.2.1)∧((decide (v123≤v122))=x138.2.2.2.1)∧((((aO slt) c119).2.1)=x138.2.2.2.2.1)∧SlQ (List.length ((dK slt) nL)) (List.length x138.2.2.2.2.2) (gl aB ((dK slt) nL)) (gl aB x138.2.2.2.2.2) (I2 x138∧μ3 x138 < μ3 y4)))))))))))))))))
def f193.vc (a:(List (ByteArray))×Int×Int×Int) (n:Nat):Prop:=(∃ (I2:(Int×Int×Int×Bool×Bool×(List (ByteArray)))→Prop) (μ3:(Int×Int×Int×Bool×Bool×(List (ByteArray)))→Nat),I2 (a.2.1,a.2.2.1,a.2.2.2,true,true,a.1)∧∀ y4:Int×Int×Int×Bool×Bool×(List (ByteArray)),I2 y4→(-9223372036854775808≤(y4.2.1 - y4.1)∧(y4.2.1 - y4.1)≤9223372036854775807∧(((y4.2.1 - y4.1)≤(12:Int)→(fM (y4.2.2.2.2.2,y4.1,y4.2.1)∧((List.length ((rH slt) (y4.2.2.2.2.2,y4.1,y4.2.1)))=(List.length y4.2.2.2.2.2)∧(((rH slt) (y4.2.2.2.2.2,y4.1,y4.2.1))=(dK slt) a))))∧(¬((y4.2.1 - y4.1)≤(12:Int))→((y4.2.2.1=(0:Int)→(eL (y4.2.2.2.2.2,y4.1,y4.2.1)∧((List.length ((kO slt) (y4.2.2.2.2.2,y4.1,y4.2.1)))=(List.length y4.2.2.2.2.2)∧(((kO slt) (y4.2.2.2.2.2,y4.1,y4.2.1))=(dK slt) a))))∧(¬(y4.2.2.1=(0:Int))→(∃ I18:(Int×Int×Int×Bool×Bool×Int×(List (ByteArray)))→Prop,(((¬(y4.2.2.2.1=true)→(fM (y4.2.2.2.2.2,y4.1,y4.2.1)∧((List.length (dT (y4.2.2.2.2.2,y4.1,y4.2.1)))=(List.length y4.2.2.2.2.2)∧(-9223372036854775808≤(y4.2.2.1 - (1:Int))∧(y4.2.2.1 - (1:Int))≤9223372036854775807∧(I18 (y4.1,y4.2.1,(y4.2.2.1 - (1:Int)),y4.2.2.2.1,y4.2.2.2.2.1,(y4.2.1 - y4.1),(dT (y4.2.2.2.2.2,y4.1,y4.2.1))))))))∧(¬(¬(y4.2.2.2.1=true))→(I18 (y4.1,y4.2.1,y4.2.2.1,y4.2.2.2.1,y4.2.2.2.2.1,(y4.2.1 - y4.1),y4.2.2.2.2.2)))))∧∀ y32:Int×Int×Int×Bool×Bool×Int×(List (ByteArray)),I18 y32→(eL (y32.2.2.2.2.2.2,y32.1,y32.2.1)∧((List.length (((aQ slt) (y32.2.2.2.2.2.2,y32.1,y32.2.1)).2.2))=(List.length y32.2.2.2.2.2.2)∧(∃ I37:(Int×Int×Int×Bool×Bool×Int×Int×Int×(List (ByteArray)))→Prop,((((((aQ slt) (y32.2.2.2.2.2.2,y32.1,y32.2.1)).2.1)=(2:Int)→(fM (((aQ slt) (y32.2.2.2.2.2.2,y32.1,y32.2.1)).2.2,y32.1,y32.2.1)∧((List.length (pO (((aQ slt) (y32.2.2.2.2.2.2,y32.1,y32.2.1)).2.2,y32.1,y32.2.1)))=(List.length y32.2.2.2.2.2.2)∧(-9223372036854775808≤(y32.2.1 - (1:Int))∧(y32.2.1 - (1:Int))≤9223372036854775807∧(-9223372036854775808≤((((aQ slt) (y32.2.2.2.2.2.2,y32.1,y32.2.1)).1) - y32.1)∧((((aQ slt) (y32.2.2.2.2.2.2,y32.1,y32.2.1)).1) - y32.1)≤9223372036854775807∧(-9223372036854775808≤((y32.2.1 - (1:Int)) - ((((aQ slt) (y32.2.2.2.2.2.2,y32.1,y32.2.1)).1) - y32.1))∧((y32.2.1 - (1:Int)) - ((((aQ slt) (y32.2.2.2.2.2.2,y32.1,y32.2.1)).1) - y32.1))≤9223372036854775807∧(I37 (y32.1,y32.2.1,y32.2.2.1,y32.2.2.2.1,y32.2.2.2.2.1,y32.2.2.2.2.2.1,((y32.2.1 - (1:Int)) - ((((aQ slt) (y32.2.2.2.2.2.2,y32.1,y32.2.1)).1) - y32.1)),(1:Int),(pO (((aQ slt) (y32.2.2.2.2.2.2,y32.1,y32.2.1)).2.2,y32.1,y32.2.1))))))))))∧(¬((((aQ slt) (y32.2.2.2.2.2.2,y32.1,y32.2.1)).2.1)=(2:Int))→(I37 (y32.1,y32.2.1,y32.2.2.1,y32.2.2.2.1,y32.2.2.2.2.1,y32.2.2.2.2.2.1,((aQ slt) (y32.2.2.2.2.2.2,y32.1,y32.2.1)).1,((aQ slt) (y32.2.2.2.2.2.2,y32.1,y32.2.1)).2.1,((aQ slt) (y32.2.2.2.2.2.2,y32.1,y32.2.1)).2.2)))))∧∀ y59:Int×Int×Int×Bool×Bool×Int×Int×Int×(List (ByteArray)),I37 y59→(∃ I62:(Int×Int×Int×Bool×Bool×Int×Int×(List (ByteArray)))→Prop,(((y59.2.2.2.1=true→((y59.2.2.2.2.1=true→((y59.2.2.2.2.2.2.2.1=(1:Int)→(eL (y59.2.2.2.2.2.2.2.2,y59.1,y59.2.1)∧((List.length (((bD slt) (y59.2.2.2.2.2.2.2.2,y59.1,y59.2.1)).2))=(List.length y59.2.2.2.2.2.2.2.2)∧(((((bD slt) (y59.2.2.2.2.2.2.2.2,y59.1,y59.2.1)).1)=true→(((bD slt) (y59.2.2.2.2.2.2.2.2,y59.1,y59.2.1)).2=(dK slt) a))∧(¬((((bD slt) (y59.2.2.2.2.2.2.2.2,y59.1,y59.2.1)).1)=true)→(I62 (y59.1,y59.2.1,y59.2.2.1,y59.2.2.2.1,y59.2.2.2.2.1,y59.2.2.2.2.2.1,y59.2.2.2.2.2.2.1,((bD slt) (y59.2.2.2.2.2.2.2.2,y59.1,y59.2.1)).2)))))))∧(¬(y59.2.2.2.2.2.2.2.1=(1:Int))→(I62 (y59.1,y59.2.1,y59.2.2.1,y59.2.2.2.1,y59.2.2.2.2.1,y59.2.2.2.2.2.1,y59.2.2.2.2.2.2.1,y59.2.2.2.2.2.2.2.2)))))∧(¬(y59.2.2.2.2.1=true)→(I62 (y59.1,y59.2.1,y59.2.2.1,y59.2.2.2.1,y59.2.2.2.2.1,y59.2.2.2.2.2.1,y59.2.2.2.2.2.2.1,y59.2.2.2.2.2.2.2.2)))))∧(¬(y59.2.2.2.1=true)→(I62 (y59.1,y59.2.1,y59.2.2.1,y59.2.2.2.1,y59.2.2.2.2.1,y59.2.2.2.2.2.1,y59.2.2.2.2.2.2.1,y59.2.2.2.2.2.2.2.2)))))∧∀ y87:Int×Int×Int×Bool×Bool×Int×Int×(List (ByteArray)),I62 y87→(∃ I90:(Int×Int×Int×Int×Int×(List (ByteArray)))→Prop,((((0:Int) < y87.1→(-9223372036854775808≤(y87.1 - (1:Int))∧(y87.1 - (1:Int))≤9223372036854775807∧((0:Int)≤(y87.1 - (1:Int))∧(y87.1 - (1:Int)) < (List.length y87.2.2.2.2.2.2.2:Int)∧((0:Int)≤y87.2.2.2.2.2.2.1∧y87.2.2.2.2.2.2.1 < (List.length y87.2.2.2.2.2.2.2:Int)∧((¬((bN (at_ y87.2.2.2.2.2.2.2 (y87.1 - (1:Int)),at_ y87.2.2.2.2.2.2.2 y87.2.2.2.2.2.2.1))=true)→(gG (y87.2.2.2.2.2.2.2,y87.1,y87.2.1,y87.2.2.2.2.2.2.1)∧((List.length (((cJ slt) (y87.2.2.2.2.2.2.2,y87.1,y87.2.1,y87.2.2.2.2.2.2.1)).2))=(List.length y87.2.2.2.2.2.2.2)∧(I2 (((cJ slt) (y87.2.2.2.2.2.2.2,y87.1,y87.2.1,y87.2.2.2.2.2.2.1)).1,y87.2.1,y87.2.2.1,y87.2.2.2.1,y87.2.2.2.2.1,((cJ slt) (y87.2.2.2.2.2.2.2,y87.1,y87.2.1,y87.2.2.2.2.2.2.1)).2)∧μ3 (((cJ slt) (y87.2.2.2.2.2.2.2,y87.1,y87.2.1,y87.2.2.2.2.2.2.1)).1,y87.2.1,y87.2.2.1,y87.2.2.2.1,y87.2.2.2.2.1,((cJ slt) (y87.2.2.2.2.2.2.2,y87.1,y87.2.1,y87.2.2.2.2.2.2.1)).2) < μ3 y4))))∧(¬(¬((bN (at_ y87.2.2.2.2.2.2.2 (y87.1 - (1:Int)),at_ y87.2.2.2.2.2.2.2 y87.2.2.2.2.2.2.1))=true))→(I90 (y87.1,y87.2.1,y87.2.2.1,y87.2.2.2.2.2.1,y87.2.2.2.2.2.2.1,y87.2.2.2.2.2.2.2))))))))∧(¬((0:Int) < y87.1)→(I90 (y87.1,y87.2.1,y87.2.2.1,y87.2.2.2.2.2.1,y87.2.2.2.2.2.2.1,y87.2.2.2.2.2.2.2)))))∧∀ y116:Int×Int×Int×Int×Int×(List (ByteArray)),I90 y116→(gG (y116.2.2.2.2.2,y116.1,y116.2.1,y116.2.2.2.2.1)∧((List.length (((aO slt) (y116.2.2.2.2.2,y116.1,y116.2.1,y116.2.2.2.2.1)).2.2))=(List.length y116.2.2.2.2.2)∧(-9223372036854775808≤((((aO slt) (y116.2.2.2.2.2,y116.1,y116.2.1,y116.2.2.2.2.1)).1) - y116.1)∧((((aO slt) (y116.2.2.2.2.2,y116.1,y116.2.1,y116.2.2.2.2.1)).1) - y116.1)≤9223372036854775807∧(-9223372036854775808≤(y116.2.1 - (((aO slt) (y116.2.2.2.2.2,y116.1,y116.2.1,y116.2.2.2.2.1)).1))∧(y116.2.1 - (((aO slt) (y116.2.2.2.2.2,y116.1,y116.2.1,y116.2.2.2.2.1)).1))≤9223372036854775807∧(0≤y116.2.2.2.1∧y116.2.2.2.1≤9223372036854775807∧((((((aO slt) (y116.2.2.2.2.2,y116.1,y116.2.1,y116.2.2.2.2.1)).1) - y116.1) < (y116.2.1 - (((aO slt) (y116.2.2.2.2.2,y116.1,y116.2.1,y116.2.2.2.2.1)).1))→(f193.rpre n (((aO slt) (y116.2.2.2.2.2,y116.1,y116.2.1,y116.2.2.2.2.1)).2.2,y116.1,((aO slt) (y116.2.2.2.2.2,y116.1,y116.2.1,y116.2.2.2.2.1)).1,y116.2.2.1)∧((List.length ((dK slt) (((aO slt) (y116.2.2.2.2.2,y116.1,y116.2.1,y116.2.2.2.2.1)).2.2,y116.1,((aO slt) (y116.2.2.2.2.2,y116.1,y116.2.1,y116.2.2.2.2.1)).1,y116.2.2.1)))=(List.length y116.2.2.2.2.2)∧(-9223372036854775808≤((((aO slt) (y116.2.2.2.2.2,y116.1,y116.2.1,y116.2.2.2.2.1)).1)+(1:Int))∧((((aO slt) (y116.2.2.2.2.2,y116.1,y116.2.1,y116.2.2.2.2.1)).1)+(1:Int))≤9223372036854775807∧(I2 (((((aO slt) (y116.2.2.2.2.2,y116.1,y116.2.1,y116.2.2.2.2.1)).1)+(1:Int)),y116.2.1,y116.2.2.1,decide ((y116.2.2.2.1 / (8:Int))≤((((aO slt) (y116.2.2.2.2.2,y116.1,y116.2.1,y116.2.2.2.2.1)).1) - y116.1)),((aO slt) (y116.2.2.2.2.2,y116.1,y116.2.1,y116.2.2.2.2.1)).2.1,((dK slt) (((aO slt) (y116.2.2.2.2.2,y116.1,y116.2.1,y116.2.2.2.2.1)).2.2,y116.1,((aO slt) (y116.2.2.2.2.2,y116.1,y116.2.1,y116.2.2.2.2.1)).1,y116.2.2.1)))∧μ3 (((((aO slt) (y116.2.2.2.2.2,y116.1,y116.2.1,y116.2.2.2.2.1)).1)+(1:Int)),y116.2.1,y116.2.2.1,decide ((y116.2.2.2.1 / (8:Int))≤((((aO slt) (y116.2.2.2.2.2,y116.1,y116.2.1,y116.2.2.2.2.1)).1) - y116.1)),((aO slt) (y116.2.2.2.2.2,y116.1,y116.2.1,y116.2.2.2.2.1)).2.1,((dK slt) (((aO slt) (y116.2.2.2.2.2,y116.1,y116.2.1,y116.2.2.2.2.1)).2.2,y116.1,((aO slt) (y116.2.2.2.2.2,y116.1,y116.2.1,y116.2.2.2.2.1)).1,y116.2.2.1))) < μ3 y4)))))∧(¬(((((aO slt) (y116.2.2.2.2.2,y116.1,y116.2.1,y116.2.2.2.2.1)).1) - y116.1) < (y116.2.1 - (((aO slt) (y116.2.2.2.2.2,y116.1,y116.2.1,y116.2.2.2.2.1)).1)))→(-9223372036854775808≤((((aO slt) (y116.2.2.2.2.2,y116.1,y116.2.1,y116.2.2.2.2.1)).1)+(1:Int))∧((((aO slt) (y116.2.2.2.2.2,y116.1,y116.2.1,y116.2.2.2.2.1)).1)+(1:Int))≤9223372036854775807∧(f193.rpre n (((aO slt) (y116.2.2.2.2.2,y116.1,y116.2.1,y116.2.2.2.2.1)).2.2,((((aO slt) (y116.2.2.2.2.2,y116.1,y116.2.1,y116.2.2.2.2.1)).1)+(1:Int)),y116.2.1,y116.2.2.1)∧((List.length ((dK slt) (((aO slt) (y116.2.2.2.2.2,y116.1,y116.2.1,y116.2.2.2.2.1)).2.2,((((aO slt) (y116.2.2.2.2.2,y116.1,y116.2.1,y116.2.2.2.2.1)).1)+(1:Int)),y116.2.1,y116.2.2.1)))=(List.length y116.2.2.2.2.2)∧(I2 (y116.1,((aO slt) (y116.2.2.2.2.2,y116.1,y116.2.1,y116.2.2.2.2.1)).1,y116.2.2.1,decide ((y116.2.2.2.1 / (8:Int))≤(y116.2.1 - (((aO slt) (y116.2.2.2.2.2,y116.1,y116.2.1,y116.2.2.2.2.1)).1))),((aO slt) (y116.2.2.2.2.2,y116.1,y116.2.1,y116.2.2.2.2.1)).2.1,((dK slt) (((aO slt) (y116.2.2.2.2.2,y116.1,y116.2.1,y116.2.2.2.2.1)).2.2,((((aO slt) (y116.2.2.2.2.2,y116.1,y116.2.1,y116.2.2.2.2.1)).1)+(1:Int)),y116.2.1,y116.2.2.1)))∧μ3 (y116.1,((aO slt) (y116.2.2.2.2.2,y116.1,y116.2.1,y116.2.2.2.2.1)).1,y116.2.2.1,decide ((y116.2.2.2.1 / (8:Int))≤(y116.2.1 - (((aO slt) (y116.2.2.2.2.2,y116.1,y116.2.1,y116.2.2.2.2.1)).1))),((aO slt) (y116.2.2.2.2.2,y116.1,y116.2.1,y116.2.2.2.2.1)).2.1,((dK slt) (((aO slt) (y116.2.2.2.2.2,y116.1,y116.2.1,y116.2.2.2.2.1)).2.2,((((aO slt) (y116.2.2.2.2.2,y116.1,y116.2.1,y116.2.2.2.2.1)).1)+(1:Int)),y116.2.1,y116.2.2.1))) < μ3 y4)))))))))))))))))))))))
set_option maxRecDepth 100000 in
set_option maxHeartbeats 2000000 in
theorem f193.of (a:(List (ByteArray))×Int×Int×Int) (n:Nat) (h:f193.vc a n):f193.tree a n:=Exists.elim h (fun I2 h161_=>Exists.elim h161_ (fun μ3 h161=>⟨I2,μ3,⟨(a.2.1,a.2.2.1,a.2.2.2,true,true,a.1),⟨(aV (gl aB a.1) (Rds.self (enc:=aB))),⟨rfl,⟨rfl,⟨rfl,⟨rfl,⟨rfl,slQ (Rds.self (enc:=aB)) (h161.1)⟩⟩⟩⟩⟩⟩⟩,fun y4 h163=>wrapK.i64 (h161.2 y4 h163) (fun h158 h159 k160=>br k160 Cnd.dec (fun h6 k156=>⟨rfl,⟨(y4.2.2.2.2.2,y4.1,y4.2.1),⟨(aV (gl aB y4.2.2.2.2.2) (Rds.self (enc:=aB))),⟨rfl,⟨rfl,slQ (Rds.self (enc:=aB)) (⟨k156.1,iG k156.2 (fun (h9:(List.length ((rH slt) (y4.2.2.2.2.2,y4.1,y4.2.1)))=(List.length y4.2.2.2.2.2)) hk=>slQ (Rds.to (Rds.self (enc:=aB)) hk) (trivial))⟩)⟩⟩⟩⟩⟩) (fun h7 k157=>br k157 Cnd.eq (fun h12 k154=>⟨rfl,⟨(y4.2.2.2.2.2,y4.1,y4.2.1),⟨(aV (gl aB y4.2.2.2.2.2) (Rds.self (enc:=aB))),⟨rfl,⟨rfl,slQ (Rds.self (enc:=aB)) (⟨k154.1,iG k154.2 (fun (h15:(List.length ((kO slt) (y4.2.2.2.2.2,y4.1,y4.2.1)))=(List.length y4.2.2.2.2.2)) hk=>slQ (Rds.to (Rds.self (enc:=aB)) hk) (trivial))⟩)⟩⟩⟩⟩⟩) (fun h13 k155=>Exists.elim k155 (fun I18 h34=>⟨I18,br h34.1 (Cnd.not Cnd.b) (fun h19 k30=>⟨rfl,⟨(y4.2.2.2.2.2,y4.1,y4.2.1),⟨(aV (gl aB y4.2.2.2.2.2) (Rds.self (enc:=aB))),⟨rfl,⟨rfl,slQ (Rds.self (enc:=aB)) (⟨k30.1,iG k30.2 (fun (h22:(List.length (dT (y4.2.2.2.2.2,y4.1,y4.2.1)))=(List.length y4.2.2.2.2.2)) hk=>wrapK.i64 hk (fun h25 h26 k27=>⟨(y4.1,y4.2.1,(y4.2.2.1 - (1:Int)),y4.2.2.2.1,y4.2.2.2.2.1,(y4.2.1 - y4.1),(dT (y4.2.2.2.2.2,y4.1,y4.2.1))),⟨((h22).symm.trans (aV (gl aB (dT (y4.2.2.2.2.2,y4.1,y4.2.1))) (Rds.self (enc:=aB)))),⟨rfl,⟨rfl,⟨rfl,⟨rfl,⟨rfl,⟨rfl,slQ (Rds.self (enc:=aB)) (k27)⟩⟩⟩⟩⟩⟩⟩⟩))⟩)⟩⟩⟩⟩⟩) (fun h20 k31=>⟨(y4.1,y4.2.1,y4.2.2.1,y4.2.2.2.1,y4.2.2.2.2.1,(y4.2.1 - y4.1),y4.2.2.2.2.2),⟨(aV (gl aB y4.2.2.2.2.2) (Rds.self (enc:=aB))),⟨rfl,⟨rfl,⟨rfl,⟨rfl,⟨rfl,⟨rfl,slQ (Rds.self (enc:=aB)) (k31)⟩⟩⟩⟩⟩⟩⟩⟩),fun y32 h33=>⟨rfl,⟨(y32.2.2.2.2.2.2,y32.1,y32.2.1),⟨(aV (gl aB y32.2.2.2.2.2.2) (Rds.self (enc:=aB))),⟨rfl,⟨rfl,slQ (Rds.self (enc:=aB)) (⟨(h34.2 y32 h33).1,iG ((h34.2 y32 h33).2) (fun (h36:(List.length (((aQ slt) (y32.2.2.2.2.2.2,y32.1,y32.2.1)).2.2))=(List.length y32.2.2.2.2.2.2)) hk=>Exists.elim hk (fun I37 h61=>⟨I37,br h61.1 Cnd.eq (fun h38 k57=>⟨(h36).symm,⟨(((aQ slt) (y32.2.2.2.2.2.2,y32.1,y32.2.1)).2.2,y32.1,y32.2.1),⟨((h36).symm.trans (aV (gl aB (((aQ slt) (y32.2.2.2.2.2.2,y32.1,y32.2.1)).2.2)) (Rds.self (enc:=aB)))),⟨rfl,⟨rfl,slQ (Rds.self (enc:=aB)) (⟨k57.1,iG k57.2 (fun (h41:(List.length (pO (((aQ slt) (y32.2.2.2.2.2.2,y32.1,y32.2.1)).2.2,y32.1,y32.2.1)))=(List.length y32.2.2.2.2.2.2)) hk=>wrapK.i64 hk (fun h52 h53 k54=>wrapK.i64 k54 (fun h49 h50 k51=>wrapK.i64 k51 (fun h46 h47 k48=>⟨(y32.1,y32.2.1,y32.2.2.1,y32.2.2.2.1,y32.2.2.2.2.1,y32.2.2.2.2.2.1,((y32.2.1 - (1:Int)) - ((((aQ slt) (y32.2.2.2.2.2.2,y32.1,y32.2.1)).1) - y32.1)),(1:Int),(pO (((aQ slt) (y32.2.2.2.2.2.2,y32.1,y32.2.1)).2.2,y32.1,y32.2.1))),⟨((h41).symm.trans (aV (gl aB (pO (((aQ slt) (y32.2.2.2.2.2.2,y32.1,y32.2.1)).2.2,y32.1,y32.2.1))) (Rds.self (enc:=aB)))),⟨rfl,⟨rfl,⟨rfl,⟨rfl,⟨rfl,⟨rfl,⟨rfl,⟨rfl,slQ (Rds.self (enc:=aB)) (k48)⟩⟩⟩⟩⟩⟩⟩⟩⟩⟩))))⟩)⟩⟩⟩⟩⟩) (fun h39 k58=>⟨(y32.1,y32.2.1,y32.2.2.1,y32.2.2.2.1,y32.2.2.2.2.1,y32.2.2.2.2.2.1,((aQ slt) (y32.2.2.2.2.2.2,y32.1,y32.2.1)).1,((aQ slt) (y32.2.2.2.2.2.2,y32.1,y32.2.1)).2.1,((aQ slt) (y32.2.2.2.2.2.2,y32.1,y32.2.1)).2.2),⟨((h36).symm.trans (aV (gl aB (((aQ slt) (y32.2.2.2.2.2.2,y32.1,y32.2.1)).2.2)) (Rds.self (enc:=aB)))),⟨rfl,⟨rfl,⟨rfl,⟨rfl,⟨rfl,⟨rfl,⟨rfl,⟨rfl,slQ (Rds.self (enc:=aB)) (k58)⟩⟩⟩⟩⟩⟩⟩⟩⟩⟩),fun y59 h60=>Exists.elim (h61.2 y59 h60) (fun I62 h89=>⟨I62,br h89.1 Cnd.b (fun h63 k85=>br k85 Cnd.b (fun h65 k82=>br k82 Cnd.eq (fun h67 k79=>⟨rfl,⟨(y59.2.2.2.2.2.2.2.2,y59.1,y59.2.1),⟨(aV (gl aB y59.2.2.2.2.2.2.2.2) (Rds.self (enc:=aB))),⟨rfl,⟨rfl,slQ (Rds.self (enc:=aB)) (⟨k79.1,iG k79.2 (fun (h70:(List.length (((bD slt) (y59.2.2.2.2.2.2.2.2,y59.1,y59.2.1)).2))=(List.length y59.2.2.2.2.2.2.2.2)) hk=>br hk Cnd.b (fun h71 k75=>slQ (Rds.to (Rds.self (enc:=aB)) k75) (trivial)) (fun h72 k76=>⟨(y59.1,y59.2.1,y59.2.2.1,y59.2.2.2.1,y59.2.2.2.2.1,y59.2.2.2.2.2.1,y59.2.2.2.2.2.2.1,((bD slt) (y59.2.2.2.2.2.2.2.2,y59.1,y59.2.1)).2),⟨((h70).symm.trans (aV (gl aB (((bD slt) (y59.2.2.2.2.2.2.2.2,y59.1,y59.2.1)).2)) (Rds.self (enc:=aB)))),⟨rfl,⟨rfl,⟨rfl,⟨rfl,⟨rfl,⟨rfl,⟨rfl,slQ (Rds.self (enc:=aB)) (k76)⟩⟩⟩⟩⟩⟩⟩⟩⟩))⟩)⟩⟩⟩⟩⟩) (fun h68 k80=>⟨(y59.1,y59.2.1,y59.2.2.1,y59.2.2.2.1,y59.2.2.2.2.1,y59.2.2.2.2.2.1,y59.2.2.2.2.2.2.1,y59.2.2.2.2.2.2.2.2),⟨(aV (gl aB y59.2.2.2.2.2.2.2.2) (Rds.self (enc:=aB))),⟨rfl,⟨rfl,⟨rfl,⟨rfl,⟨rfl,⟨rfl,⟨rfl,slQ (Rds.self (enc:=aB)) (k80)⟩⟩⟩⟩⟩⟩⟩⟩⟩)) (fun h66 k83=>⟨(y59.1,y59.2.1,y59.2.2.1,y59.2.2.2.1,y59.2.2.2.2.1,y59.2.2.2.2.2.1,y59.2.2.2.2.2.2.1,y59.2.2.2.2.2.2.2.2),⟨(aV (gl aB y59.2.2.2.2.2.2.2.2) (Rds.self (enc:=aB))),⟨rfl,⟨rfl,⟨rfl,⟨rfl,⟨rfl,⟨rfl,⟨rfl,slQ (Rds.self (enc:=aB)) (k83)⟩⟩⟩⟩⟩⟩⟩⟩⟩)) (fun h64 k86=>⟨(y59.1,y59.2.1,y59.2.2.1,y59.2.2.2.1,y59.2.2.2.2.1,y59.2.2.2.2.2.1,y59.2.2.2.2.2.2.1,y59.2.2.2.2.2.2.2.2),⟨(aV (gl aB y59.2.2.2.2.2.2.2.2) (Rds.self (enc:=aB))),⟨rfl,⟨rfl,⟨rfl,⟨rfl,⟨rfl,⟨rfl,⟨rfl,slQ (Rds.self (enc:=aB)) (k86)⟩⟩⟩⟩⟩⟩⟩⟩⟩),fun y87 h88=>Exists.elim (h89.2 y87 h88) (fun I90 h118=>⟨I90,br h118.1 Cnd.dec (fun h91 k114=>wrapK.i64 k114 (fun h110 h111 k112=>chk k112.2.2 Cnd.ix ⟨k112.1,k112.2.1⟩ (fun h94 k109=>⟨rfl,chk k109.2.2 Cnd.ix ⟨k109.1,k109.2.1⟩ (fun h95 k108=>⟨rfl,⟨(at_ y87.2.2.2.2.2.2.2 (y87.1 - (1:Int)),at_ y87.2.2.2.2.2.2.2 y87.2.2.2.2.2.2.1),⟨rfl,⟨rfl,⟨trivial,br k108 (Cnd.not Cnd.b) (fun h97 k105=>⟨rfl,⟨(y87.2.2.2.2.2.2.2,y87.1,y87.2.1,y87.2.2.2.2.2.2.1),⟨(aV (gl aB y87.2.2.2.2.2.2.2) (Rds.self (enc:=aB))),⟨rfl,⟨rfl,⟨rfl,slQ (Rds.self (enc:=aB)) (⟨k105.1,iG k105.2 (fun (h100:(List.length (((cJ slt) (y87.2.2.2.2.2.2.2,y87.1,y87.2.1,y87.2.2.2.2.2.2.1)).2))=(List.length y87.2.2.2.2.2.2.2)) hk=>⟨(((cJ slt) (y87.2.2.2.2.2.2.2,y87.1,y87.2.1,y87.2.2.2.2.2.2.1)).1,y87.2.1,y87.2.2.1,y87.2.2.2.1,y87.2.2.2.2.1,((cJ slt) (y87.2.2.2.2.2.2.2,y87.1,y87.2.1,y87.2.2.2.2.2.2.1)).2),⟨((h100).symm.trans (aV (gl aB (((cJ slt) (y87.2.2.2.2.2.2.2,y87.1,y87.2.1,y87.2.2.2.2.2.2.1)).2)) (Rds.self (enc:=aB)))),⟨rfl,⟨rfl,⟨rfl,⟨rfl,⟨rfl,slQ (Rds.self (enc:=aB)) (hk)⟩⟩⟩⟩⟩⟩⟩)⟩)⟩⟩⟩⟩⟩⟩) (fun h98 k106=>⟨(y87.1,y87.2.1,y87.2.2.1,y87.2.2.2.2.2.1,y87.2.2.2.2.2.2.1,y87.2.2.2.2.2.2.2),⟨(aV (gl aB y87.2.2.2.2.2.2.2) (Rds.self (enc:=aB))),⟨rfl,⟨rfl,⟨rfl,⟨rfl,⟨rfl,slQ (Rds.self (enc:=aB)) (k106)⟩⟩⟩⟩⟩⟩⟩)⟩⟩⟩⟩⟩)⟩))) (fun h92 k115=>⟨(y87.1,y87.2.1,y87.2.2.1,y87.2.2.2.2.2.1,y87.2.2.2.2.2.2.1,y87.2.2.2.2.2.2.2),⟨(aV (gl aB y87.2.2.2.2.2.2.2) (Rds.self (enc:=aB))),⟨rfl,⟨rfl,⟨rfl,⟨rfl,⟨rfl,slQ (Rds.self (enc:=aB)) (k115)⟩⟩⟩⟩⟩⟩⟩),fun y116 h117=>⟨rfl,⟨(y116.2.2.2.2.2,y116.1,y116.2.1,y116.2.2.2.2.1),⟨(aV (gl aB y116.2.2.2.2.2) (Rds.self (enc:=aB))),⟨rfl,⟨rfl,⟨rfl,slQ (Rds.self (enc:=aB)) (⟨(h118.2 y116 h117).1,iG ((h118.2 y116 h117).2) (fun (h120:(List.length (((aO slt) (y116.2.2.2.2.2,y116.1,y116.2.1,y116.2.2.2.2.1)).2.2))=(List.length y116.2.2.2.2.2)) hk=>wrapK.i64 hk (fun h149 h150 k151=>wrapK.i64 k151 (fun h146 h147 k148=>divK.i64 k148.1 k148.2.1 (by decide) (br k148.2.2 Cnd.dec (fun h124 k144=>⟨(h120).symm,⟨(((aO slt) (y116.2.2.2.2.2,y116.1,y116.2.1,y116.2.2.2.2.1)).2.2,y116.1,((aO slt) (y116.2.2.2.2.2,y116.1,y116.2.1,y116.2.2.2.2.1)).1,y116.2.2.1),⟨((h120).symm.trans (aV (gl aB (((aO slt) (y116.2.2.2.2.2,y116.1,y116.2.1,y116.2.2.2.2.1)).2.2)) (Rds.self (enc:=aB)))),⟨rfl,⟨rfl,⟨rfl,slQ (Rds.self (enc:=aB)) (⟨k144.1,iG k144.2 (fun (h127:(List.length ((dK slt) (((aO slt) (y116.2.2.2.2.2,y116.1,y116.2.1,y116.2.2.2.2.1)).2.2,y116.1,((aO slt) (y116.2.2.2.2.2,y116.1,y116.2.1,y116.2.2.2.2.1)).1,y116.2.2.1)))=(List.length y116.2.2.2.2.2)) hk=>wrapK.i64 hk (fun h131 h132 k133=>⟨(((((aO slt) (y116.2.2.2.2.2,y116.1,y116.2.1,y116.2.2.2.2.1)).1)+(1:Int)),y116.2.1,y116.2.2.1,decide ((y116.2.2.2.1 / (8:Int))≤((((aO slt) (y116.2.2.2.2.2,y116.1,y116.2.1,y116.2.2.2.2.1)).1) - y116.1)),((aO slt) (y116.2.2.2.2.2,y116.1,y116.2.1,y116.2.2.2.2.1)).2.1,((dK slt) (((aO slt) (y116.2.2.2.2.2,y116.1,y116.2.1,y116.2.2.2.2.1)).2.2,y116.1,((aO slt) (y116.2.2.2.2.2,y116.1,y116.2.1,y116.2.2.2.2.1)).1,y116.2.2.1))),⟨((h127).symm.trans (aV (gl aB ((dK slt) (((aO slt) (y116.2.2.2.2.2,y116.1,y116.2.1,y116.2.2.2.2.1)).2.2,y116.1,((aO slt) (y116.2.2.2.2.2,y116.1,y116.2.1,y116.2.2.2.2.1)).1,y116.2.2.1))) (Rds.self (enc:=aB)))),⟨rfl,⟨rfl,⟨rfl,⟨rfl,⟨rfl,slQ (Rds.self (enc:=aB)) (k133)⟩⟩⟩⟩⟩⟩⟩))⟩)⟩⟩⟩⟩⟩⟩) (fun h125 k145=>wrapK.i64 k145 (fun h141 h142 k143=>⟨(h120).symm,⟨(((aO slt) (y116.2.2.2.2.2,y116.1,y116.2.1,y116.2.2.2.2.1)).2.2,((((aO slt) (y116.2.2.2.2.2,y116.1,y116.2.1,y116.2.2.2.2.1)).1)+(1:Int)),y116.2.1,y116.2.2.1),⟨((h120).symm.trans (aV (gl aB (((aO slt) (y116.2.2.2.2.2,y116.1,y116.2.1,y116.2.2.2.2.1)).2.2)) (Rds.self (enc:=aB)))),⟨rfl,⟨rfl,⟨rfl,slQ (Rds.self (enc:=aB)) (⟨k143.1,iG k143.2 (fun (h137:(List.length ((dK slt) (((aO slt) (y116.2.2.2.2.2,y116.1,y116.2.1,y116.2.2.2.2.1)).2.2,((((aO slt) (y116.2.2.2.2.2,y116.1,y116.2.1,y116.2.2.2.2.1)).1)+(1:Int)),y116.2.1,y116.2.2.1)))=(List.length y116.2.2.2.2.2)) hk=>⟨(y116.1,((aO slt) (y116.2.2.2.2.2,y116.1,y116.2.1,y116.2.2.2.2.1)).1,y116.2.2.1,decide ((y116.2.2.2.1 / (8:Int))≤(y116.2.1 - (((aO slt) (y116.2.2.2.2.2,y116.1,y116.2.1,y116.2.2.2.2.1)).1))),((aO slt) (y116.2.2.2.2.2,y116.1,y116.2.1,y116.2.2.2.2.1)).2.1,((dK slt) (((aO slt) (y116.2.2.2.2.2,y116.1,y116.2.1,y116.2.2.2.2.1)).2.2,((((aO slt) (y116.2.2.2.2.2,y116.1,y116.2.1,y116.2.2.2.2.1)).1)+(1:Int)),y116.2.1,y116.2.2.1))),⟨((h137).symm.trans (aV (gl aB ((dK slt) (((aO slt) (y116.2.2.2.2.2,y116.1,y116.2.1,y116.2.2.2.2.1)).2.2,((((aO slt) (y116.2.2.2.2.2,y116.1,y116.2.1,y116.2.2.2.2.1)).1)+(1:Int)),y116.2.1,y116.2.2.1))) (Rds.self (enc:=aB)))),⟨rfl,⟨rfl,⟨rfl,⟨rfl,⟨rfl,slQ (Rds.self (enc:=aB)) (hk)⟩⟩⟩⟩⟩⟩⟩)⟩)⟩⟩⟩⟩⟩⟩))))))⟩)⟩⟩⟩⟩⟩⟩⟩)⟩)⟩))⟩)⟩⟩⟩⟩⟩⟩))))⟩))
theorem f193.eq (a:(List (ByteArray))×Int×Int×Int) (n:Nat):(f193.af a).gives (f193.env n) (f193.args a) (f193.blks a) (f193.res a) (f193.blks' a)=f193.tree a n:=by kernel_rfl
end Go.Abs

/- The library's unstable sort of texts: the main loop,the sort. -/
namespace Go.Abs
open Go

theorem aAZ:Sort.SWO slt:=by
 refine ⟨fun x=>fZ _,fun x y z h1 h2=>hQ h1 h2,fun x y z h1 h2=>?_⟩
 cases hh:slt x z with
 | false=>rfl
 | true =>
  rcases oV x.toList y.toList with c | c | c
  ·have c:slt x y=true:=c
   rw [h1] at c
   cases c
  ·have e:slt y z=slt x z:=by
    unfold slt
    rw [c]
   rw [h2,hh] at e
   cases e
  ·have:slt y z=true:=hQ (x:=y.toList) c hh
   rw [h2] at this
   cases this

theorem aIO (x y:ByteArray) (h1:slt x y=false) (h2:slt y x=false):x=y:=by
 rcases oV x.toList y.toList with c | c | c
 ·have c:slt x y=true:=c
  rw [h1] at c
  cases c
 ·exact toList_inj.1 c
 ·have c:slt y x=true:=c
  rw [h2] at c
  cases c

theorem wB {h:Sort.Hint}:zV h=2↔h=.decreasing:=by cases h <;> decide
theorem p8 {h:Sort.Hint}:zV h=1↔h=.increasing:=by cases h <;> decide

set_option maxHeartbeats 4000000 in
theorem f193.ok (a:List ByteArray×Int×Int×Int) (h:n7 a) (n:Nat) (hn:aCH a < n+1):f193.vc a n:=by
 obtain ⟨l,a0,b0,lim0⟩:=a
 obtain ⟨h1,h2,h3,h4,h5,h6⟩:=h
 simp only at h1 h2 h3 h4 h5 h6
 have hn:(b0 - a0).toNat < n+1:=hn
 generalize hX:Sort.pdq slt l.toArray a0.toNat b0.toNat lim0.toNat true true=X
 have res:∀ c:List ByteArray,c.toArray=X→c=dK slt (l,a0,b0,lim0):=fun c e=>by
  unfold dK
  simp only
  rw [hX,← e]
 refine ⟨fun y=>0≤y.1∧y.1≤y.2.1∧y.2.1≤l.length∧y.2.1 - y.1≤b0 - a0∧0≤y.2.2.1∧y.2.2.1≤1048576∧y.2.2.2.2.2.length=l.length∧Sort.pdq slt y.2.2.2.2.2.toArray y.1.toNat y.2.1.toNat y.2.2.1.toNat y.2.2.2.1 y.2.2.2.2.1=X,fun y=>(y.2.1 - y.1).toNat,⟨h1,h2,h3,Int.le_refl _,h5,h6,rfl,hX⟩,fun y hy=>?_⟩
 obtain ⟨a,b,lim,wb,wp,c⟩:=y
 obtain ⟨g1,g2,g3,g4,g5,g6,g7,g8⟩:=hy
 simp only at g1 g2 g3 g4 g5 g6 g7 g8 ⊢
 rw [nV] at g8
 refine ⟨by omega,by omega,fun h12=>?_,fun h12=>⟨fun hl=>?_,fun hl=>?_⟩⟩
 ·rw [if_pos (by omega)] at g8
  refine ⟨⟨g1,g2,by simp only; omega,by simp only; omega⟩,?_,?_⟩
  ·unfold rH
   rw [Array.length_toList,aE8 slt aAZ _ (by simp only; omega) (by simp only [List.size_toArray]; omega),List.size_toArray]
  ·exact res _ (by unfold rH; exact g8)
 ·rw [if_neg (by omega),if_pos (by omega)] at g8
  refine ⟨⟨⟨g1,g2,by simp only; omega,by simp only; omega⟩,by simp only; omega⟩,?_,?_⟩
  ·unfold kO
   rw [Array.length_toList,aEK slt aAZ _ (by simp only; omega) (by simp only [List.size_toArray]; omega),List.size_toArray]
  ·exact res _ (by unfold kO; exact g8)
 ·rw [if_neg (by omega),if_neg (by omega)] at g8
  refine ⟨fun z=>z.1=a∧z.2.1=b∧0≤z.2.2.1∧z.2.2.1≤1048576∧z.2.2.2.2.2.1=b - a∧z.2.2.2.2.2.2.length=l.length∧aA3 slt z.2.2.2.2.2.2.toArray a.toNat b.toNat z.2.2.1.toNat z.2.2.2.1 z.2.2.2.2.1=X,⟨fun hw=>?_,fun hw=>?_⟩,fun z hz=>?_⟩
  ·rw [if_neg hw] at g8
   have hs:(dT (c,a,b)).length=c.length:=by
    unfold dT
    rw [Array.length_toList,nP,List.size_toArray]
   refine ⟨⟨g1,g2,by simp only; omega,by simp only; omega⟩,hs,by omega,by omega,rfl,rfl,by simp only; omega,by simp only; omega,rfl,hs.trans g7,?_⟩
   simp only
   rw [show (lim - 1).toNat=lim.toNat - 1 from by omega]
   exact g8
  ·rw [if_pos (Classical.not_not.1 hw)] at g8
   exact ⟨rfl,rfl,g5,g6,rfl,g7,g8⟩
  ·obtain ⟨a',b',lim',wb',wp',len,c1⟩:=z
   obtain ⟨z1,z2,z3,z4,z5,z6,z7⟩:=hz
   simp only at z1 z2 z3 z4 z5 z6 z7 ⊢
   subst z1; subst z2; subst z5
   have hcr:=Sort.choosePivot_holds slt c1.toArray a'.toNat b'.toNat (by omega)
   have hcp:aQ slt (c1,a',b')=(((Sort.choosePivot slt c1.toArray a'.toNat b'.toNat).1:Int),zV (Sort.choosePivot slt c1.toArray a'.toNat b'.toNat).2,c1):=rfl
   rw [hcp]
   simp only
   unfold aA3 at z7
   generalize Sort.choosePivot slt c1.toArray a'.toNat b'.toNat=ch at hcr z7 ⊢
   refine ⟨⟨⟨g1,g2,by simp only; omega,by simp only; omega⟩,by simp only; omega⟩,by trivial,fun z=>z.1=a'∧z.2.1=b'∧z.2.2.1=lim'∧z.2.2.2.2.2.1=b' - a'∧a'≤z.2.2.2.2.2.2.1∧z.2.2.2.2.2.2.1 < b'∧z.2.2.2.2.2.2.2.2.length=l.length∧∃ hh:Sort.Hint,z.2.2.2.2.2.2.2.1=zV hh∧yM slt z.2.2.2.2.2.2.2.2.toArray a'.toNat b'.toNat lim'.toNat z.2.2.2.1 z.2.2.2.2.1 z.2.2.2.2.2.2.1.toNat hh=X,⟨fun hd=>?_,fun hd=>?_⟩,fun z hz=>?_⟩
   ·rw [if_pos (wB.1 hd)] at z7
    have hs:(pO (c1,a',b')).length=c1.length:=by
     unfold pO
     rw [Array.length_toList,tE,List.size_toArray]
    refine ⟨⟨g1,g2,by simp only; omega,by simp only; omega⟩,hs,by omega,by omega,by omega,by omega,by omega,by omega,rfl,rfl,rfl,rfl,by simp only; omega,by simp only; omega,hs.trans z6,.increasing,rfl,?_⟩
    simp only
    rw [show (b' - 1 - ((ch.1:Int) - a')).toNat=b'.toNat - 1 - (ch.1 - a'.toNat) from by omega]
    exact z7
   ·rw [if_neg (fun hh=>hd (wB.2 hh))] at z7
    exact ⟨rfl,rfl,rfl,rfl,by simp only; omega,by simp only; omega,z6,ch.2,rfl,z7⟩
   ·obtain ⟨a2,b2,lim2,wb2,wp2,len2,pv,hi,c2⟩:=z
    obtain ⟨u1,u2,u3,u4,u5,u6,u7,hh,u8,u9⟩:=hz
    simp only at u1 u2 u3 u4 u5 u6 u7 u8 u9 ⊢
    subst u1; subst u2; subst u3; subst u4; subst u8
    unfold yM at u9
    have hps:((bD slt (c2,a2,b2)).2).length=c2.length:=by
     unfold bD
     simp only
     rw [Array.length_toList,oW,List.size_toArray]
    refine ⟨fun z=>z.1=a2∧z.2.1=b2∧z.2.2.1=lim2∧z.2.2.2.2.2.1=b2 - a2∧z.2.2.2.2.2.2.1=pv∧z.2.2.2.2.2.2.2.length=l.length∧aB1 slt z.2.2.2.2.2.2.2.toArray a2.toNat b2.toNat lim2.toNat z.2.2.2.1 z.2.2.2.2.1 pv.toNat=X,⟨fun hw=>⟨fun hp=>⟨fun hi=>⟨⟨⟨g1,g2,by simp only; omega,by simp only; omega⟩,by simp only; omega⟩,hps,fun ht=>?_,fun ht=>?_⟩,fun hi=>?_⟩,fun hp=>?_⟩,fun hw=>?_⟩,fun z hz=>?_⟩
    ·have ht:(Sort.partialInsertionSort slt c2.toArray a2.toNat b2.toNat).2=true:=ht
     rw [if_pos (by simp [hw,hp,p8.1 hi]),if_pos ht] at u9
     exact res _ u9
    ·have ht:¬(Sort.partialInsertionSort slt c2.toArray a2.toNat b2.toNat).2=true:=ht
     rw [if_pos (by simp [hw,hp,p8.1 hi]),if_neg ht] at u9
     exact ⟨rfl,rfl,rfl,rfl,rfl,hps.trans u7,u9⟩
    ·rw [if_neg (by simp [hw,hp]; exact fun e=>hi (p8.2 e))] at u9
     exact ⟨rfl,rfl,rfl,rfl,rfl,u7,u9⟩
    ·rw [if_neg (by simp [hp])] at u9
     exact ⟨rfl,rfl,rfl,rfl,rfl,u7,u9⟩
    ·rw [if_neg (by simp [hw])] at u9
     exact ⟨rfl,rfl,rfl,rfl,rfl,u7,u9⟩
    ·obtain ⟨a3,b3,lim3,wb3,wp3,len3,pv3,c3⟩:=z
     obtain ⟨v1,v2,v3,v4,v5,v6,v7⟩:=hz
     simp only at v1 v2 v3 v4 v5 v6 v7 ⊢
     subst v1; subst v2; subst v3; subst v4; subst v5
     unfold aB1 at v7
     have x1:a3.toNat - 1=(a3 - 1).toNat:=by omega
     refine ⟨fun z=>z.1=a3∧z.2.1=b3∧z.2.2.1=lim3∧z.2.2.2.1=b3 - a3∧z.2.2.2.2.1=pv3∧z.2.2.2.2.2.length=l.length∧aDQ slt z.2.2.2.2.2.toArray a3.toNat b3.toNat lim3.toNat pv3.toNat=X,⟨fun h0=>⟨by omega,by omega,by omega,by omega,by omega,by omega,fun hl=>?_,fun hl=>?_⟩,fun h0=>?_⟩,fun z hz=>?_⟩
     ·have hl:=stN hl
      rw [← dF,← x1] at hl
      rw [if_pos (by rw [hl,decide_eq_true (show a3.toNat > 0 by omega)]; rfl)] at v7
      obtain ⟨q1,q2,q3⟩:=oY slt (d:=c3.toArray) (a:=a3.toNat) (b:=b3.toNat) (pv:=pv3.toNat) (by omega) (by omega) (by simp only [List.size_toArray]; omega)
      have hpe:cJ slt (c3,a3,b3,pv3)=(((Sort.partitionEqual slt c3.toArray a3.toNat b3.toNat pv3.toNat).1:Int),(Sort.partitionEqual slt c3.toArray a3.toNat b3.toNat pv3.toNat).2.toList):=rfl
      rw [hpe]
      simp only
      generalize Sort.partitionEqual slt c3.toArray a3.toNat b3.toNat pv3.toNat=r at q1 q2 q3 v7 ⊢
      obtain ⟨mid,d4⟩:=r
      simp only at q1 q2 q3 v7 ⊢
      rw [if_pos ⟨q1,q2⟩] at v7
      have q3:d4.size=c3.length:=q3
      exact ⟨⟨g1,u5,u6,by simp only; omega,by simp only; omega⟩,q3,⟨by omega,by omega,g3,by omega,z3,z4,q3.trans v6,by simp only [Int.toNat_natCast]; exact v7⟩,by omega⟩
     ·have hl:=stY (Classical.not_not.1 hl)
      rw [← dF,← x1] at hl
      rw [if_neg (by rw [hl]; simp)] at v7
      exact ⟨rfl,rfl,rfl,rfl,rfl,v6,v7⟩
     ·rw [if_neg (by simp; omega)] at v7
      exact ⟨rfl,rfl,rfl,rfl,rfl,v6,v7⟩
     ·obtain ⟨a4,b4,lim4,len4,pv4,c4⟩:=z
      obtain ⟨w1,w2,w3,w4,w5,w6,w7⟩:=hz
      simp only at w1 w2 w3 w4 w5 w6 w7 ⊢
      subst w1; subst w2; subst w3; subst w4; subst w5
      unfold aDQ at w7
      obtain ⟨q1,q2,q3⟩:=tJ slt (d:=c4.toArray) (a:=a4.toNat) (b:=b4.toNat) (pv:=pv4.toNat) (by omega) (by omega) (by simp only [List.size_toArray]; omega)
      have hpp:aO slt (c4,a4,b4,pv4)=(((Sort.partition slt c4.toArray a4.toNat b4.toNat pv4.toNat).1:Int),(Sort.partition slt c4.toArray a4.toNat b4.toNat pv4.toNat).2.1,(Sort.partition slt c4.toArray a4.toNat b4.toNat pv4.toNat).2.2.toList):=rfl
      rw [hpp]
      simp only
      generalize Sort.partition slt c4.toArray a4.toNat b4.toNat pv4.toNat=r at q1 q2 q3 w7 ⊢
      obtain ⟨mid,ap,d4⟩:=r
      simp only at q1 q2 q3 w7 ⊢
      rw [if_pos ⟨q1,q2⟩] at w7
      have q3:d4.size=c4.length:=q3
      have hd4:d4.toList.length=l.length:=q3.trans w6
      have psz:∀ x y:Int,0≤x→x≤y→y≤l.length→(dK slt (d4.toList,x,y,lim4)).length=c4.length:=fun x y e1 e2 e3=>by
       unfold dK
       rw [Array.length_toList]
       simp only [Array.toArray_toList]
       rw [hY slt aAZ _ _ _ _ _ _ _ (Nat.le_refl _) (by omega) (by rw [q3]; omega),q3]
      refine ⟨⟨g1,u5,u6,by simp only; omega,by simp only; omega⟩,q3,by omega,by omega,by omega,by omega,by omega,by omega,fun hlt=>?_,fun hlt=>?_⟩
      ·rw [if_pos (by omega)] at w7
       refine ⟨⟨⟨g1,by simp only; omega,by simp only; omega,by simp only; omega,z3,z4⟩,?_⟩,psz _ _ g1 (by omega) (by omega),by omega,by omega,⟨by omega,by omega,g3,by omega,z3,z4,?_,?_⟩,by omega⟩
       ·show ((mid:Int) - a4).toNat < n
        omega
       ·rw [psz _ _ g1 (by omega) (by omega)]
        exact w6
       ·rw [show ((mid:Int)+1).toNat=mid+1 from by omega,show decide ((b4 - a4) / 8≤(mid:Int) - a4)=decide (mid - a4.toNat ≥ (b4.toNat - a4.toNat) / 8) from decide_eq_decide.2 (by omega)]
        unfold dK
        simp only [Array.toArray_toList,Int.toNat_natCast]
        exact w7
      ·rw [if_neg (by omega)] at w7
       refine ⟨by omega,by omega,⟨⟨by simp only; omega,by simp only; omega,by simp only; omega,by simp only; omega,z3,z4⟩,?_⟩,psz _ _ (by omega) (by omega) g3,⟨g1,by omega,by omega,by omega,z3,z4,?_,?_⟩,by omega⟩
       ·show (b4 - ((mid:Int)+1)).toNat < n
        omega
       ·rw [psz _ _ (by omega) (by omega) g3]
        exact w6
       ·rw [show decide ((b4 - a4) / 8≤b4 - (mid:Int))=decide (b4.toNat - mid ≥ (b4.toNat - a4.toNat) / 8) from decide_eq_decide.2 (by omega)]
        unfold dK
        simp only [Array.toArray_toList,Int.toNat_natCast]
        rw [show ((mid:Int)+1).toNat=mid+1 from by omega]
        exact w7

theorem f167.ok (a:List ByteArray) (h:lA a):f167.vc a:=by
 have h:a.length≤1048576:=h
 have hb:dZ a.length≤21:=(Sort.bitsLen_le_iff a.length 21).2 (by omega)
 have e:cD (a.length:Int)=(dZ a.length:Int):=rfl
 refine ⟨by omega,by omega,⟨by omega,by omega⟩,⟨Int.le_refl _,by simp only; omega,by simp only; omega,h,by simp only; omega,by simp only; omega⟩,?_,?_⟩
 ·unfold dK
  rw [Array.length_toList]
  simp only [Int.toNat_natCast]
  rw [hY slt aAZ _ _ _ _ _ _ _ (Nat.le_refl _) (by simp) (by simp),List.size_toArray]
 ·unfold dK dN Sort.sort
  rw [e]
  simp only [Int.toNat_natCast,List.size_toArray]
  rfl
end Go.Abs
