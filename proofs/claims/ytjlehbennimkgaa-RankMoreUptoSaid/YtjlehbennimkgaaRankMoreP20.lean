/- Functions, and what the code asks of them: PRankLaw. -/
import Derived.KernelRfl
import Derived.Test.YtjlehbennimkgaaRankMoreP3
import Derived.Test.YtjlehbennimkgaaRankMoreP4
import Derived.Test.YtjlehbennimkgaaRankMoreP5
import Derived.Test.YtjlehbennimkgaaRankMoreP6
import Derived.Test.YtjlehbennimkgaaRankMoreP7
import Derived.Test.YtjlehbennimkgaaRankMoreP8
import Derived.Test.YtjlehbennimkgaaRankMoreP9
import Derived.Test.YtjlehbennimkgaaRankMoreP10
import Derived.Test.YtjlehbennimkgaaRankMoreP11
import Derived.Test.YtjlehbennimkgaaRankMoreP12
import Derived.Test.YtjlehbennimkgaaRankMoreP13
import Derived.Test.YtjlehbennimkgaaRankMoreP14
import Derived.Test.YtjlehbennimkgaaRankMoreP15
import Derived.Test.YtjlehbennimkgaaRankMoreP16
import Derived.Test.YtjlehbennimkgaaRankMoreP17
import Derived.Test.YtjlehbennimkgaaRankMoreP18
import Derived.Test.YtjlehbennimkgaaRankMoreP19
set_option linter.unusedVariables false
set_option linter.unusedSimpArgs false
-- interregnum/interregnumlaw12.awake
namespace Go.Abs
open Go
def f391.args (a:Unit):List D:=[]
def f391.blks (a:Unit):List (List D):=[]
def f391.res (a:Unit):List D:=[.bool (a8 a)]
def f391.blks' (a:Unit):List (List D):=[]
def f391.C:aM:=FnC f391.args f391.blks (fun _=>True) f391.res f391.blks'
end Go.Abs

/- interregnum/interregnumlaw12.awake -/
namespace Go.Abs
open Go
set_option linter.unusedVariables false
def f391.s0:ByteArray:=⟨#[110]⟩
def f391.s1:ByteArray:=⟨#[116]⟩
def f391.s2:ByteArray:=⟨#[113]⟩
def f391.kills (a:Unit):List Hint:=[]
def f391.cuts (a:Unit):List (Nat×Σ β:Type,β→Tm):=[]
def f391.af (a:Unit):AF:=AF.mk (.seq (.region [⟨(some 0),0,.move,[.c (.bool false)],none⟩])
 (.seq (.region [⟨(some 4),1,(.build [.int .i64 (0),.int .i64 (0),.int .i64 (0)] [(0,1),(1,1),(2,1)]),[.c (.int .i64 (4)),.c (.int .i64 (4)),.c (.int .i64 (4))],none⟩,
 ⟨(some 5),2,(.build [.str ByteArray.empty,.int .i64 (0),.int .i64 (0),.int .i64 (0),.slice .full 2 0 eS] [(0,1),(1,3)]),[.c (.str f391.s0),.t 4],none⟩,
 ⟨(some 6),3,(.build [.str ByteArray.empty,.int .i64 (0),.int .i64 (0),.int .i64 (0),.slice .full 2 0 eS,.bool false,.int .i64 (0)] [(0,5),(5,1)]),[.t 5,.c (.bool true)],none⟩,
 oT 1 4 (.alloc [.str ByteArray.empty,.int .i64 (0),.int .i64 (0),.int .i64 (0),.slice (.own 0) 2 0 eS,.bool false,.int .i64 (0)]) [],
 ⟨none,12,(.store 7),[.t 1,.t 6],none⟩])
 (.seq (.region [oT 8 13 (.load true 7) [1],
 oT 9 14 (.buildSlice 7 1 [.str ByteArray.empty,.int .i64 (0),.int .i64 (0),.int .i64 (0),.slice .full 2 0 eS,.bool false,.int .i64 (0)] [(0,7)]) [8],
 ⟨(some 10),15,(.build [.str ByteArray.empty,.str ByteArray.empty,.int .i64 (0),.int .i64 (0),.int .i64 (0),.int .i64 (0),.slice .full 2 0 eS,.str ByteArray.empty,.str ByteArray.empty,.int .i64 (0)] [(0,1),(1,1)]),[.c (.str f391.s1),.c (.str f391.s2)],none⟩,
 ⟨(some 11),16,(.call false 151),[.t 9,.c (.slice .full 13 0 eS),.t 10],none⟩,
 oT 7 20 .move [11],
 oT 12 21 (.extract 0) [7],
 oT 13 22 (.extract 1) [7],
 oT 2 23 .move [12],
 oT 3 24 .move [13]])
 (.seq (.region [oT 14 25 .move [2],
 ⟨(some 15),26,(.bin .eql),[.t 14,.c (.str f391.s0)],none⟩,
 oT 16 27 .move [15],
 oG 17 28 .move [3] 16 true,
 ⟨(some 18),29,.pick,[.t 16,.t 17,.c (.bool false)],none⟩,
 oT 0 30 .move [18]])
 (.ret)))))
 [.tmp 0] 0 19
def f391.env:Env:=[(151,f151.C)]
def f391.tree (a:Unit):Prop:=∃ c1:(List (aC))×(List (aI))×aG,SlQ 1 c1.1.length (fun _=>[.str f391.s0,.int .i64 (4:Int),.int .i64 (4:Int),.int .i64 (4:Int),.slice .ro 2 0 eS,.bool true,.int .i64 (0:Int)]) (gl aT c1.1) (SlQ 0 c1.2.1.length eS (gl aS c1.2.1) ((f391.s1=c1.2.2.1)∧(f391.s2=c1.2.2.2.1)∧((0:Int)=c1.2.2.2.2.1)∧((0:Int)=c1.2.2.2.2.2.1.1)∧((0:Int)=c1.2.2.2.2.2.1.2.1)∧((0:Int)=c1.2.2.2.2.2.1.2.2)∧SlQ 0 c1.2.2.2.2.2.2.1.length eS (gl aH c1.2.2.2.2.2.2.1) ((ByteArray.empty=c1.2.2.2.2.2.2.2.1)∧(ByteArray.empty=c1.2.2.2.2.2.2.2.2.1)∧((0:Int)=c1.2.2.2.2.2.2.2.2.2)∧(eC c1)∧Br (((bF c1).1).toList==f391.s0.toList) ((((bF c1).2)=(a8 a))∧True) ((false=(a8 a))∧True))))
def f391.vc (a:Unit):Prop:=(eC ([((f391.s0,((4:Int),(4:Int),(4:Int)),[]),true,(0:Int))],[],(f391.s1,f391.s2,(0:Int),((0:Int),(0:Int),(0:Int)),[],ByteArray.empty,ByteArray.empty,(0:Int)))∧((((bF ([((f391.s0,((4:Int),(4:Int),(4:Int)),[]),true,(0:Int))],[],(f391.s1,f391.s2,(0:Int),((0:Int),(0:Int),(0:Int)),[],ByteArray.empty,ByteArray.empty,(0:Int)))).1)=f391.s0→((bF ([((f391.s0,((4:Int),(4:Int),(4:Int)),[]),true,(0:Int))],[],(f391.s1,f391.s2,(0:Int),((0:Int),(0:Int),(0:Int)),[],ByteArray.empty,ByteArray.empty,(0:Int)))).2=a8 a))∧(¬(((bF ([((f391.s0,((4:Int),(4:Int),(4:Int)),[]),true,(0:Int))],[],(f391.s1,f391.s2,(0:Int),((0:Int),(0:Int),(0:Int)),[],ByteArray.empty,ByteArray.empty,(0:Int)))).1)=f391.s0)→(false=a8 a))))
set_option maxRecDepth 100000 in
set_option maxHeartbeats 2000000 in
theorem f391.of (a:Unit) (h:f391.vc a):f391.tree a:=⟨([((f391.s0,((4:Int),(4:Int),(4:Int)),[]),true,(0:Int))],[],(f391.s1,f391.s2,(0:Int),((0:Int),(0:Int),(0:Int)),[],ByteArray.empty,ByteArray.empty,(0:Int))),slQ (Rds.one (enc:=aT) (DEqs.cons (DEq.refl _) (DEqs.cons (DEq.refl _) (DEqs.cons (DEq.refl _) (DEqs.cons (DEq.refl _) (DEqs.cons ((Rds.nil (enc:=aH))).deq (DEqs.cons (DEq.refl _) (DEqs.cons (DEq.refl _) DEqs.nil)))))))) (slQ (Rds.nil (enc:=aS)) (⟨rfl,⟨rfl,⟨rfl,⟨rfl,⟨rfl,⟨rfl,slQ (Rds.nil (enc:=aH)) (⟨rfl,⟨rfl,⟨rfl,⟨h.1,br h.2 Cnd.seq (fun h2 k6=>⟨k6,trivial⟩) (fun h3 k7=>⟨k7,trivial⟩)⟩⟩⟩⟩)⟩⟩⟩⟩⟩⟩))⟩
theorem f391.eq (a:Unit):(f391.af a).gives f391.env (f391.args a) (f391.blks a) (f391.res a) (f391.blks' a)=f391.tree a:=by kernel_rfl
end Go.Abs

-- interregnum/interregnumlaw12.RankMore
namespace Go.Abs
open Go
def f381.wf (a:(List (aC))×aC×(List (aI))×aG):Prop:=cM.ok a.1∧bU.ok a.2.1∧fG.ok a.2.2.1∧eK.ok a.2.2.2
def f381.size (a:(List (aC))×aC×(List (aI))×aG):Nat:=cM.size a.1+(bU.size a.2.1+(fG.size a.2.2.1+(eK.size a.2.2.2)))
def f381.lpre (a:(List (aC))×aC×(List (aI))×aG):Prop:=f381.wf a∧f381.size a≤1048576
def f381.args (a:(List (aC))×aC×(List (aI))×aG):List D:=[.slice .ro 7 a.1.length (gl aT a.1),.agg [.str a.2.1.1.1,.int .i64 a.2.1.1.2.1.1,.int .i64 a.2.1.1.2.1.2.1,.int .i64 a.2.1.1.2.1.2.2,.slice .ro 2 a.2.1.1.2.2.length (gl aH a.2.1.1.2.2),.bool a.2.1.2.1,.int .i64 a.2.1.2.2],.slice .ro 13 a.2.2.1.length (gl aS a.2.2.1),.agg [.str a.2.2.2.1,.str a.2.2.2.2.1,.int .i64 a.2.2.2.2.2.1,.int .i64 a.2.2.2.2.2.2.1.1,.int .i64 a.2.2.2.2.2.2.1.2.1,.int .i64 a.2.2.2.2.2.2.1.2.2,.slice .ro 2 a.2.2.2.2.2.2.2.1.length (gl aH a.2.2.2.2.2.2.2.1),.str a.2.2.2.2.2.2.2.2.1,.str a.2.2.2.2.2.2.2.2.2.1,.int .i64 a.2.2.2.2.2.2.2.2.2.2]]
def f381.blks (a:(List (aC))×aC×(List (aI))×aG):List (List D):=[]
def f381.res (a:(List (aC))×aC×(List (aI))×aG):List D:=[.bool (a8 a)]
def f381.blks' (a:(List (aC))×aC×(List (aI))×aG):List (List D):=[]
def f381.C:aM:=FnC f381.args f381.blks (fun a=>f381.lpre a) f381.res f381.blks'
end Go.Abs

/- interregnum/interregnumlaw12.RankMore -/
namespace Go.Abs
open Go
set_option linter.unusedVariables false
def f381.kills (a:(List (aC))×aC×(List (aI))×aG):List Hint:=[]
def f381.cuts (a:(List (aC))×aC×(List (aI))×aG):List (Nat×Σ β:Type,β→Tm):=[]
def f381.af (a:(List (aC))×aC×(List (aI))×aG):AF:=AF.mk (.seq (.region [oT 5 0 .box [1],
 oT 7 1 .box [3],
 ⟨(some 8),2,.move,[.c (.bool false)],none⟩])
 (.seq (.seq (.region [oT 15 3 (.call false 391) [],
 oT 16 7 (.un .not) [15],
 oT 17 8 .move [16],
 oG 18 9 .move [0] 17 false,
 oG 19 10 .move [2] 17 false,
 oG 20 11 (.load true 10) [7] 17 false,
 oG 21 12 (.call false 392) [18,19,20] 17 false,
 oG 22 16 (.un .not) [21] 17 false,
 ⟨(some 23),17,.pick,[.t 17,.c (.bool true),.t 22],none⟩,
 oT 24 18 .move [23],
 oG 25 19 (.load true 7) [5] 24 false,
 oG 26 20 (.buildSlice 7 1 [.str ByteArray.empty,.int .i64 (0),.int .i64 (0),.int .i64 (0),.slice .full 2 0 eS,.bool false,.int .i64 (0)] [(0,7)]) [25] 24 false,
 oG 27 21 (.load true 10) [7] 24 false,
 ⟨(some 28),22,(.call false 392),[.t 26,.c (.slice .full 13 0 eS),.t 27],(some (24,false))⟩,
 oG 29 26 (.un .not) [28] 24 false,
 ⟨(some 30),27,.pick,[.t 24,.c (.bool true),.t 29],none⟩])
 (.cond (.t 30) (.seq (.region [oT 31 28 (.call false 391) [],
 oT 8 32 .move [31]])
 (.ret)) (.skip)))
 (.seq (.region [oT 33 33 .move [0],
 oT 34 34 .move [2],
 oT 35 35 (.load true 10) [7],
 oT 36 36 (.call false 151) [33,34,35],
 oT 32 40 .move [36],
 oT 37 41 (.extract 0) [32],
 oT 38 42 (.extract 1) [32],
 oT 9 43 .move [37],
 oT 10 44 .move [38]])
 (.seq (.region [oT 40 45 (.buildSlice 7 0 [.str ByteArray.empty,.int .i64 (0),.int .i64 (0),.int .i64 (0),.slice .full 2 0 eS,.bool false,.int .i64 (0)] []) [],
 oT 41 46 .move [0],
 oT 42 47 (.append 7 80) [40,41],
 oT 43 48 (.load true 7) [5],
 oT 44 49 (.buildSlice 7 1 [.str ByteArray.empty,.int .i64 (0),.int .i64 (0),.int .i64 (0),.slice .full 2 0 eS,.bool false,.int .i64 (0)] [(0,7)]) [43],
 oT 45 50 (.append 7 80) [42,44],
 oT 46 51 .move [2],
 oT 47 52 (.load true 10) [7],
 oT 48 53 (.call false 151) [45,46,47],
 oT 39 57 .move [48],
 oT 49 58 (.extract 0) [39],
 oT 50 59 (.extract 1) [39],
 oT 11 60 .move [49],
 oT 12 61 .move [50]])
 (.seq (.region [oT 52 62 (.load true 7) [5],
 oT 53 63 .move [2],
 oT 54 64 (.load true 10) [7],
 oT 55 65 (.call false 197) [52,53,54],
 oT 51 69 .move [55],
 oT 56 70 (.extract 0) [51],
 oT 57 71 (.extract 1) [51],
 oT 13 72 .move [56],
 oT 14 73 .move [57]])
 (.seq (.region [oT 58 74 .move [12],
 oT 59 75 .move [10],
 oT 60 76 .move [59],
 oG 61 77 .move [14] 60 false,
 ⟨(some 62),78,.pick,[.t 60,.c (.bool true),.t 61],none⟩,
 oT 63 79 (.binB false) [58,62],
 oT 64 80 .move [63],
 oG 65 81 .move [11] 64 true,
 oG 66 82 .move [9] 64 true,
 oG 67 83 (.bin .eql) [65,66] 64 true,
 oG 68 84 .move [67] 64 true,
 oG 69 85 .move [10] 68 true,
 ⟨(some 70),86,.pick,[.t 68,.t 69,.c (.bool false)],(some (64,true))⟩,
 oG 71 87 .move [70] 64 true,
 oG 72 88 .move [11] 71 false,
 oG 73 89 (.fieldAddr 0) [5] 71 false,
 oG 74 90 (.fieldAddr 0) [73] 71 false,
 oG 75 91 (.load false 1) [74] 71 false,
 oG 76 92 (.bin .eql) [72,75] 71 false,
 oG 77 93 .move [76] 71 false,
 oG 78 94 .move [14] 77 true,
 ⟨(some 79),95,.pick,[.t 77,.t 78,.c (.bool false)],(some (71,false))⟩,
 ⟨(some 80),96,.pick,[.t 71,.c (.bool true),.t 79],(some (64,true))⟩,
 oG 81 97 .move [80] 64 true,
 oG 82 98 .move [12] 81 false,
 oG 83 99 (.un .not) [82] 81 false,
 ⟨(some 84),100,.pick,[.t 81,.c (.bool true),.t 83],(some (64,true))⟩,
 ⟨(some 85),101,.pick,[.t 64,.t 84,.c (.bool false)],none⟩,
 oT 8 102 .move [85]])
 (.ret)))))))
 [.tmp 8] 0 82
def f381.env:Env:=[(391,f391.C),(392,f392.C),(151,f151.C),(197,f197.C)]
def f381.tree (a:(List (aC))×aC×(List (aI))×aG):Prop:=∃ c1:Unit,True∧Br (!(a8 c1)) (∃ c4:Unit,True∧((a8 c4)=(a8 a))∧True) (f392.ent (fun c7=>(fX c7)∧Br (!(fD c7)) (∃ c10:Unit,True∧((a8 c10)=(a8 a))∧True) (∃ c13:(List (aC))×(List (aI))×aG,SlQ 1 c13.1.length (fun _=>[.str a.2.1.1.1,.int .i64 a.2.1.1.2.1.1,.int .i64 a.2.1.1.2.1.2.1,.int .i64 a.2.1.1.2.1.2.2,.slice .ro 2 a.2.1.1.2.2.length (gl aH a.2.1.1.2.2),.bool a.2.1.2.1,.int .i64 a.2.1.2.2]) (gl aT c13.1) (SlQ 0 c13.2.1.length eS (gl aS c13.2.1) ((a.2.2.2.1=c13.2.2.1)∧(a.2.2.2.2.1=c13.2.2.2.1)∧(a.2.2.2.2.2.1=c13.2.2.2.2.1)∧(a.2.2.2.2.2.2.1.1=c13.2.2.2.2.2.1.1)∧(a.2.2.2.2.2.2.1.2.1=c13.2.2.2.2.2.1.2.1)∧(a.2.2.2.2.2.2.1.2.2=c13.2.2.2.2.2.1.2.2)∧SlQ a.2.2.2.2.2.2.2.1.length c13.2.2.2.2.2.2.1.length (gl aH a.2.2.2.2.2.2.2.1) (gl aH c13.2.2.2.2.2.2.1) ((a.2.2.2.2.2.2.2.2.1=c13.2.2.2.2.2.2.2.1)∧(a.2.2.2.2.2.2.2.2.2.1=c13.2.2.2.2.2.2.2.2.1)∧(a.2.2.2.2.2.2.2.2.2.2=c13.2.2.2.2.2.2.2.2.2)∧(fX c13)∧Br (!(fD c13)) (∃ c16:Unit,True∧((a8 c16)=(a8 a))∧True) (f151.ent (fun c19=>(eC c19)∧(tZ ((0+a.1.length) * 80))∧(((0+a.1.length)=(0+a.1.length)∧tZ (((0+a.1.length)+1) * 80))∧(∃ c20:(List (aC))×(List (aI))×aG,SlQ ((0+a.1.length)+1) c20.1.length (iE (iE (fun j=>List.take 7 (List.drop (j * 7) [])) 0 (gl aT a.1)) (0+a.1.length) (fun _=>[.str a.2.1.1.1,.int .i64 a.2.1.1.2.1.1,.int .i64 a.2.1.1.2.1.2.1,.int .i64 a.2.1.1.2.1.2.2,.slice .ro 2 a.2.1.1.2.2.length (gl aH a.2.1.1.2.2),.bool a.2.1.2.1,.int .i64 a.2.1.2.2])) (gl aT c20.1) (SlQ a.2.2.1.length c20.2.1.length (gl aS a.2.2.1) (gl aS c20.2.1) ((a.2.2.2.1=c20.2.2.1)∧(a.2.2.2.2.1=c20.2.2.2.1)∧(a.2.2.2.2.2.1=c20.2.2.2.2.1)∧(a.2.2.2.2.2.2.1.1=c20.2.2.2.2.2.1.1)∧(a.2.2.2.2.2.2.1.2.1=c20.2.2.2.2.2.1.2.1)∧(a.2.2.2.2.2.2.1.2.2=c20.2.2.2.2.2.1.2.2)∧SlQ a.2.2.2.2.2.2.2.1.length c20.2.2.2.2.2.2.1.length (gl aH a.2.2.2.2.2.2.2.1) (gl aH c20.2.2.2.2.2.2.1) ((a.2.2.2.2.2.2.2.2.1=c20.2.2.2.2.2.2.2.1)∧(a.2.2.2.2.2.2.2.2.2.1=c20.2.2.2.2.2.2.2.2.1)∧(a.2.2.2.2.2.2.2.2.2.2=c20.2.2.2.2.2.2.2.2.2)∧(eC c20)∧f197.ent (fun c21=>(fR c21)∧Br ((bF c19).2) (Br (((bF c20).2)==true) (Br (((bF c20).1).toList==((bF c19).1).toList) (Br ((bF c19).2) ((true=(a8 a))∧True) (Br (((bF c20).1).toList==a.2.1.1.1.toList) (Br ((bR c21).2) ((true=(a8 a))∧True) (((!((bF c20).2))=(a8 a))∧True)) (((!((bF c20).2))=(a8 a))∧True))) (Br (((bF c20).1).toList==a.2.1.1.1.toList) (Br ((bR c21).2) ((true=(a8 a))∧True) (((!((bF c20).2))=(a8 a))∧True)) (((!((bF c20).2))=(a8 a))∧True))) ((false=(a8 a))∧True)) (Br (((bF c20).2)==((bR c21).2)) (Br (((bF c20).1).toList==((bF c19).1).toList) (Br ((bF c19).2) ((true=(a8 a))∧True) (Br (((bF c20).1).toList==a.2.1.1.1.toList) (Br ((bR c21).2) ((true=(a8 a))∧True) (((!((bF c20).2))=(a8 a))∧True)) (((!((bF c20).2))=(a8 a))∧True))) (Br (((bF c20).1).toList==a.2.1.1.1.toList) (Br ((bR c21).2) ((true=(a8 a))∧True) (((!((bF c20).2))=(a8 a))∧True)) (((!((bF c20).2))=(a8 a))∧True))) ((false=(a8 a))∧True))) (a.2.1,a.2.2.1,a.2.2.2))))))) (a.1,a.2.2.1,a.2.2.2))))))) (a.1,a.2.2.1,a.2.2.2))
def f381.vc (a:(List (aC))×aC×(List (aI))×aG):Prop:=((¬((a8 ())=true)→((a8 ())=a8 a))∧(¬(¬((a8 ())=true))→(fX (a.1,a.2.2.1,a.2.2.2)∧((¬((fD (a.1,a.2.2.1,a.2.2.2))=true)→((a8 ())=a8 a))∧(¬(¬((fD (a.1,a.2.2.1,a.2.2.2))=true))→(fX ([a.2.1],[],a.2.2.2)∧((¬((fD ([a.2.1],[],a.2.2.2))=true)→((a8 ())=a8 a))∧(¬(¬((fD ([a.2.1],[],a.2.2.2))=true))→(eC (a.1,a.2.2.1,a.2.2.2)∧(0+a.1.length≤1073741824∧((0+a.1.length)+1≤1073741824∧(eC ((([])++a.1)++([a.2.1]),a.2.2.1,a.2.2.2)∧(fR (a.2.1,a.2.2.1,a.2.2.2)∧((((bF (a.1,a.2.2.1,a.2.2.2)).2)=true→(((((bF ((([])++a.1)++([a.2.1]),a.2.2.1,a.2.2.2)).2)==true)=true→((((bF ((([])++a.1)++([a.2.1]),a.2.2.1,a.2.2.2)).1)=((bF (a.1,a.2.2.1,a.2.2.2)).1)→(true=a8 a))∧(¬(((bF ((([])++a.1)++([a.2.1]),a.2.2.1,a.2.2.2)).1)=((bF (a.1,a.2.2.1,a.2.2.2)).1))→((((bF ((([])++a.1)++([a.2.1]),a.2.2.1,a.2.2.2)).1)=a.2.1.1.1→((((bR (a.2.1,a.2.2.1,a.2.2.2)).2)=true→(true=a8 a))∧(¬(((bR (a.2.1,a.2.2.1,a.2.2.2)).2)=true)→((!((bF ((([])++a.1)++([a.2.1]),a.2.2.1,a.2.2.2)).2))=a8 a))))∧(¬(((bF ((([])++a.1)++([a.2.1]),a.2.2.1,a.2.2.2)).1)=a.2.1.1.1)→((!((bF ((([])++a.1)++([a.2.1]),a.2.2.1,a.2.2.2)).2))=a8 a))))))∧(¬((((bF ((([])++a.1)++([a.2.1]),a.2.2.1,a.2.2.2)).2)==true)=true)→(false=a8 a))))∧(¬(((bF (a.1,a.2.2.1,a.2.2.2)).2)=true)→(((((bF ((([])++a.1)++([a.2.1]),a.2.2.1,a.2.2.2)).2)==((bR (a.2.1,a.2.2.1,a.2.2.2)).2))=true→((((bF ((([])++a.1)++([a.2.1]),a.2.2.1,a.2.2.2)).1)=((bF (a.1,a.2.2.1,a.2.2.2)).1)→((((bF ((([])++a.1)++([a.2.1]),a.2.2.1,a.2.2.2)).1)=a.2.1.1.1→((((bR (a.2.1,a.2.2.1,a.2.2.2)).2)=true→(true=a8 a))∧(¬(((bR (a.2.1,a.2.2.1,a.2.2.2)).2)=true)→((!((bF ((([])++a.1)++([a.2.1]),a.2.2.1,a.2.2.2)).2))=a8 a))))∧(¬(((bF ((([])++a.1)++([a.2.1]),a.2.2.1,a.2.2.2)).1)=a.2.1.1.1)→((!((bF ((([])++a.1)++([a.2.1]),a.2.2.1,a.2.2.2)).2))=a8 a))))∧(¬(((bF ((([])++a.1)++([a.2.1]),a.2.2.1,a.2.2.2)).1)=((bF (a.1,a.2.2.1,a.2.2.2)).1))→((((bF ((([])++a.1)++([a.2.1]),a.2.2.1,a.2.2.2)).1)=a.2.1.1.1→((((bR (a.2.1,a.2.2.1,a.2.2.2)).2)=true→(true=a8 a))∧(¬(((bR (a.2.1,a.2.2.1,a.2.2.2)).2)=true)→((!((bF ((([])++a.1)++([a.2.1]),a.2.2.1,a.2.2.2)).2))=a8 a))))∧(¬(((bF ((([])++a.1)++([a.2.1]),a.2.2.1,a.2.2.2)).1)=a.2.1.1.1)→((!((bF ((([])++a.1)++([a.2.1]),a.2.2.1,a.2.2.2)).2))=a8 a))))))∧(¬((((bF ((([])++a.1)++([a.2.1]),a.2.2.1,a.2.2.2)).2)==((bR (a.2.1,a.2.2.1,a.2.2.2)).2))=true)→(false=a8 a))))))))))))))))))
set_option maxRecDepth 100000 in
set_option maxHeartbeats 2000000 in
theorem f381.of (a:(List (aC))×aC×(List (aI))×aG) (h:f381.vc a):f381.tree a:=⟨(),⟨trivial,br h (Cnd.not Cnd.b) (fun h2 k99=>⟨(),⟨trivial,⟨k99,trivial⟩⟩⟩) (fun h3 k100=>(f392.ei ⟨k100.1,br k100.2 (Cnd.not Cnd.b) (fun h8 k96=>⟨(),⟨trivial,⟨k96,trivial⟩⟩⟩) (fun h9 k97=>⟨([a.2.1],[],a.2.2.2),slQ (Rds.one (enc:=aT) (DEqs.refl _)) (slQ (Rds.nil (enc:=aS)) (⟨rfl,⟨rfl,⟨rfl,⟨rfl,⟨rfl,⟨rfl,slQ (Rds.self (enc:=aH)) (⟨rfl,⟨rfl,⟨rfl,⟨k97.1,br k97.2 (Cnd.not Cnd.b) (fun h14 k93=>⟨(),⟨trivial,⟨k93,trivial⟩⟩⟩) (fun h15 k94=>(f151.ei ⟨k94.1,⟨(sJ k94.2.1 (by decide)),⟨⟨rfl,(sJ k94.2.2.1 (by decide))⟩,⟨((([])++a.1)++([a.2.1]),a.2.2.1,a.2.2.2),slQ (Rds.app (enc:=aT) (Rds.app (enc:=aT) (Rds.nil (enc:=aT)) (Rds.self (enc:=aT))) (Rds.one (enc:=aT) (DEqs.refl _))) (slQ (Rds.self (enc:=aS)) (⟨rfl,⟨rfl,⟨rfl,⟨rfl,⟨rfl,⟨rfl,slQ (Rds.self (enc:=aH)) (⟨rfl,⟨rfl,⟨rfl,⟨k94.2.2.2.1,(f197.ei ⟨k94.2.2.2.2.1,br k94.2.2.2.2.2 Cnd.b (fun h22 k88=>br k88 Cnd.b (fun h24 k54=>br k54 Cnd.seq (fun h26 k51=>brT Cnd.b h22 (⟨k51,trivial⟩)) (fun h27 k52=>br k52 Cnd.seq (fun h40 k49=>br k49 Cnd.b (fun h42 k46=>⟨k46,trivial⟩) (fun h43 k47=>⟨k47,trivial⟩)) (fun h41 k50=>⟨k50,trivial⟩))) (fun h25 k55=>⟨k55,trivial⟩)) (fun h23 k89=>br k89 Cnd.b (fun h56 k86=>br k86 Cnd.seq (fun h58 k83=>brF Cnd.b h23 (br k83 Cnd.seq (fun h61 k70=>br k70 Cnd.b (fun h63 k67=>⟨k67,trivial⟩) (fun h64 k68=>⟨k68,trivial⟩)) (fun h62 k71=>⟨k71,trivial⟩))) (fun h59 k84=>br k84 Cnd.seq (fun h72 k81=>br k81 Cnd.b (fun h74 k78=>⟨k78,trivial⟩) (fun h75 k79=>⟨k79,trivial⟩)) (fun h73 k82=>⟨k82,trivial⟩))) (fun h57 k87=>⟨k87,trivial⟩))⟩)⟩⟩⟩⟩)⟩⟩⟩⟩⟩⟩))⟩⟩⟩⟩))⟩⟩⟩⟩)⟩⟩⟩⟩⟩⟩))⟩)⟩))⟩⟩
theorem f381.eq (a:(List (aC))×aC×(List (aI))×aG):(f381.af a).gives f381.env (f381.args a) (f381.blks a) (f381.res a) (f381.blks' a)=f381.tree a:=by kernel_rfl
end Go.Abs

-- interregnum/interregnumlaw12.RankTells
namespace Go.Abs
open Go
end Go.Abs

/- interregnum/interregnumlaw12.RankTells -/
namespace Go.Abs
open Go
set_option linter.unusedVariables false
end Go.Abs

-- interregnum/interregnumlaw12.RankOrder
namespace Go.Abs
open Go
end Go.Abs

/- interregnum/interregnumlaw12.RankOrder -/
namespace Go.Abs
open Go
set_option linter.unusedVariables false
end Go.Abs

/- The laws of layer 12. -/
namespace Go.Abs
open Go

theorem vU {l:List dC} {jobs:List eO} {t:cZ} (hl:cM.size l≤1048576) (hj:fG.size jobs≤1048576) (ht:eK.size t≤1048576):eC (l,jobs,t)∧fX (l,jobs,t):=by
 have h2:(l.map bU.size).sum+1=cM.size l:=rfl
 have h3:=yR bU.size (fun x=>Nat.le_add_left 1 _) l
 have hj:=yV (l:=jobs) hj
 have htt:=xH (t:=t) ht
 have hw:=vI (t:=t) ht
 have hm:∀ m∈l,hZ m.1∧L20 m.1.2.2:=fun m hm=>xP (by
  have h1:bU.size m≤(l.map bU.size).sum:=aDL _ hm
  omega)
 have hl20:l.length≤1048576:=by omega
 exact ⟨⟨hl20,fun m hx=>⟨hj,(hm m hx).1,htt,(hm m hx).2,hw⟩⟩,hl20,hj,hw,fun m hx=>⟨(hm m hx).1.1,(hm m hx).2⟩⟩

theorem f391.ok (a:Unit) (_:True):f391.vc a:=by
 have e1:bF ([((f391.s0,((4:Int),(4:Int),(4:Int)),[]),true,(0:Int))],[],(f391.s1,f391.s2,(0:Int),((0:Int),(0:Int),(0:Int)),[],ByteArray.empty,ByteArray.empty,(0:Int)))=(f391.s0,true):=by decide +kernel
 unfold f391.vc
 rw [e1]
 refine ⟨⟨Nat.le_of_ble_eq_true rfl,fun m hm=>?_⟩,fun _=>rfl,fun c=>absurd rfl c⟩
 rw [List.mem_singleton.1 hm]
 refine ⟨Nat.le_of_ble_eq_true rfl,⟨?_,?_⟩,⟨?_,?_,?_,?_,?_⟩,Nat.le_of_ble_eq_true rfl,Nat.le_of_ble_eq_true rfl⟩ <;> first | exact Nat.le_of_ble_eq_true rfl | exact fun x hx=>absurd hx List.not_mem_nil

theorem f381.ok (a:List dC×dC×List eO×cZ) (h:f381.lpre a):f381.vc a:=by
 obtain ⟨_,hs⟩:=h
 obtain ⟨l,m,jobs,t⟩:=a
 have hs:cM.size l+(bU.size m+(fG.size jobs+eK.size t))≤1048576:=hs
 have hsz:cM.size (l++[m])=cM.size l+bU.size m:=by
  show ((l++[m]).map bU.size).sum+1=(l.map bU.size).sum+1+bU.size m
  rw [List.map_append,List.sum_append]
  simp only [List.map_cons,List.map_nil,List.sum_cons,List.sum_nil]
  omega
 obtain ⟨hc,hf⟩:=vU (l:=l) (jobs:=jobs) (t:=t) (by omega) (by omega) (by omega)
 obtain ⟨hc2,_⟩:=vU (l:=l++[m]) (jobs:=jobs) (t:=t) (by omega) (by omega) (by omega)
 have hf2:fX ([m],[],t):=by
  refine ⟨by unfold L20; simp,by unfold L20; simp,hf.2.2.1,fun x hx=>?_⟩
  rw [List.mem_singleton.1 hx]
  have:=hc2.2 m (by simp)
  exact ⟨this.2.1.1,this.2.2.2.1⟩
 have h1:l.length≤1048576:=hc.1
 have hw:fR (m,jobs,t):=hc2.2 m (by simp)
 refine ⟨fun _=>rfl,fun _=>⟨hf,fun _=>rfl,fun _=>⟨hf2,fun _=>rfl,fun _=>?_⟩⟩⟩
 simp only [List.nil_append]
 have hA:kK (l++[m],jobs,t)=if (bR (m,jobs,t)).2=true then r5 aF (m.1.1,(bR (m,jobs,t)).1) (kK (l,jobs,t)) else kK (l,jobs,t):=by
  unfold kK
  rw [sZ,uC]
  split
  ·rw [aEB]
  ·rw [List.append_nil]
 -- the best one: as before,or the new one
 have key:((bF (l++[m],jobs,t)).2=((bF (l,jobs,t)).2 || (bR (m,jobs,t)).2))∧((bF (l++[m],jobs,t))=bF (l,jobs,t)∨(bR (m,jobs,t)).2=true∧bF (l++[m],jobs,t)=(m.1.1,true)):=by
  unfold bF
  rw [hA]
  generalize kK (l,jobs,t)=A
  cases hcan:(bR (m,jobs,t)).2 with
  | false=>exact ⟨by simp,.inl rfl⟩
  | true =>
   rw [if_pos rfl]
   cases A with
   | nil=>exact ⟨rfl,.inr ⟨rfl,rfl⟩⟩
   | cons y A =>
    rw [r5]
    split
    ·exact ⟨rfl,.inl rfl⟩
    ·exact ⟨rfl,.inr ⟨rfl,rfl⟩⟩
 obtain ⟨k1,k2⟩:=key
 generalize bF (l++[m],jobs,t)=B at k1 k2 ⊢
 generalize bF (l,jobs,t)=A at k1 k2 ⊢
 generalize (bR (m,jobs,t)).2=c at k1 k2 ⊢
 obtain ⟨bn,bo⟩:=B
 obtain ⟨an,ao⟩:=A
 simp only at k1 k2 ⊢
 refine ⟨hc,by omega,by omega,hc2,hw,fun ha=>?_,fun ha=>?_⟩
 ·subst ha
  simp only [Bool.true_or] at k1
  subst k1
  refine ⟨fun _=>⟨fun _=>rfl,fun hn=>?_⟩,fun c=>absurd rfl c⟩
  rcases k2 with k2 | ⟨k2,k3⟩
  ·exact absurd (congrArg Prod.fst k2) hn
  ·exact ⟨fun _=>⟨fun _=>rfl,fun c=>absurd k2 c⟩,fun c=>absurd (congrArg Prod.fst k3) c⟩
 ·have ha:ao=false:=Bool.eq_false_iff.2 ha
  subst ha
  simp only [Bool.false_or] at k1
  subst k1
  refine ⟨fun _=>?_,fun c=>absurd (beq_self_eq_true _) c⟩
  have main:(bn=m.1.1→(bo=true→(true=a8 (l,m,jobs,t)))∧(¬bo=true→((!bo)=a8 (l,m,jobs,t))))∧(¬bn=m.1.1→((!bo)=a8 (l,m,jobs,t))):=by
   have no:¬bo=true→((!bo)=a8 (l,m,jobs,t)):=fun hb=>by
    rw [Bool.eq_false_iff.2 hb]
    rfl
   refine ⟨fun _=>⟨fun _=>rfl,no⟩,fun hn=>no fun hb=>?_⟩
   rcases k2 with k2 | ⟨_,k3⟩
   ·have:=congrArg Prod.snd k2
    simp only at this
    rw [this] at hb
    cases hb
   ·exact hn (congrArg Prod.fst k3)
  exact ⟨fun _=>main,fun _=>main⟩
end Go.Abs
