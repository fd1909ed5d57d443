/- Functions, and what the code asks of them: PRankLaw. -/
import Derived.KernelRfl
import Derived.Test.YtabnaedcnfkmiafRankBestP3
import Derived.Test.YtabnaedcnfkmiafRankBestP4
import Derived.Test.YtabnaedcnfkmiafRankBestP5
import Derived.Test.YtabnaedcnfkmiafRankBestP6
import Derived.Test.YtabnaedcnfkmiafRankBestP7
import Derived.Test.YtabnaedcnfkmiafRankBestP8
import Derived.Test.YtabnaedcnfkmiafRankBestP9
import Derived.Test.YtabnaedcnfkmiafRankBestP10
import Derived.Test.YtabnaedcnfkmiafRankBestP11
import Derived.Test.YtabnaedcnfkmiafRankBestP12
import Derived.Test.YtabnaedcnfkmiafRankBestP13
import Derived.Test.YtabnaedcnfkmiafRankBestP14
import Derived.Test.YtabnaedcnfkmiafRankBestP15
import Derived.Test.YtabnaedcnfkmiafRankBestP16
import Derived.Test.YtabnaedcnfkmiafRankBestP17
import Derived.Test.YtabnaedcnfkmiafRankBestP18
import Derived.Test.YtabnaedcnfkmiafRankBestP19
import Derived.Test.YtabnaedcnfkmiafRankBestP20
import Derived.Test.YtabnaedcnfkmiafRankBestP21
set_option linter.unusedVariables false
set_option linter.unusedSimpArgs false
-- interregnum/interregnumlaw12.awake
namespace Go.Abs
open Go
def f391.args (a:Unit):List D:=[]
def f391.blks (a:Unit):List (List D):=[]
def f391.res (a:Unit):List D:=[.bool (bS a)]
def f391.blks' (a:Unit):List (List D):=[]
def f391.C:aM:=FnC f391.args f391.blks (fun _=>True) f391.res f391.blks'
end Go.Abs

/- interregnum/interregnumlaw12.awake -/
namespace Go.Abs
open Go
set_option linter.unusedVariables false
def f391.s0:ByteArray:=⟨#[110]⟩
def f391.s1:ByteArray:=⟨#[116]⟩
def f391.s2:ByteArray:=⟨#[113]⟩
def f391.kills (a:Unit):List Hint:=[]
def f391.cuts (a:Unit):List (Nat×Σ β:Type,β→Tm):=[]
def f391.af (a:Unit):AF:=AF.mk (.seq (.region [⟨(some 0),0,.move,[.c (.bool false)],none⟩])
 (.seq (.region [⟨(some 4),1,(.build [.int .i64 (0),.int .i64 (0),.int .i64 (0)] [(0,1),(1,1),(2,1)]),[.c (.int .i64 (4)),.c (.int .i64 (4)),.c (.int .i64 (4))],none⟩,
 ⟨(some 5),2,(.build [.str ByteArray.empty,.int .i64 (0),.int .i64 (0),.int .i64 (0),.slice .full 2 0 fK] [(0,1),(1,3)]),[.c (.str f391.s0),.t 4],none⟩,
 ⟨(some 6),3,(.build [.str ByteArray.empty,.int .i64 (0),.int .i64 (0),.int .i64 (0),.slice .full 2 0 fK,.bool false,.int .i64 (0)] [(0,5),(5,1)]),[.t 5,.c (.bool true)],none⟩,
 oT 1 4 (.alloc [.str ByteArray.empty,.int .i64 (0),.int .i64 (0),.int .i64 (0),.slice (.own 0) 2 0 fK,.bool false,.int .i64 (0)]) [],
 ⟨none,12,(.store 7),[.t 1,.t 6],none⟩])
 (.seq (.region [oT 8 13 (.load true 7) [1],
 oT 9 14 (.buildSlice 7 1 [.str ByteArray.empty,.int .i64 (0),.int .i64 (0),.int .i64 (0),.slice .full 2 0 fK,.bool false,.int .i64 (0)] [(0,7)]) [8],
 ⟨(some 10),15,(.build [.str ByteArray.empty,.str ByteArray.empty,.int .i64 (0),.int .i64 (0),.int .i64 (0),.int .i64 (0),.slice .full 2 0 fK,.str ByteArray.empty,.str ByteArray.empty,.int .i64 (0)] [(0,1),(1,1)]),[.c (.str f391.s1),.c (.str f391.s2)],none⟩,
 ⟨(some 11),16,(.call false 151),[.t 9,.c (.slice .full 13 0 fK),.t 10],none⟩,
 oT 7 20 .move [11],
 oT 12 21 (.extract 0) [7],
 oT 13 22 (.extract 1) [7],
 oT 2 23 .move [12],
 oT 3 24 .move [13]])
 (.seq (.region [oT 14 25 .move [2],
 ⟨(some 15),26,(.bin .eql),[.t 14,.c (.str f391.s0)],none⟩,
 oT 16 27 .move [15],
 oG 17 28 .move [3] 16 true,
 ⟨(some 18),29,.pick,[.t 16,.t 17,.c (.bool false)],none⟩,
 oT 0 30 .move [18]])
 (.ret)))))
 [.tmp 0] 0 19
def f391.env:Env:=[(151,f151.C)]
def f391.tree (a:Unit):Prop:=∃ c1:(List (aC))×(List (aH))×aF,SlQ 1 c1.1.length (fun _=>[.str f391.s0,.int .i64 (4:Int),.int .i64 (4:Int),.int .i64 (4:Int),.slice .ro 2 0 fK,.bool true,.int .i64 (0:Int)]) (gl aP c1.1) (SlQ 0 c1.2.1.length fK (gl aO c1.2.1) ((f391.s1=c1.2.2.1)∧(f391.s2=c1.2.2.2.1)∧((0:Int)=c1.2.2.2.2.1)∧((0:Int)=c1.2.2.2.2.2.1.1)∧((0:Int)=c1.2.2.2.2.2.1.2.1)∧((0:Int)=c1.2.2.2.2.2.1.2.2)∧SlQ 0 c1.2.2.2.2.2.2.1.length fK (gl aI c1.2.2.2.2.2.2.1) ((ByteArray.empty=c1.2.2.2.2.2.2.2.1)∧(ByteArray.empty=c1.2.2.2.2.2.2.2.2.1)∧((0:Int)=c1.2.2.2.2.2.2.2.2.2)∧(dF c1)∧Br (((bL c1).1).toList==f391.s0.toList) ((((bL c1).2)=(bS a))∧True) ((false=(bS a))∧True))))
def f391.vc (a:Unit):Prop:=(dF ([((f391.s0,((4:Int),(4:Int),(4:Int)),[]),true,(0:Int))],[],(f391.s1,f391.s2,(0:Int),((0:Int),(0:Int),(0:Int)),[],ByteArray.empty,ByteArray.empty,(0:Int)))∧((((bL ([((f391.s0,((4:Int),(4:Int),(4:Int)),[]),true,(0:Int))],[],(f391.s1,f391.s2,(0:Int),((0:Int),(0:Int),(0:Int)),[],ByteArray.empty,ByteArray.empty,(0:Int)))).1)=f391.s0→((bL ([((f391.s0,((4:Int),(4:Int),(4:Int)),[]),true,(0:Int))],[],(f391.s1,f391.s2,(0:Int),((0:Int),(0:Int),(0:Int)),[],ByteArray.empty,ByteArray.empty,(0:Int)))).2=bS a))∧(¬(((bL ([((f391.s0,((4:Int),(4:Int),(4:Int)),[]),true,(0:Int))],[],(f391.s1,f391.s2,(0:Int),((0:Int),(0:Int),(0:Int)),[],ByteArray.empty,ByteArray.empty,(0:Int)))).1)=f391.s0)→(false=bS a))))
set_option maxRecDepth 100000 in
set_option maxHeartbeats 2000000 in
theorem f391.of (a:Unit) (h:f391.vc a):f391.tree a:=⟨([((f391.s0,((4:Int),(4:Int),(4:Int)),[]),true,(0:Int))],[],(f391.s1,f391.s2,(0:Int),((0:Int),(0:Int),(0:Int)),[],ByteArray.empty,ByteArray.empty,(0:Int))),slQ (Rds.one (enc:=aP) (DEqs.cons (DEq.refl _) (DEqs.cons (DEq.refl _) (DEqs.cons (DEq.refl _) (DEqs.cons (DEq.refl _) (DEqs.cons ((Rds.nil (enc:=aI))).deq (DEqs.cons (DEq.refl _) (DEqs.cons (DEq.refl _) DEqs.nil)))))))) (slQ (Rds.nil (enc:=aO)) (⟨rfl,⟨rfl,⟨rfl,⟨rfl,⟨rfl,⟨rfl,slQ (Rds.nil (enc:=aI)) (⟨rfl,⟨rfl,⟨rfl,⟨h.1,br h.2 Cnd.seq (fun h2 k6=>⟨k6,trivial⟩) (fun h3 k7=>⟨k7,trivial⟩)⟩⟩⟩⟩)⟩⟩⟩⟩⟩⟩))⟩
theorem f391.eq (a:Unit):(f391.af a).gives f391.env (f391.args a) (f391.blks a) (f391.res a) (f391.blks' a)=f391.tree a:=by kernel_rfl
end Go.Abs

-- interregnum/interregnumlaw12.RankMore
namespace Go.Abs
open Go
end Go.Abs

/- interregnum/interregnumlaw12.RankMore -/
namespace Go.Abs
open Go
set_option linter.unusedVariables false
end Go.Abs

-- interregnum/interregnumlaw12.RankTells
namespace Go.Abs
open Go
end Go.Abs

/- interregnum/interregnumlaw12.RankTells -/
namespace Go.Abs
open Go
set_option linter.unusedVariables false
end Go.Abs

-- interregnum/interregnumlaw12.RankBest
namespace Go.Abs
open Go
def f404.wf (a:(List (aC))×(List (aH))×aF):Prop:=dP.ok a.1∧fJ.ok a.2.1∧eS.ok a.2.2
def f404.size (a:(List (aC))×(List (aH))×aF):Nat:=dP.size a.1+(fJ.size a.2.1+(eS.size a.2.2))
def f404.lpre (a:(List (aC))×(List (aH))×aF):Prop:=f404.wf a∧f404.size a≤1048576
def f404.args (a:(List (aC))×(List (aH))×aF):List D:=[.slice .ro 7 a.1.length (gl aP a.1),.slice .ro 13 a.2.1.length (gl aO a.2.1),.agg [.str a.2.2.1,.str a.2.2.2.1,.int .i64 a.2.2.2.2.1,.int .i64 a.2.2.2.2.2.1.1,.int .i64 a.2.2.2.2.2.1.2.1,.int .i64 a.2.2.2.2.2.1.2.2,.slice .ro 2 a.2.2.2.2.2.2.1.length (gl aI a.2.2.2.2.2.2.1),.str a.2.2.2.2.2.2.2.1,.str a.2.2.2.2.2.2.2.2.1,.int .i64 a.2.2.2.2.2.2.2.2.2]]
def f404.blks (a:(List (aC))×(List (aH))×aF):List (List D):=[]
def f404.res (a:(List (aC))×(List (aH))×aF):List D:=[.bool (bS a)]
def f404.blks' (a:(List (aC))×(List (aH))×aF):List (List D):=[]
def f404.C:aM:=FnC f404.args f404.blks (fun a=>f404.lpre a) f404.res f404.blks'
end Go.Abs

/- interregnum/interregnumlaw12.RankBest -/
namespace Go.Abs
open Go
set_option linter.unusedVariables false
def f404.S0 (a:(List (aC))×(List (aH))×aF) (x:ByteArray×Bool×Int×Bool×Int):Tm:=⟨[.slice .ro 7 a.1.length (gl aP a.1),.slice .ro 13 a.2.1.length (gl aO a.2.1),.dead,.dead,.dead,.ptr 0 0,.dead,.str x.1,.bool x.2.1,.dead,.int .i64 x.2.2.1,.bool x.2.2.2.1,.dead,.dead,.dead,.dead,.dead,.dead,.dead,.dead,.dead,.dead,.dead,.dead,.dead,.dead,.dead,.dead,.dead,.dead,.dead,.dead,.dead,.dead,.dead,.dead,.dead,.dead,.dead,.dead,.dead,.dead,.dead,.dead,.dead,.dead,.dead,.dead,.dead,.dead,.dead,.dead,.dead,.dead,.dead,.dead,.dead,.dead,.dead,.dead,.dead,.dead,.dead,.int .i64 (a.1.length:Int),.int .i64 x.2.2.2.2,.dead,.dead,.dead,.dead,.dead,.dead,.dead,.dead,.dead,.dead,.dead,.dead,.dead,.dead,.dead,.dead,.dead,.dead,.dead,.dead,.dead,.dead,.dead,.dead,.dead,.dead,.dead,.dead,.dead,.dead,.dead,.dead,.dead,.dead,.dead,.dead,.dead,.dead,.dead,.dead,.dead,.dead,.dead,.dead,.dead,.dead,.dead,.dead,.dead,.dead,.dead,.dead,.dead,.dead,.dead,.dead,.dead,.dead,.dead,.dead,.dead,.dead,.dead,.dead,.dead,.dead,.dead,.dead,.dead,.dead,.dead,.dead,.dead,.dead,.dead,.dead,.dead,.dead,.dead,.dead,.dead,.dead,.dead,.dead],[(0,false,[.str a.2.2.1,.str a.2.2.2.1,.int .i64 a.2.2.2.2.1,.int .i64 a.2.2.2.2.2.1.1,.int .i64 a.2.2.2.2.2.1.2.1,.int .i64 a.2.2.2.2.2.1.2.2,.slice .ro 2 a.2.2.2.2.2.2.1.length (gl aI a.2.2.2.2.2.2.1),.str a.2.2.2.2.2.2.2.1,.str a.2.2.2.2.2.2.2.2.1,.int .i64 a.2.2.2.2.2.2.2.2.2])],[]⟩
def f404.S1 (a:(List (aC))×(List (aH))×aF) (x:ByteArray×Bool×Int×Bool×Int):Tm:=⟨[.slice .ro 7 a.1.length (gl aP a.1),.slice .ro 13 a.2.1.length (gl aO a.2.1),.dead,.dead,.dead,.ptr 0 0,.dead,.str x.1,.bool x.2.1,.dead,.int .i64 x.2.2.1,.bool x.2.2.2.1,.dead,.dead,.dead,.dead,.dead,.dead,.dead,.dead,.dead,.dead,.dead,.dead,.dead,.dead,.dead,.dead,.dead,.dead,.dead,.dead,.dead,.dead,.dead,.dead,.dead,.dead,.dead,.dead,.dead,.dead,.dead,.dead,.dead,.dead,.dead,.dead,.dead,.dead,.dead,.dead,.dead,.dead,.dead,.dead,.dead,.dead,.dead,.dead,.dead,.dead,.dead,.dead,.dead,.dead,.dead,.dead,.dead,.dead,.dead,.dead,.dead,.dead,.dead,.dead,.dead,.dead,.dead,.dead,.dead,.dead,.dead,.dead,.dead,.dead,.dead,.dead,.dead,.dead,.dead,.dead,.dead,.dead,.dead,.dead,.dead,.dead,.dead,.dead,.dead,.dead,.dead,.dead,.dead,.dead,.dead,.dead,.dead,.dead,.int .i64 (a.1.length:Int),.int .i64 x.2.2.2.2,.dead,.dead,.dead,.dead,.dead,.dead,.dead,.dead,.dead,.dead,.dead,.dead,.dead,.dead,.dead,.dead,.dead,.dead,.dead,.dead,.dead,.dead,.dead,.dead,.dead,.dead,.dead,.dead,.dead,.dead,.dead,.dead,.dead,.dead,.dead,.dead,.dead],[(0,false,[.str a.2.2.1,.str a.2.2.2.1,.int .i64 a.2.2.2.2.1,.int .i64 a.2.2.2.2.2.1.1,.int .i64 a.2.2.2.2.2.1.2.1,.int .i64 a.2.2.2.2.2.1.2.2,.slice .ro 2 a.2.2.2.2.2.2.1.length (gl aI a.2.2.2.2.2.2.1),.str a.2.2.2.2.2.2.2.1,.str a.2.2.2.2.2.2.2.2.1,.int .i64 a.2.2.2.2.2.2.2.2.2])],[]⟩
def f404.s6 (a:(List (aC))×(List (aH))×aF) (K:(ByteArray×Bool)→Prop) (t:ByteArray×Bool):Prop:=∃ x:ByteArray×Bool,SlS aP a.1 (SlS aO a.2.1 ((t.1=x.1)∧(t.2=x.2)∧(a.2.2.1=a.2.2.1)∧(a.2.2.2.1=a.2.2.2.1)∧(a.2.2.2.2.1=a.2.2.2.2.1)∧(a.2.2.2.2.2.1.1=a.2.2.2.2.2.1.1)∧(a.2.2.2.2.2.1.2.1=a.2.2.2.2.2.1.2.1)∧(a.2.2.2.2.2.1.2.2=a.2.2.2.2.2.1.2.2)∧SlS aI a.2.2.2.2.2.2.1 ((a.2.2.2.2.2.2.2.1=a.2.2.2.2.2.2.2.1)∧(a.2.2.2.2.2.2.2.2.1=a.2.2.2.2.2.2.2.2.1)∧(a.2.2.2.2.2.2.2.2.2=a.2.2.2.2.2.2.2.2.2)∧K x)))
theorem f404.s6i (a:(List (aC))×(List (aH))×aF) {K:(ByteArray×Bool)→Prop} {t:ByteArray×Bool} (h:K t):f404.s6 a K t:=⟨t,SlS.mk  (SlS.mk  (⟨rfl,⟨rfl,⟨rfl,⟨rfl,⟨rfl,⟨rfl,⟨rfl,⟨rfl,SlS.mk  (⟨rfl,⟨rfl,⟨rfl,h⟩⟩⟩)⟩⟩⟩⟩⟩⟩⟩⟩))⟩
def f404.l0 (a:(List (aC))×(List (aH))×aF) (K:(ByteArray×Bool×Int×Bool×Int)→Prop) (t:ByteArray×Bool×Int×Bool×Int):Prop:=∃ x:ByteArray×Bool×Int×Bool×Int,SlS aP a.1 (SlS aO a.2.1 ((t.1=x.1)∧(t.2.1=x.2.1)∧(t.2.2.1=x.2.2.1)∧(t.2.2.2.1=x.2.2.2.1)∧((a.1.length:Int)=(a.1.length:Int))∧(t.2.2.2.2=x.2.2.2.2)∧(a.2.2.1=a.2.2.1)∧(a.2.2.2.1=a.2.2.2.1)∧(a.2.2.2.2.1=a.2.2.2.2.1)∧(a.2.2.2.2.2.1.1=a.2.2.2.2.2.1.1)∧(a.2.2.2.2.2.1.2.1=a.2.2.2.2.2.1.2.1)∧(a.2.2.2.2.2.1.2.2=a.2.2.2.2.2.1.2.2)∧SlS aI a.2.2.2.2.2.2.1 ((a.2.2.2.2.2.2.2.1=a.2.2.2.2.2.2.2.1)∧(a.2.2.2.2.2.2.2.2.1=a.2.2.2.2.2.2.2.2.1)∧(a.2.2.2.2.2.2.2.2.2=a.2.2.2.2.2.2.2.2.2)∧K x)))
theorem f404.l0i (a:(List (aC))×(List (aH))×aF) {K:(ByteArray×Bool×Int×Bool×Int)→Prop} {t:ByteArray×Bool×Int×Bool×Int} (h:K t):f404.l0 a K t:=⟨t,SlS.mk  (SlS.mk  (⟨rfl,⟨rfl,⟨rfl,⟨rfl,⟨rfl,⟨rfl,⟨rfl,⟨rfl,⟨rfl,⟨rfl,⟨rfl,⟨rfl,SlS.mk  (⟨rfl,⟨rfl,⟨rfl,h⟩⟩⟩)⟩⟩⟩⟩⟩⟩⟩⟩⟩⟩⟩⟩))⟩
def f404.s14 (a:(List (aC))×(List (aH))×aF) (K:(ByteArray×Bool×Int×Bool×Int)→Prop) (t:ByteArray×Bool×Int×Bool×Int):Prop:=∃ x:ByteArray×Bool×Int×Bool×Int,SlS aP a.1 (SlS aO a.2.1 ((t.1=x.1)∧(t.2.1=x.2.1)∧(t.2.2.1=x.2.2.1)∧(t.2.2.2.1=x.2.2.2.1)∧((a.1.length:Int)=(a.1.length:Int))∧(t.2.2.2.2=x.2.2.2.2)∧(a.2.2.1=a.2.2.1)∧(a.2.2.2.1=a.2.2.2.1)∧(a.2.2.2.2.1=a.2.2.2.2.1)∧(a.2.2.2.2.2.1.1=a.2.2.2.2.2.1.1)∧(a.2.2.2.2.2.1.2.1=a.2.2.2.2.2.1.2.1)∧(a.2.2.2.2.2.1.2.2=a.2.2.2.2.2.1.2.2)∧SlS aI a.2.2.2.2.2.2.1 ((a.2.2.2.2.2.2.2.1=a.2.2.2.2.2.2.2.1)∧(a.2.2.2.2.2.2.2.2.1=a.2.2.2.2.2.2.2.2.1)∧(a.2.2.2.2.2.2.2.2.2=a.2.2.2.2.2.2.2.2.2)∧K x)))
theorem f404.s14i (a:(List (aC))×(List (aH))×aF) {K:(ByteArray×Bool×Int×Bool×Int)→Prop} {t:ByteArray×Bool×Int×Bool×Int} (h:K t):f404.s14 a K t:=⟨t,SlS.mk  (SlS.mk  (⟨rfl,⟨rfl,⟨rfl,⟨rfl,⟨rfl,⟨rfl,⟨rfl,⟨rfl,⟨rfl,⟨rfl,⟨rfl,⟨rfl,SlS.mk  (⟨rfl,⟨rfl,⟨rfl,h⟩⟩⟩)⟩⟩⟩⟩⟩⟩⟩⟩⟩⟩⟩⟩))⟩
def f404.l1 (a:(List (aC))×(List (aH))×aF) (K:(ByteArray×Bool×Int×Bool×Int)→Prop) (t:ByteArray×Bool×Int×Bool×Int):Prop:=∃ x:ByteArray×Bool×Int×Bool×Int,SlS aP a.1 (SlS aO a.2.1 ((t.1=x.1)∧(t.2.1=x.2.1)∧(t.2.2.1=x.2.2.1)∧(t.2.2.2.1=x.2.2.2.1)∧((a.1.length:Int)=(a.1.length:Int))∧(t.2.2.2.2=x.2.2.2.2)∧(a.2.2.1=a.2.2.1)∧(a.2.2.2.1=a.2.2.2.1)∧(a.2.2.2.2.1=a.2.2.2.2.1)∧(a.2.2.2.2.2.1.1=a.2.2.2.2.2.1.1)∧(a.2.2.2.2.2.1.2.1=a.2.2.2.2.2.1.2.1)∧(a.2.2.2.2.2.1.2.2=a.2.2.2.2.2.1.2.2)∧SlS aI a.2.2.2.2.2.2.1 ((a.2.2.2.2.2.2.2.1=a.2.2.2.2.2.2.2.1)∧(a.2.2.2.2.2.2.2.2.1=a.2.2.2.2.2.2.2.2.1)∧(a.2.2.2.2.2.2.2.2.2=a.2.2.2.2.2.2.2.2.2)∧K x)))
theorem f404.l1i (a:(List (aC))×(List (aH))×aF) {K:(ByteArray×Bool×Int×Bool×Int)→Prop} {t:ByteArray×Bool×Int×Bool×Int} (h:K t):f404.l1 a K t:=⟨t,SlS.mk  (SlS.mk  (⟨rfl,⟨rfl,⟨rfl,⟨rfl,⟨rfl,⟨rfl,⟨rfl,⟨rfl,⟨rfl,⟨rfl,⟨rfl,⟨rfl,SlS.mk  (⟨rfl,⟨rfl,⟨rfl,h⟩⟩⟩)⟩⟩⟩⟩⟩⟩⟩⟩⟩⟩⟩⟩))⟩
def f404.s25 (a:(List (aC))×(List (aH))×aF) (K:(ByteArray×Bool×Int×Bool×Int)→Prop) (t:ByteArray×Bool×Int×Bool×Int):Prop:=∃ x:ByteArray×Bool×Int×Bool×Int,SlS aP a.1 (SlS aO a.2.1 ((t.1=x.1)∧(t.2.1=x.2.1)∧(t.2.2.1=x.2.2.1)∧(t.2.2.2.1=x.2.2.2.1)∧((a.1.length:Int)=(a.1.length:Int))∧(t.2.2.2.2=x.2.2.2.2)∧(a.2.2.1=a.2.2.1)∧(a.2.2.2.1=a.2.2.2.1)∧(a.2.2.2.2.1=a.2.2.2.2.1)∧(a.2.2.2.2.2.1.1=a.2.2.2.2.2.1.1)∧(a.2.2.2.2.2.1.2.1=a.2.2.2.2.2.1.2.1)∧(a.2.2.2.2.2.1.2.2=a.2.2.2.2.2.1.2.2)∧SlS aI a.2.2.2.2.2.2.1 ((a.2.2.2.2.2.2.2.1=a.2.2.2.2.2.2.2.1)∧(a.2.2.2.2.2.2.2.2.1=a.2.2.2.2.2.2.2.2.1)∧(a.2.2.2.2.2.2.2.2.2=a.2.2.2.2.2.2.2.2.2)∧K x)))
theorem f404.s25i (a:(List (aC))×(List (aH))×aF) {K:(ByteArray×Bool×Int×Bool×Int)→Prop} {t:ByteArray×Bool×Int×Bool×Int} (h:K t):f404.s25 a K t:=⟨t,SlS.mk  (SlS.mk  (⟨rfl,⟨rfl,⟨rfl,⟨rfl,⟨rfl,⟨rfl,⟨rfl,⟨rfl,⟨rfl,⟨rfl,⟨rfl,⟨rfl,SlS.mk  (⟨rfl,⟨rfl,⟨rfl,h⟩⟩⟩)⟩⟩⟩⟩⟩⟩⟩⟩⟩⟩⟩⟩))⟩
def f404.kills (a:(List (aC))×(List (aH))×aF):List Hint:=[.tell (ByteArray×Bool×Int×Bool×Int) (f404.S0 a),
 .tell (ByteArray×Bool×Int×Bool×Int) (f404.S1 a)]
def f404.cuts (a:(List (aC))×(List (aH))×aF):List (Nat×Σ β:Type,β→Tm):=[(100006,⟨ByteArray×Bool,fun x=>⟨[.slice .ro 7 a.1.length (gl aP a.1),.slice .ro 13 a.2.1.length (gl aO a.2.1),.dead,.dead,.dead,.ptr 0 0,.dead,.str x.1,.bool x.2,.dead,.dead,.dead,.dead,.dead,.dead,.dead,.dead,.dead,.dead,.dead,.dead,.dead,.dead,.dead,.dead,.dead,.dead,.dead,.dead,.dead,.dead,.dead,.dead,.dead,.dead,.dead,.dead,.dead,.dead,.dead,.dead,.dead,.dead,.dead,.dead,.dead,.dead,.dead,.dead,.dead,.dead,.dead,.dead,.dead,.dead,.dead,.dead,.dead,.dead,.dead,.dead,.dead,.dead,.dead,.dead,.dead,.dead,.dead,.dead,.dead,.dead,.dead,.dead,.dead,.dead,.dead,.dead,.dead,.dead,.dead,.dead,.dead,.dead,.dead,.dead,.dead,.dead,.dead,.dead,.dead,.dead,.dead,.dead,.dead,.dead,.dead,.dead,.dead,.dead,.dead,.dead,.dead,.dead,.dead,.dead,.dead,.dead,.dead,.dead,.dead,.dead,.dead,.dead,.dead,.dead,.dead,.dead,.dead,.dead,.dead,.dead,.dead,.dead,.dead,.dead,.dead,.dead,.dead,.dead,.dead,.dead,.dead,.dead,.dead,.dead,.dead,.dead,.dead,.dead,.dead,.dead,.dead,.dead,.dead,.dead,.dead,.dead,.dead,.dead],[(0,false,[.str a.2.2.1,.str a.2.2.2.1,.int .i64 a.2.2.2.2.1,.int .i64 a.2.2.2.2.2.1.1,.int .i64 a.2.2.2.2.2.1.2.1,.int .i64 a.2.2.2.2.2.1.2.2,.slice .ro 2 a.2.2.2.2.2.2.1.length (gl aI a.2.2.2.2.2.2.1),.str a.2.2.2.2.2.2.2.1,.str a.2.2.2.2.2.2.2.2.1,.int .i64 a.2.2.2.2.2.2.2.2.2])],[]⟩⟩),
 (100014,⟨ByteArray×Bool×Int×Bool×Int,fun x=>⟨[.slice .ro 7 a.1.length (gl aP a.1),.slice .ro 13 a.2.1.length (gl aO a.2.1),.dead,.dead,.dead,.ptr 0 0,.dead,.str x.1,.bool x.2.1,.dead,.int .i64 x.2.2.1,.bool x.2.2.2.1,.dead,.dead,.dead,.dead,.dead,.dead,.dead,.dead,.dead,.dead,.dead,.dead,.dead,.dead,.dead,.dead,.dead,.dead,.dead,.dead,.dead,.dead,.dead,.dead,.dead,.dead,.dead,.dead,.dead,.dead,.dead,.dead,.dead,.dead,.dead,.dead,.dead,.dead,.dead,.dead,.dead,.dead,.dead,.dead,.dead,.dead,.dead,.dead,.dead,.dead,.dead,.int .i64 (a.1.length:Int),.int .i64 x.2.2.2.2,.dead,.dead,.dead,.dead,.dead,.dead,.dead,.dead,.dead,.dead,.dead,.dead,.dead,.dead,.dead,.dead,.dead,.dead,.dead,.dead,.dead,.dead,.dead,.dead,.dead,.dead,.dead,.dead,.dead,.dead,.dead,.dead,.dead,.dead,.dead,.dead,.dead,.dead,.dead,.dead,.dead,.dead,.dead,.dead,.dead,.dead,.dead,.dead,.dead,.dead,.dead,.dead,.dead,.dead,.dead,.dead,.dead,.dead,.dead,.dead,.dead,.dead,.dead,.dead,.dead,.dead,.dead,.dead,.dead,.dead,.dead,.dead,.dead,.dead,.dead,.dead,.dead,.dead,.dead,.dead,.dead,.dead,.dead,.dead],[(0,false,[.str a.2.2.1,.str a.2.2.2.1,.int .i64 a.2.2.2.2.1,.int .i64 a.2.2.2.2.2.1.1,.int .i64 a.2.2.2.2.2.1.2.1,.int .i64 a.2.2.2.2.2.1.2.2,.slice .ro 2 a.2.2.2.2.2.2.1.length (gl aI a.2.2.2.2.2.2.1),.str a.2.2.2.2.2.2.2.1,.str a.2.2.2.2.2.2.2.2.1,.int .i64 a.2.2.2.2.2.2.2.2.2])],[]⟩⟩),
 (100025,⟨ByteArray×Bool×Int×Bool×Int,fun x=>⟨[.slice .ro 7 a.1.length (gl aP a.1),.slice .ro 13 a.2.1.length (gl aO a.2.1),.dead,.dead,.dead,.ptr 0 0,.dead,.str x.1,.bool x.2.1,.dead,.int .i64 x.2.2.1,.bool x.2.2.2.1,.dead,.dead,.dead,.dead,.dead,.dead,.dead,.dead,.dead,.dead,.dead,.dead,.dead,.dead,.dead,.dead,.dead,.dead,.dead,.dead,.dead,.dead,.dead,.dead,.dead,.dead,.dead,.dead,.dead,.dead,.dead,.dead,.dead,.dead,.dead,.dead,.dead,.dead,.dead,.dead,.dead,.dead,.dead,.dead,.dead,.dead,.dead,.dead,.dead,.dead,.dead,.dead,.dead,.dead,.dead,.dead,.dead,.dead,.dead,.dead,.dead,.dead,.dead,.dead,.dead,.dead,.dead,.dead,.dead,.dead,.dead,.dead,.dead,.dead,.dead,.dead,.dead,.dead,.dead,.dead,.dead,.dead,.dead,.dead,.dead,.dead,.dead,.dead,.dead,.dead,.dead,.dead,.dead,.dead,.dead,.dead,.dead,.dead,.int .i64 (a.1.length:Int),.int .i64 x.2.2.2.2,.dead,.dead,.dead,.dead,.dead,.dead,.dead,.dead,.dead,.dead,.dead,.dead,.dead,.dead,.dead,.dead,.dead,.dead,.dead,.dead,.dead,.dead,.dead,.dead,.dead,.dead,.dead,.dead,.dead,.dead,.dead,.dead,.dead,.dead,.dead,.dead,.dead],[(0,false,[.str a.2.2.1,.str a.2.2.2.1,.int .i64 a.2.2.2.2.1,.int .i64 a.2.2.2.2.2.1.1,.int .i64 a.2.2.2.2.2.1.2.1,.int .i64 a.2.2.2.2.2.1.2.2,.slice .ro 2 a.2.2.2.2.2.2.1.length (gl aI a.2.2.2.2.2.2.1),.str a.2.2.2.2.2.2.2.1,.str a.2.2.2.2.2.2.2.2.1,.int .i64 a.2.2.2.2.2.2.2.2.2])],[]⟩⟩)]
def f404.af (a:(List (aC))×(List (aH))×aF):AF:=AF.mk (.seq (.region [oT 5 0 .box [2],
 ⟨(some 6),1,.move,[.c (.bool false)],none⟩])
 (.seq (.seq (.region [oT 18 2 (.call false 391) [],
 oT 19 6 (.un .not) [18],
 oT 20 7 .move [19],
 oG 21 8 .move [0] 20 false,
 oG 22 9 .move [1] 20 false,
 oG 23 10 (.load true 10) [5] 20 false,
 oG 24 11 (.call false 392) [21,22,23] 20 false,
 oG 25 15 (.un .not) [24] 20 false,
 ⟨(some 26),16,.pick,[.t 20,.c (.bool true),.t 25],none⟩])
 (.cond (.t 26) (.seq (.region [oT 27 17 (.call false 391) [],
 oT 6 21 .move [27]])
 (.ret)) (.skip)))
 (.seq (.region [oT 29 22 .move [0],
 oT 30 23 .move [1],
 oT 31 24 (.load true 10) [5],
 oT 32 25 (.call false 151) [29,30,31],
 oT 28 29 .move [32],
 oT 33 30 (.extract 0) [28],
 oT 34 31 (.extract 1) [28],
 oT 7 32 .move [33],
 oT 8 33 .move [34]])
 (.seq (.region [oT 35 34 .move [0],
 oT 36 35 .move [1],
 oT 37 36 (.load true 10) [5],
 oT 38 37 (.call false 395) [35,36,37],
 oT 9 41 .move [38]])
 (.joinT (ByteArray×Bool) (fun x=>⟨[.slice .ro 7 a.1.length (gl aP a.1),.slice .ro 13 a.2.1.length (gl aO a.2.1),.dead,.dead,.dead,.ptr 0 0,.dead,.str x.1,.bool x.2,.dead,.dead,.dead,.dead,.dead,.dead,.dead,.dead,.dead,.dead,.dead,.dead,.dead,.dead,.dead,.dead,.dead,.dead,.dead,.dead,.dead,.dead,.dead,.dead,.dead,.dead,.dead,.dead,.dead,.dead,.dead,.dead,.dead,.dead,.dead,.dead,.dead,.dead,.dead,.dead,.dead,.dead,.dead,.dead,.dead,.dead,.dead,.dead,.dead,.dead,.dead,.dead,.dead,.dead,.dead,.dead,.dead,.dead,.dead,.dead,.dead,.dead,.dead,.dead,.dead,.dead,.dead,.dead,.dead,.dead,.dead,.dead,.dead,.dead,.dead,.dead,.dead,.dead,.dead,.dead,.dead,.dead,.dead,.dead,.dead,.dead,.dead,.dead,.dead,.dead,.dead,.dead,.dead,.dead,.dead,.dead,.dead,.dead,.dead,.dead,.dead,.dead,.dead,.dead,.dead,.dead,.dead,.dead,.dead,.dead,.dead,.dead,.dead,.dead,.dead,.dead,.dead,.dead,.dead,.dead,.dead,.dead,.dead,.dead,.dead,.dead,.dead,.dead,.dead,.dead,.dead,.dead,.dead,.dead,.dead,.dead,.dead,.dead,.dead,.dead],[(0,false,[.str a.2.2.1,.str a.2.2.2.1,.int .i64 a.2.2.2.2.1,.int .i64 a.2.2.2.2.2.1.1,.int .i64 a.2.2.2.2.2.1.2.1,.int .i64 a.2.2.2.2.2.1.2.2,.slice .ro 2 a.2.2.2.2.2.2.1.length (gl aI a.2.2.2.2.2.2.1),.str a.2.2.2.2.2.2.2.1,.str a.2.2.2.2.2.2.2.2.1,.int .i64 a.2.2.2.2.2.2.2.2.2])],[]⟩) (.seq (.region [oT 39 42 .move [8],
 oT 40 43 .move [9],
 oT 41 44 (.len false) [40],
 ⟨(some 42),45,(.bin .gtr),[.t 41,.c (.int .i64 (0))],none⟩,
 oT 43 46 (.binB true) [39,42],
 oT 44 47 .move [43],
 oG 45 48 .move [8] 44 false,
 oG 46 49 .move [45] 44 false,
 oG 47 50 .move [9] 46 true,
 ⟨(some 48),51,(.indexAddr 1 none),[.t 47,.c (.int .i64 (0))],(some (46,true))⟩,
 oG 49 52 (.load false 1) [48] 46 true,
 oG 50 53 .move [7] 46 true,
 oG 51 54 (.bin .neq) [49,50] 46 true,
 ⟨(some 52),55,.pick,[.t 46,.t 51,.c (.bool false)],(some (44,false))⟩,
 ⟨(some 53),56,.pick,[.t 44,.c (.bool true),.t 52],none⟩,
 oT 54 57 .move [53],
 oG 55 58 .move [8] 54 false,
 oG 56 59 (.un .not) [55] 54 false,
 oG 57 60 .move [56] 54 false,
 oG 58 61 .move [7] 57 true,
 ⟨(some 59),62,(.bin .neq),[.t 58,.c (.str ByteArray.empty)],(some (57,true))⟩,
 ⟨(some 60),63,.pick,[.t 57,.t 59,.c (.bool false)],(some (54,false))⟩,
 ⟨(some 61),64,.pick,[.t 54,.c (.bool true),.t 60],none⟩])
 (.cond (.t 61) (.seq (.region [⟨(some 6),65,.move,[.c (.bool false)],none⟩])
 (.ret)) (.skip)))
 (.seq (.region [⟨(some 10),66,.move,[.c (.int .i64 (0))],none⟩,
 ⟨(some 11),67,.move,[.c (.bool false)],none⟩])
 (.seq (.seq (.region [oT 62 68 .move [0],
 oT 63 69 (.len false) [62],
 ⟨(some 64),70,.move,[.c (.int .i64 (0))],none⟩])
 (.block 0 (.loopT (ByteArray×Bool×Int×Bool×Int) (f404.S0 a) 71 128 (.seq (.region [oT 65 71 (.bin .lss) [64,63]])
 (.seq (.cond (.t 65) (.skip) (.exit 0))
 (.joinT (ByteArray×Bool×Int×Bool×Int) (fun x=>⟨[.slice .ro 7 a.1.length (gl aP a.1),.slice .ro 13 a.2.1.length (gl aO a.2.1),.dead,.dead,.dead,.ptr 0 0,.dead,.str x.1,.bool x.2.1,.dead,.int .i64 x.2.2.1,.bool x.2.2.2.1,.dead,.dead,.dead,.dead,.dead,.dead,.dead,.dead,.dead,.dead,.dead,.dead,.dead,.dead,.dead,.dead,.dead,.dead,.dead,.dead,.dead,.dead,.dead,.dead,.dead,.dead,.dead,.dead,.dead,.dead,.dead,.dead,.dead,.dead,.dead,.dead,.dead,.dead,.dead,.dead,.dead,.dead,.dead,.dead,.dead,.dead,.dead,.dead,.dead,.dead,.dead,.int .i64 (a.1.length:Int),.int .i64 x.2.2.2.2,.dead,.dead,.dead,.dead,.dead,.dead,.dead,.dead,.dead,.dead,.dead,.dead,.dead,.dead,.dead,.dead,.dead,.dead,.dead,.dead,.dead,.dead,.dead,.dead,.dead,.dead,.dead,.dead,.dead,.dead,.dead,.dead,.dead,.dead,.dead,.dead,.dead,.dead,.dead,.dead,.dead,.dead,.dead,.dead,.dead,.dead,.dead,.dead,.dead,.dead,.dead,.dead,.dead,.dead,.dead,.dead,.dead,.dead,.dead,.dead,.dead,.dead,.dead,.dead,.dead,.dead,.dead,.dead,.dead,.dead,.dead,.dead,.dead,.dead,.dead,.dead,.dead,.dead,.dead,.dead,.dead,.dead,.dead,.dead],[(0,false,[.str a.2.2.1,.str a.2.2.2.1,.int .i64 a.2.2.2.2.1,.int .i64 a.2.2.2.2.2.1.1,.int .i64 a.2.2.2.2.2.1.2.1,.int .i64 a.2.2.2.2.2.1.2.2,.slice .ro 2 a.2.2.2.2.2.2.1.length (gl aI a.2.2.2.2.2.2.1),.str a.2.2.2.2.2.2.2.1,.str a.2.2.2.2.2.2.2.2.1,.int .i64 a.2.2.2.2.2.2.2.2.2])],[]⟩) (.block 1 (.seq (.region [oT 66 72 .move [64],
 oT 12 73 .move [66]])
 (.seq (.region [oT 68 74 .move [0],
 oT 69 75 .move [12],
 oT 70 76 (.indexAddr 7 none) [68,69],
 oT 71 77 (.load true 7) [70],
 oT 72 78 .move [1],
 oT 73 79 (.load true 10) [5],
 oT 74 80 (.call false 197) [71,72,73],
 oT 67 84 .move [74],
 oT 75 85 (.extract 0) [67],
 oT 76 86 (.extract 1) [67],
 oT 13 87 .move [75],
 oT 14 88 .move [76]])
 (.seq (.seq (.region [oT 77 89 .move [14],
 oT 78 90 .move [0],
 oT 79 91 .move [12],
 oT 80 92 (.indexAddr 7 none) [78,79],
 oT 81 93 (.load true 7) [80],
 oT 82 94 .move [1],
 oT 83 95 (.load true 10) [5],
 oT 84 96 (.call false 111) [81,82,83],
 ⟨(some 85),100,(.bin .eql),[.t 84,.c (.int .i64 (0))],none⟩,
 oT 86 101 (.binB true) [77,85]])
 (.cond (.t 86) (.seq (.region [⟨(some 6),102,.move,[.c (.bool false)],none⟩])
 (.ret)) (.skip)))
 (.seq (.region [oT 87 103 .move [14],
 oT 88 104 .move [87],
 oG 89 105 .move [0] 88 true,
 oG 90 106 .move [12] 88 true,
 oG 91 107 (.indexAddr 7 none) [89,90] 88 true,
 oG 92 108 (.fieldAddr 0) [91] 88 true,
 oG 93 109 (.fieldAddr 0) [92] 88 true,
 oG 94 110 (.load false 1) [93] 88 true,
 oG 95 111 .move [7] 88 true,
 oG 96 112 (.bin .eql) [94,95] 88 true,
 ⟨(some 97),113,.pick,[.t 88,.t 96,.c (.bool false)],none⟩,
 oT 98 114 .move [97],
 oG 99 115 .move [11] 98 true,
 oG 100 116 (.un .not) [99] 98 true,
 oG 101 117 .move [100] 98 true,
 oG 102 118 .move [13] 101 false,
 oG 103 119 .move [10] 101 false,
 oG 104 120 (.bin .lss) [102,103] 101 false,
 ⟨(some 105),121,.pick,[.t 101,.c (.bool true),.t 104],(some (98,true))⟩,
 ⟨(some 106),122,.pick,[.t 98,.t 105,.c (.bool false)],none⟩])
 (.cond (.t 106) (.region [oT 107 123 .move [13],
 oT 10 124 .move [107],
 ⟨(some 11),125,.move,[.c (.bool true)],none⟩]) (.skip)))))))
 (.region [⟨(some 108),126,(.bin .add),[.t 64,.c (.int .i64 (1))],none⟩,
 oT 64 127 .move [108]])))))))
 (.seq (.seq (.region [oT 109 128 .move [0],
 oT 110 129 (.len false) [109],
 ⟨(some 111),130,.move,[.c (.int .i64 (0))],none⟩])
 (.block 2 (.loopT (ByteArray×Bool×Int×Bool×Int) (f404.S1 a) 131 173 (.seq (.region [oT 112 131 (.bin .lss) [111,110]])
 (.seq (.cond (.t 112) (.skip) (.exit 2))
 (.joinT (ByteArray×Bool×Int×Bool×Int) (fun x=>⟨[.slice .ro 7 a.1.length (gl aP a.1),.slice .ro 13 a.2.1.length (gl aO a.2.1),.dead,.dead,.dead,.ptr 0 0,.dead,.str x.1,.bool x.2.1,.dead,.int .i64 x.2.2.1,.bool x.2.2.2.1,.dead,.dead,.dead,.dead,.dead,.dead,.dead,.dead,.dead,.dead,.dead,.dead,.dead,.dead,.dead,.dead,.dead,.dead,.dead,.dead,.dead,.dead,.dead,.dead,.dead,.dead,.dead,.dead,.dead,.dead,.dead,.dead,.dead,.dead,.dead,.dead,.dead,.dead,.dead,.dead,.dead,.dead,.dead,.dead,.dead,.dead,.dead,.dead,.dead,.dead,.dead,.dead,.dead,.dead,.dead,.dead,.dead,.dead,.dead,.dead,.dead,.dead,.dead,.dead,.dead,.dead,.dead,.dead,.dead,.dead,.dead,.dead,.dead,.dead,.dead,.dead,.dead,.dead,.dead,.dead,.dead,.dead,.dead,.dead,.dead,.dead,.dead,.dead,.dead,.dead,.dead,.dead,.dead,.dead,.dead,.dead,.dead,.dead,.int .i64 (a.1.length:Int),.int .i64 x.2.2.2.2,.dead,.dead,.dead,.dead,.dead,.dead,.dead,.dead,.dead,.dead,.dead,.dead,.dead,.dead,.dead,.dead,.dead,.dead,.dead,.dead,.dead,.dead,.dead,.dead,.dead,.dead,.dead,.dead,.dead,.dead,.dead,.dead,.dead,.dead,.dead,.dead,.dead],[(0,false,[.str a.2.2.1,.str a.2.2.2.1,.int .i64 a.2.2.2.2.1,.int .i64 a.2.2.2.2.2.1.1,.int .i64 a.2.2.2.2.2.1.2.1,.int .i64 a.2.2.2.2.2.1.2.2,.slice .ro 2 a.2.2.2.2.2.2.1.length (gl aI a.2.2.2.2.2.2.1),.str a.2.2.2.2.2.2.2.1,.str a.2.2.2.2.2.2.2.2.1,.int .i64 a.2.2.2.2.2.2.2.2.2])],[]⟩) (.block 3 (.seq (.region [oT 113 132 .move [111],
 oT 15 133 .move [113]])
 (.seq (.region [oT 115 134 .move [0],
 oT 116 135 .move [15],
 oT 117 136 (.indexAddr 7 none) [115,116],
 oT 118 137 (.load true 7) [117],
 oT 119 138 .move [1],
 oT 120 139 (.load true 10) [5],
 oT 121 140 (.call false 197) [118,119,120],
 oT 114 144 .move [121],
 oT 122 145 (.extract 0) [114],
 oT 123 146 (.extract 1) [114],
 oT 16 147 .move [122],
 oT 17 148 .move [123]])
 (.seq (.region [oT 124 149 .move [17],
 oT 125 150 .move [124],
 oG 126 151 .move [16] 125 true,
 oG 127 152 .move [10] 125 true,
 oG 128 153 (.bin .lss) [126,127] 125 true,
 oG 129 154 .move [128] 125 true,
 oG 130 155 .move [16] 129 false,
 oG 131 156 .move [10] 129 false,
 oG 132 157 (.bin .eql) [130,131] 129 false,
 oG 133 158 .move [132] 129 false,
 oG 134 159 .move [0] 133 true,
 oG 135 160 .move [15] 133 true,
 oG 136 161 (.indexAddr 7 none) [134,135] 133 true,
 oG 137 162 (.fieldAddr 0) [136] 133 true,
 oG 138 163 (.fieldAddr 0) [137] 133 true,
 oG 139 164 (.load false 1) [138] 133 true,
 oG 140 165 .move [7] 133 true,
 oG 141 166 (.bin .lss) [139,140] 133 true,
 ⟨(some 142),167,.pick,[.t 133,.t 141,.c (.bool false)],(some (129,false))⟩,
 ⟨(some 143),168,.pick,[.t 129,.c (.bool true),.t 142],(some (125,true))⟩,
 ⟨(some 144),169,.pick,[.t 125,.t 143,.c (.bool false)],none⟩])
 (.cond (.t 144) (.seq (.region [⟨(some 6),170,.move,[.c (.bool false)],none⟩])
 (.ret)) (.skip))))))
 (.region [⟨(some 145),171,(.bin .add),[.t 111,.c (.int .i64 (1))],none⟩,
 oT 111 172 .move [145]])))))))
 (.seq (.region [oT 146 173 .move [11],
 oT 147 174 .move [8],
 oT 148 175 (.binB false) [146,147],
 oT 6 176 .move [148]])
 (.ret))))))))))
 [.tmp 6] 0 146
def f404.env:Env:=[(391,f391.C),(392,f392.C),(151,f151.C),(395,f395.C),(197,f197.C),(111,f111.C)]
def f404.tree (a:(List (aC))×(List (aH))×aF):Prop:=∃ c1:Unit,True∧Br (!(bS c1)) (∃ c4:Unit,True∧((bS c4)=(bS a))∧True) (f392.ent (fun c7=>(kF c7)∧Br (!(fX c7)) (∃ c10:Unit,True∧((bS c10)=(bS a))∧True) (f151.ent (fun c13=>(dF c13)∧f395.ent (fun c14=>(dF c14)∧∃ I15:(ByteArray×Bool)→Prop,(Br (!(((bL c13).2)==(decide ((0:Int) < ((dR c14).length:Int))))) ((false=(bS a))∧True) (Br ((bL c13).2) (Br (decide ((0:Int)≤(0:Int))&&decide ((0:Int) < ((dR c14).length:Int))) (Br (!((at_ (dR c14) (0:Int)).toList==((bL c13).1).toList)) ((false=(bS a))∧True) (Br (!((bL c13).2)) (Br (!(((bL c13).1).toList==ByteArray.empty.toList)) ((false=(bS a))∧True) (f404.s6 a I15 ((bL c13).1,(bL c13).2))) (f404.s6 a I15 ((bL c13).1,(bL c13).2)))) False) (Br (!((bL c13).2)) (Br (!(((bL c13).1).toList==ByteArray.empty.toList)) ((false=(bS a))∧True) (f404.s6 a I15 ((bL c13).1,(bL c13).2))) (f404.s6 a I15 ((bL c13).1,(bL c13).2)))))∧∀ y54:ByteArray×Bool,I15 y54→(∃ (I58:(ByteArray×Bool×Int×Bool×Int)→Prop) (μ59:(ByteArray×Bool×Int×Bool×Int)→Nat),(f404.l0 a I58 (y54.1,y54.2,(0:Int),false,(0:Int)))∧∀ y60:ByteArray×Bool×Int×Bool×Int,I58 y60→(Br (decide (y60.2.2.2.2 < (a.1.length:Int))) (∃ I63:(ByteArray×Bool×Int×Bool×Int)→Prop,(Br (decide ((0:Int)≤y60.2.2.2.2)&&decide (y60.2.2.2.2 < (a.1.length:Int))) (f197.ent (fun c65=>(d9 c65)∧Br (decide ((0:Int)≤y60.2.2.2.2)&&decide (y60.2.2.2.2 < (a.1.length:Int))) (f111.ent (fun c67=>(d9 c67)∧Br (!(((bF c65).2)==((hO c67)==(0:Int)))) ((false=(bS a))∧True) (Br ((bF c65).2) (Br (decide ((0:Int)≤y60.2.2.2.2)&&decide (y60.2.2.2.2 < (a.1.length:Int))) (Br ((((at_ a.1 y60.2.2.2.2).1).1).toList==y60.1.toList) (Br (!y60.2.2.2.1) (f404.s14 a I63 (y60.1,y60.2.1,(bF c65).1,true,y60.2.2.2.2)) (Br (decide (((bF c65).1) < y60.2.2.1)) (f404.s14 a I63 (y60.1,y60.2.1,(bF c65).1,true,y60.2.2.2.2)) (f404.s14 a I63 (y60.1,y60.2.1,y60.2.2.1,y60.2.2.2.1,y60.2.2.2.2)))) (f404.s14 a I63 (y60.1,y60.2.1,y60.2.2.1,y60.2.2.2.1,y60.2.2.2.2))) False) (f404.s14 a I63 (y60.1,y60.2.1,y60.2.2.1,y60.2.2.2.1,y60.2.2.2.2)))) ((at_ a.1 y60.2.2.2.2),a.2.1,a.2.2)) False) ((at_ a.1 y60.2.2.2.2),a.2.1,a.2.2)) False)∧∀ y100:ByteArray×Bool×Int×Bool×Int,I63 y100→(Let (IntKind.i64.wrap (y100.2.2.2.2+(1:Int))) (fun v103:Int=>f404.l0 a (Dn I58 μ59 y60) (y100.1,y100.2.1,y100.2.2.1,y100.2.2.2.1,v103)))) (∃ (I110:(ByteArray×Bool×Int×Bool×Int)→Prop) (μ111:(ByteArray×Bool×Int×Bool×Int)→Nat),(f404.l1 a I110 (y60.1,y60.2.1,y60.2.2.1,y60.2.2.2.1,(0:Int)))∧∀ y112:ByteArray×Bool×Int×Bool×Int,I110 y112→(Br (decide (y112.2.2.2.2 < (a.1.length:Int))) (∃ I115:(ByteArray×Bool×Int×Bool×Int)→Prop,(Br (decide ((0:Int)≤y112.2.2.2.2)&&decide (y112.2.2.2.2 < (a.1.length:Int))) (f197.ent (fun c117=>(d9 c117)∧Br ((bF c117).2) (Br (decide (((bF c117).1) < y112.2.2.1)) ((false=(bS a))∧True) (Br (((bF c117).1)==y112.2.2.1) (Br (decide ((0:Int)≤y112.2.2.2.2)&&decide (y112.2.2.2.2 < (a.1.length:Int))) (Br (Op.bytesLess (((at_ a.1 y112.2.2.2.2).1).1).toList y112.1.toList) ((false=(bS a))∧True) (f404.s25 a I115 (y112.1,y112.2.1,y112.2.2.1,y112.2.2.2.1,y112.2.2.2.2))) False) (f404.s25 a I115 (y112.1,y112.2.1,y112.2.2.1,y112.2.2.2.1,y112.2.2.2.2)))) (f404.s25 a I115 (y112.1,y112.2.1,y112.2.2.1,y112.2.2.2.1,y112.2.2.2.2))) ((at_ a.1 y112.2.2.2.2),a.2.1,a.2.2)) False)∧∀ y143:ByteArray×Bool×Int×Bool×Int,I115 y143→(Let (IntKind.i64.wrap (y143.2.2.2.2+(1:Int))) (fun v146:Int=>f404.l1 a (Dn I110 μ111 y112) (y143.1,y143.2.1,y143.2.2.1,y143.2.2.2.1,v146)))) (((y112.2.2.2.1==y112.2.1)=(bS a))∧True)))))) (a.1,a.2.1,a.2.2)) (a.1,a.2.1,a.2.2))) (a.1,a.2.1,a.2.2))
def f404.vc (a:(List (aC))×(List (aH))×aF):Prop:=((¬((bS ())=true)→((bS ())=bS a))∧(¬(¬((bS ())=true))→(kF (a.1,a.2.1,a.2.2)∧((¬((fX (a.1,a.2.1,a.2.2))=true)→((bS ())=bS a))∧(¬(¬((fX (a.1,a.2.1,a.2.2))=true))→(dF (a.1,a.2.1,a.2.2)∧(dF (a.1,a.2.1,a.2.2)∧(∃ I15:(ByteArray×Bool)→Prop,((((!(((bL (a.1,a.2.1,a.2.2)).2)==(decide ((0:Int) < ((dR (a.1,a.2.1,a.2.2)).length:Int)))))=true→(false=bS a))∧(¬((!(((bL (a.1,a.2.1,a.2.2)).2)==(decide ((0:Int) < ((dR (a.1,a.2.1,a.2.2)).length:Int)))))=true)→((((bL (a.1,a.2.1,a.2.2)).2)=true→((0:Int) < ((dR (a.1,a.2.1,a.2.2)).length:Int)∧((¬((at_ (dR (a.1,a.2.1,a.2.2)) (0:Int))=((bL (a.1,a.2.1,a.2.2)).1))→(false=bS a))∧(¬(¬((at_ (dR (a.1,a.2.1,a.2.2)) (0:Int))=((bL (a.1,a.2.1,a.2.2)).1)))→((¬(((bL (a.1,a.2.1,a.2.2)).2)=true)→((¬(((bL (a.1,a.2.1,a.2.2)).1)=ByteArray.empty)→(false=bS a))∧(¬(¬(((bL (a.1,a.2.1,a.2.2)).1)=ByteArray.empty))→(I15 ((bL (a.1,a.2.1,a.2.2)).1,(bL (a.1,a.2.1,a.2.2)).2)))))∧(¬(¬(((bL (a.1,a.2.1,a.2.2)).2)=true))→(I15 ((bL (a.1,a.2.1,a.2.2)).1,(bL (a.1,a.2.1,a.2.2)).2))))))))∧(¬(((bL (a.1,a.2.1,a.2.2)).2)=true)→((¬(((bL (a.1,a.2.1,a.2.2)).2)=true)→((¬(((bL (a.1,a.2.1,a.2.2)).1)=ByteArray.empty)→(false=bS a))∧(¬(¬(((bL (a.1,a.2.1,a.2.2)).1)=ByteArray.empty))→(I15 ((bL (a.1,a.2.1,a.2.2)).1,(bL (a.1,a.2.1,a.2.2)).2)))))∧(¬(¬(((bL (a.1,a.2.1,a.2.2)).2)=true))→(I15 ((bL (a.1,a.2.1,a.2.2)).1,(bL (a.1,a.2.1,a.2.2)).2)))))))))∧∀ y54:ByteArray×Bool,I15 y54→(∃ (I58:(ByteArray×Bool×Int×Bool×Int)→Prop) (μ59:(ByteArray×Bool×Int×Bool×Int)→Nat),I58 (y54.1,y54.2,(0:Int),false,(0:Int))∧∀ y60:ByteArray×Bool×Int×Bool×Int,I58 y60→((y60.2.2.2.2 < (a.1.length:Int)→(∃ I63:(ByteArray×Bool×Int×Bool×Int)→Prop,(((0:Int)≤y60.2.2.2.2∧y60.2.2.2.2 < (a.1.length:Int)∧(d9 ((at_ a.1 y60.2.2.2.2),a.2.1,a.2.2)∧((0:Int)≤y60.2.2.2.2∧y60.2.2.2.2 < (a.1.length:Int)∧(d9 ((at_ a.1 y60.2.2.2.2),a.2.1,a.2.2)∧(((!(((bF ((at_ a.1 y60.2.2.2.2),a.2.1,a.2.2)).2)==((hO ((at_ a.1 y60.2.2.2.2),a.2.1,a.2.2))==(0:Int))))=true→(false=bS a))∧(¬((!(((bF ((at_ a.1 y60.2.2.2.2),a.2.1,a.2.2)).2)==((hO ((at_ a.1 y60.2.2.2.2),a.2.1,a.2.2))==(0:Int))))=true)→((((bF ((at_ a.1 y60.2.2.2.2),a.2.1,a.2.2)).2)=true→((0:Int)≤y60.2.2.2.2∧y60.2.2.2.2 < (a.1.length:Int)∧(((((at_ a.1 y60.2.2.2.2).1).1)=y60.1→((¬(y60.2.2.2.1=true)→(I63 (y60.1,y60.2.1,(bF ((at_ a.1 y60.2.2.2.2),a.2.1,a.2.2)).1,true,y60.2.2.2.2)))∧(¬(¬(y60.2.2.2.1=true))→((((bF ((at_ a.1 y60.2.2.2.2),a.2.1,a.2.2)).1) < y60.2.2.1→(I63 (y60.1,y60.2.1,(bF ((at_ a.1 y60.2.2.2.2),a.2.1,a.2.2)).1,true,y60.2.2.2.2)))∧(¬(((bF ((at_ a.1 y60.2.2.2.2),a.2.1,a.2.2)).1) < y60.2.2.1)→(I63 (y60.1,y60.2.1,y60.2.2.1,y60.2.2.2.1,y60.2.2.2.2)))))))∧(¬((((at_ a.1 y60.2.2.2.2).1).1)=y60.1)→(I63 (y60.1,y60.2.1,y60.2.2.1,y60.2.2.2.1,y60.2.2.2.2))))))∧(¬(((bF ((at_ a.1 y60.2.2.2.2),a.2.1,a.2.2)).2)=true)→(I63 (y60.1,y60.2.1,y60.2.2.1,y60.2.2.2.1,y60.2.2.2.2)))))))))))∧∀ y100:ByteArray×Bool×Int×Bool×Int,I63 y100→(-9223372036854775808≤(y100.2.2.2.2+(1:Int))∧(y100.2.2.2.2+(1:Int))≤9223372036854775807∧(I58 (y100.1,y100.2.1,y100.2.2.1,y100.2.2.2.1,(y100.2.2.2.2+(1:Int)))∧μ59 (y100.1,y100.2.1,y100.2.2.1,y100.2.2.2.1,(y100.2.2.2.2+(1:Int))) < μ59 y60))))∧(¬(y60.2.2.2.2 < (a.1.length:Int))→(∃ (I110:(ByteArray×Bool×Int×Bool×Int)→Prop) (μ111:(ByteArray×Bool×Int×Bool×Int)→Nat),I110 (y60.1,y60.2.1,y60.2.2.1,y60.2.2.2.1,(0:Int))∧∀ y112:ByteArray×Bool×Int×Bool×Int,I110 y112→((y112.2.2.2.2 < (a.1.length:Int)→(∃ I115:(ByteArray×Bool×Int×Bool×Int)→Prop,(((0:Int)≤y112.2.2.2.2∧y112.2.2.2.2 < (a.1.length:Int)∧(d9 ((at_ a.1 y112.2.2.2.2),a.2.1,a.2.2)∧((((bF ((at_ a.1 y112.2.2.2.2),a.2.1,a.2.2)).2)=true→((((bF ((at_ a.1 y112.2.2.2.2),a.2.1,a.2.2)).1) < y112.2.2.1→(false=bS a))∧(¬(((bF ((at_ a.1 y112.2.2.2.2),a.2.1,a.2.2)).1) < y112.2.2.1)→((((bF ((at_ a.1 y112.2.2.2.2),a.2.1,a.2.2)).1)=y112.2.2.1→((0:Int)≤y112.2.2.2.2∧y112.2.2.2.2 < (a.1.length:Int)∧((sLt (((at_ a.1 y112.2.2.2.2).1).1) y112.1→(false=bS a))∧(¬(sLt (((at_ a.1 y112.2.2.2.2).1).1) y112.1)→(I115 (y112.1,y112.2.1,y112.2.2.1,y112.2.2.2.1,y112.2.2.2.2))))))∧(¬(((bF ((at_ a.1 y112.2.2.2.2),a.2.1,a.2.2)).1)=y112.2.2.1)→(I115 (y112.1,y112.2.1,y112.2.2.1,y112.2.2.2.1,y112.2.2.2.2)))))))∧(¬(((bF ((at_ a.1 y112.2.2.2.2),a.2.1,a.2.2)).2)=true)→(I115 (y112.1,y112.2.1,y112.2.2.1,y112.2.2.2.1,y112.2.2.2.2)))))))∧∀ y143:ByteArray×Bool×Int×Bool×Int,I115 y143→(-9223372036854775808≤(y143.2.2.2.2+(1:Int))∧(y143.2.2.2.2+(1:Int))≤9223372036854775807∧(I110 (y143.1,y143.2.1,y143.2.2.1,y143.2.2.2.1,(y143.2.2.2.2+(1:Int)))∧μ111 (y143.1,y143.2.1,y143.2.2.1,y143.2.2.2.1,(y143.2.2.2.2+(1:Int))) < μ111 y112))))∧(¬(y112.2.2.2.2 < (a.1.length:Int))→((y112.2.2.2.1==y112.2.1)=bS a)))))))))))))))
set_option maxRecDepth 100000 in
set_option maxHeartbeats 2000000 in
theorem f404.of (a:(List (aC))×(List (aH))×aF) (h:f404.vc a):f404.tree a:=⟨(),⟨trivial,br h (Cnd.not Cnd.b) (fun h2 k168=>⟨(),⟨trivial,⟨k168,trivial⟩⟩⟩) (fun h3 k169=>(f392.ei ⟨k169.1,br k169.2 (Cnd.not Cnd.b) (fun h8 k165=>⟨(),⟨trivial,⟨k165,trivial⟩⟩⟩) (fun h9 k166=>(f151.ei ⟨k166.1,(f395.ei ⟨k166.2.1,Exists.elim k166.2.2 (fun I15 h56=>⟨I15,br h56.1 Cnd.b (fun h16 k52=>⟨k52,trivial⟩) (fun h17 k53=>br k53 Cnd.b (fun h19 k50=>chk k50.2 Cnd.ix ⟨(by decide),k50.1⟩ (fun h21 k38=>br k38 (Cnd.not Cnd.seq) (fun h22 k36=>⟨k36,trivial⟩) (fun h23 k37=>br k37 (Cnd.not Cnd.b) (fun h25 k34=>br k34 (Cnd.not Cnd.seq) (fun h27 k31=>⟨k31,trivial⟩) (fun h28 k32=>(f404.s6i a k32))) (fun h26 k35=>(f404.s6i a k35))))) (fun h20 k51=>br k51 (Cnd.not Cnd.b) (fun h39 k48=>br k48 (Cnd.not Cnd.seq) (fun h41 k45=>⟨k45,trivial⟩) (fun h42 k46=>(f404.s6i a k46))) (fun h40 k49=>(f404.s6i a k49)))),fun y54 h55=>Exists.elim (h56.2 y54 h55) (fun I58 h160_=>Exists.elim h160_ (fun μ59 h160=>⟨I58,μ59,(f404.l0i a h160.1),fun y60 h162=>br (h160.2 y60 h162) Cnd.dec (fun h61 k158=>Exists.elim k158 (fun I63 h102=>⟨I63,chk h102.1.2.2 Cnd.ix ⟨h102.1.1,h102.1.2.1⟩ (fun h64 k99=>(f197.ei ⟨k99.1,chk k99.2.2.2 Cnd.ix ⟨k99.2.1,k99.2.2.1⟩ (fun h66 k97=>(f111.ei ⟨k97.1,br k97.2 Cnd.b (fun h68 k94=>⟨k94,trivial⟩) (fun h69 k95=>br k95 Cnd.b (fun h71 k92=>chk k92.2.2 Cnd.ix ⟨k92.1,k92.2.1⟩ (fun h73 k90=>br k90 Cnd.seq (fun h74 k88=>br k88 (Cnd.not Cnd.b) (fun h76 k85=>(f404.s14i a k85)) (fun h77 k86=>br k86 Cnd.dec (fun h79 k83=>(f404.s14i a k83)) (fun h80 k84=>(f404.s14i a k84)))) (fun h75 k89=>(f404.s14i a k89)))) (fun h72 k93=>(f404.s14i a k93)))⟩))⟩)),fun y100 h101=>wrapK.i64 (h102.2 y100 h101) (fun h106 h107 k108=>(f404.l0i a k108))⟩)) (fun h62 k159=>Exists.elim k159 (fun I110 h155_=>Exists.elim h155_ (fun μ111 h155=>⟨I110,μ111,(f404.l1i a h155.1),fun y112 h157=>br (h155.2 y112 h157) Cnd.dec (fun h113 k153=>Exists.elim k153 (fun I115 h145=>⟨I115,chk h145.1.2.2 Cnd.ix ⟨h145.1.1,h145.1.2.1⟩ (fun h116 k142=>(f197.ei ⟨k142.1,br k142.2 Cnd.b (fun h118 k139=>br k139 Cnd.dec (fun h120 k136=>⟨k136,trivial⟩) (fun h121 k137=>br k137 Cnd.eq (fun h123 k134=>chk k134.2.2 Cnd.ix ⟨k134.1,k134.2.1⟩ (fun h125 k132=>br k132 Cnd.sl_ (fun h126 k130=>⟨k130,trivial⟩) (fun h127 k131=>(f404.s25i a k131)))) (fun h124 k135=>(f404.s25i a k135)))) (fun h119 k140=>(f404.s25i a k140))⟩)),fun y143 h144=>wrapK.i64 (h145.2 y143 h144) (fun h149 h150 k151=>(f404.l1i a k151))⟩)) (fun h114 k154=>⟨k154,trivial⟩)⟩)))⟩))⟩)⟩)⟩))⟩))⟩⟩
theorem f404.eq (a:(List (aC))×(List (aH))×aF):(f404.af a).gives f404.env (f404.args a) (f404.blks a) (f404.res a) (f404.blks' a)=f404.tree a:=by kernel_rfl
end Go.Abs

-- interregnum/interregnumlaw12.RankOrder
namespace Go.Abs
open Go
end Go.Abs

/- interregnum/interregnumlaw12.RankOrder -/
namespace Go.Abs
open Go
set_option linter.unusedVariables false
end Go.Abs

/- The laws of layer 12. -/
namespace Go.Abs
open Go

theorem aEZ {l:List cL} {jobs:List dT} {t:cC} (hl:dP.size l≤1048576) (hj:fJ.size jobs≤1048576) (ht:eS.size t≤1048576):dF (l,jobs,t)∧kF (l,jobs,t):=by
 have h2:(l.map d6.size).sum+1=dP.size l:=rfl
 have h3:=xH d6.size (fun x=>Nat.le_add_left 1 _) l
 have hj:=yI (l:=jobs) hj
 have htt:=yP (t:=t) ht
 have hw:=vF (t:=t) ht
 have hm:∀ m∈l,iG m.1∧L20 m.1.2.2:=fun m hm=>yQ (by
  have h1:d6.size m≤(l.map d6.size).sum:=aDA _ hm
  omega)
 have hl20:l.length≤1048576:=by omega
 exact ⟨⟨hl20,fun m hx=>⟨hj,(hm m hx).1,htt,(hm m hx).2,hw⟩⟩,hl20,hj,hw,fun m hx=>⟨(hm m hx).1.1,(hm m hx).2⟩⟩

theorem f391.ok (a:Unit) (_:True):f391.vc a:=by
 have e1:bL ([((f391.s0,((4:Int),(4:Int),(4:Int)),[]),true,(0:Int))],[],(f391.s1,f391.s2,(0:Int),((0:Int),(0:Int),(0:Int)),[],ByteArray.empty,ByteArray.empty,(0:Int)))=(f391.s0,true):=by decide +kernel
 unfold f391.vc
 rw [e1]
 refine ⟨⟨Nat.le_of_ble_eq_true rfl,fun m hm=>?_⟩,fun _=>rfl,fun c=>absurd rfl c⟩
 rw [List.mem_singleton.1 hm]
 refine ⟨Nat.le_of_ble_eq_true rfl,⟨?_,?_⟩,⟨?_,?_,?_,?_,?_⟩,Nat.le_of_ble_eq_true rfl,Nat.le_of_ble_eq_true rfl⟩ <;> first | exact Nat.le_of_ble_eq_true rfl | exact fun x hx=>absurd hx List.not_mem_nil

theorem pJ {a:List cL×List dT×cC} {x:TSc}:x∈dM a↔x∈cI a:=aEA aGX
theorem aCQ {a:List cL×List dT×cC} {x:TSc}:x∈cI a↔∃ m∈a.1,(bF (m,a.2)).2=true∧x=(m.1.1,(bF (m,a.2)).1):=by
 unfold cI
 rw [List.mem_map]
 constructor
 ·rintro ⟨m,hm,rfl⟩
  exact ⟨m,(List.mem_filter.1 hm).1,(List.mem_filter.1 hm).2,rfl⟩
 ·rintro ⟨m,hm,h,rfl⟩
  exact ⟨m,List.mem_filter.2 ⟨hm,h⟩,rfl⟩
theorem wN {a:List cL×List dT×cC} {x:TSc} (h:x∈dM a):aG x (at_ (dM a) 0)=false:=by
 have sd:=tN aGX (cI a)
 unfold dM at h ⊢
 generalize l8 aG (cI a)=S at h sd
 cases S with
 | nil=>cases h
 | cons y S =>
  show aG x y=false
  rcases List.mem_cons.1 h with rfl | h
  ·exact o9.irrefl _
  ·exact (List.pairwise_cons.1 sd).1 x h

theorem aE0 (a:cL×List dT×cC):(bF a).2=(hO a==0):=by
 unfold bF
 by_cases h:hO a=0
 ·rw [if_neg (not_not_intro h),h]
  rfl
 ·rw [if_pos h]
  exact (beq_eq_false_iff_ne.2 h).symm

theorem f404.ok (a:List cL×List dT×cC) (h:f404.lpre a):f404.vc a:=by
 obtain ⟨_,hs⟩:=h
 obtain ⟨l,jobs,t⟩:=a
 have hs:dP.size l+(fJ.size jobs+eS.size t)≤1048576:=hs
 obtain ⟨hc,hf⟩:=aEZ (l:=l) (jobs:=jobs) (t:=t) (by omega) (by omega) (by omega)
 have h1:l.length≤1048576:=hc.1
 have hsl:(dR (l,jobs,t)).length=(dM (l,jobs,t)).length:=aC6 _
 have b2:(bL (l,jobs,t)).2=decide ((0:Int) < ((dR (l,jobs,t)).length:Int)):=by
  unfold bL
  split
  ·exact (decide_eq_false (by omega)).symm
  ·exact (decide_eq_true (by omega)).symm
 have b1:¬(dM (l,jobs,t)).length=0→bL (l,jobs,t)=((at_ (dM (l,jobs,t)) 0).1,true):=fun h=>if_neg h
 have b0:(dM (l,jobs,t)).length=0→bL (l,jobs,t)=(ByteArray.empty,false):=fun h=>if_pos h
 have sat:0 < (dM (l,jobs,t)).length→at_ (dR (l,jobs,t)) 0=(at_ (dM (l,jobs,t)) 0).1:=fun h=>(aCY (dM (l,jobs,t)) 0 (by simp only [Int.toNat_zero]; exact h)).1
 generalize hN:(bL (l,jobs,t)).1=N
 generalize hK:(bL (l,jobs,t)).2=K
 refine ⟨fun _=>rfl,fun _=>⟨hf,fun _=>rfl,fun _=>⟨hc,hc,fun y=>y.1=N∧y.2=K,⟨fun c=>?_,fun _=>⟨fun ck=>⟨?_,fun c=>absurd ?_ c,fun _=>⟨fun c=>?_,fun _=>⟨hN,hK⟩⟩⟩,fun ck=>⟨fun c=>⟨fun c2=>absurd ?_ c2,fun _=>⟨hN,hK⟩⟩,fun _=>⟨hN,hK⟩⟩⟩⟩,fun y hy=>?_⟩⟩⟩
 ·rw [b2,beq_self_eq_true] at c
  cases c
 ·rw [b2] at ck
  exact of_decide_eq_true ck
 ·rw [b2] at ck
  have:=of_decide_eq_true ck
  show at_ (dR (l,jobs,t)) 0=(bL (l,jobs,t)).1
  rw [sat (by omega),b1 (by omega)]
 ·exact absurd ck c
 ·have:(dM (l,jobs,t)).length=0:=by
   refine Classical.byContradiction fun hh=>ck ?_
   show (bL (l,jobs,t)).2=true
   rw [b1 hh]
  show (bL (l,jobs,t)).1=ByteArray.empty
  rw [b0 this]
 ·obtain ⟨n,k⟩:=y
  obtain ⟨e1,e2⟩:=hy
  simp only at e1 e2 ⊢
  subst e1; subst e2
  refine ⟨fun y=>y.1=n∧y.2.1=k∧0≤y.2.2.2.2∧y.2.2.2.2≤(l.length:Int)∧(y.2.2.2.1=true→(∃ x∈cI (l.take y.2.2.2.2.toNat,jobs,t),x.1=n∧x.2=y.2.2.1)∧∀ x∈cI (l.take y.2.2.2.2.toNat,jobs,t),x.1=n→y.2.2.1≤x.2)∧(¬y.2.2.2.1=true→∀ x∈cI (l.take y.2.2.2.2.toNat,jobs,t),x.1≠n),fun y=>l.length - y.2.2.2.2.toNat,⟨rfl,rfl,by simp only; omega,by simp only; omega,fun c=>(by cases c),fun _ x hx=>(by cases hx)⟩,fun y hy=>?_⟩
  obtain ⟨n',k',low,found,i⟩:=y
  obtain ⟨e1,e2,g0,g1,g2,g3⟩:=hy
  simp only at e1 e2 g0 g1 g2 g3 ⊢
  subst e1; subst e2
  refine ⟨fun hlt=>?_,fun hge=>?_⟩
  ·have hw:d9 (at_ l i,jobs,t):=hc.2 _ (kQ (l:=l) (i:=i.toNat) (by omega))
   have st:=mV (l:=l) (i:=i) (jobs,t) g0 hlt
   refine ⟨fun y=>y.1=n'∧y.2.1=k'∧y.2.2.2.2=i∧(y.2.2.2.1=true→(∃ x∈cI (l.take (i+1).toNat,jobs,t),x.1=n'∧x.2=y.2.2.1)∧∀ x∈cI (l.take (i+1).toNat,jobs,t),x.1=n'→y.2.2.1≤x.2)∧(¬y.2.2.2.1=true→∀ x∈cI (l.take (i+1).toNat,jobs,t),x.1≠n'),
    ⟨g0,hlt,hw,g0,hlt,hw,fun c=>?_,fun _=>⟨fun can=>?_,fun can=>?_⟩⟩,fun y hy=>?_⟩
   ·rw [aE0,beq_self_eq_true] at c
    cases c
   ·rw [if_pos can] at st
    rw [st]
    refine ⟨g0,hlt,fun hn=>⟨fun hf=>⟨rfl,rfl,rfl,fun _=>⟨⟨_,List.mem_append_right _ (List.mem_singleton.2 rfl),hn,rfl⟩,fun x hx hxn=>?_⟩,fun c=>absurd rfl c⟩,fun hf=>?_⟩,fun hn=>⟨rfl,rfl,rfl,fun hf=>?_,fun hf x hx=>?_⟩⟩
    ·rcases List.mem_append.1 hx with hx | hx
     ·exact absurd hxn (g3 hf x hx)
     ·rw [List.mem_singleton.1 hx]
      exact Int.le_refl _
    ·obtain ⟨⟨w,w1,w2,w3⟩,w4⟩:=g2 (Classical.not_not.1 hf)
     refine ⟨fun hlo=>⟨rfl,rfl,rfl,fun _=>⟨⟨_,List.mem_append_right _ (List.mem_singleton.2 rfl),hn,rfl⟩,fun x hx hxn=>?_⟩,fun c=>absurd rfl c⟩,fun hlo=>⟨rfl,rfl,rfl,fun _=>⟨⟨w,List.mem_append_left _ w1,w2,w3⟩,fun x hx hxn=>?_⟩,fun c=>absurd (Classical.not_not.1 hf) c⟩⟩
     ·rcases List.mem_append.1 hx with hx | hx
      ·have:=w4 x hx hxn
       simp only
       omega
      ·rw [List.mem_singleton.1 hx]
       exact Int.le_refl _
     ·rcases List.mem_append.1 hx with hx | hx
      ·exact w4 x hx hxn
      ·rw [List.mem_singleton.1 hx]
       simp only
       omega
    ·obtain ⟨⟨w,w1,w2,w3⟩,w4⟩:=g2 hf
     refine ⟨⟨w,List.mem_append_left _ w1,w2,w3⟩,fun x hx hxn=>?_⟩
     rcases List.mem_append.1 hx with hx | hx
     ·exact w4 x hx hxn
     ·rw [List.mem_singleton.1 hx] at hxn
      exact absurd hxn hn
    ·rcases List.mem_append.1 hx with hx | hx
     ·exact g3 hf x hx
     ·rw [List.mem_singleton.1 hx]
      exact hn
   ·rw [if_neg can,List.append_nil] at st
    rw [st]
    exact ⟨rfl,rfl,rfl,g2,g3⟩
   ·obtain ⟨n2,k2,low2,found2,i2⟩:=y
    obtain ⟨e1,e2,e3,e4,e5⟩:=hy
    simp only at e1 e2 e3 e4 e5 ⊢
    subst e1; subst e2; subst e3
    exact ⟨by omega,by omega,⟨rfl,rfl,by omega,by omega,e4,e5⟩,by omega⟩
  ·rw [List.take_of_length_le (by omega)] at g2 g3
   -- the first one is the rY of all
   have fin:(∀ x∈cI (l,jobs,t),¬x.2 < low∧(x.2=low→¬sLt x.1 n'))∧found=k':=by
    by_cases h0:(dM (l,jobs,t)).length=0
    ·have hnil:∀ x,¬x∈cI (l,jobs,t):=fun x hx=>by
      have:=pJ.2 hx
      rw [List.eq_nil_of_length_eq_zero h0] at this
      cases this
     refine ⟨fun x hx=>absurd hx (hnil x),?_⟩
     rw [← hK,b0 h0]
     cases hh:found with
     | false=>rfl
     | true =>
      obtain ⟨⟨w,w1,_⟩,_⟩:=g2 hh
      exact absurd w1 (hnil w)
    ·have hb:=b1 h0
     have hm0:at_ (dM (l,jobs,t)) 0∈dM (l,jobs,t):=kQ (by simp only [Int.toNat_zero]; omega)
     have hn0:(at_ (dM (l,jobs,t)) 0).1=n':=by rw [← hN,hb]
     have hfd:found=true:=Classical.byContradiction fun hh=>g3 hh _ (pJ.1 hm0) hn0
     obtain ⟨⟨w,w1,w2,w3⟩,w4⟩:=g2 hfd
     have q1:=w4 _ (pJ.1 hm0) hn0
     have q2:=(qO _ _).1 (wN (pJ.2 w1))
     have hlow:low=(at_ (dM (l,jobs,t)) 0).2:=by
      have:¬w.2 < (at_ (dM (l,jobs,t)) 0).2:=fun hh=>q2 (.inl hh)
      omega
     refine ⟨fun x hx=>?_,by rw [hfd,← hK,hb]⟩
     have q3:=(qO _ _).1 (wN (pJ.2 hx))
     rw [hn0,← hlow] at q3
     exact ⟨fun hh=>q3 (.inl hh),fun h1 h2=>q3 (.inr ⟨h1,h2⟩)⟩
   obtain ⟨rY,hfk⟩:=fin
   refine ⟨fun y=>y.1=n'∧y.2.1=k'∧y.2.2.1=low∧y.2.2.2.1=found∧0≤y.2.2.2.2∧y.2.2.2.2≤(l.length:Int),fun y=>l.length - y.2.2.2.2.toNat,⟨rfl,rfl,rfl,rfl,by simp only; omega,by simp only; omega⟩,fun y hy=>?_⟩
   obtain ⟨n2,k2,low2,found2,j⟩:=y
   obtain ⟨e1,e2,e3,e4,j0,j1⟩:=hy
   simp only at e1 e2 e3 e4 j0 j1 ⊢
   subst e1; subst e2; subst e3; subst e4
   refine ⟨fun hlt=>?_,fun hge=>?_⟩
   ·have hm:at_ l j∈l:=kQ (l:=l) (i:=j.toNat) (by omega)
    refine ⟨fun y=>y=(n2,k2,low2,found2,j),⟨j0,hlt,hc.2 _ hm,fun can=>?_,fun _=>rfl⟩,fun y hy=>?_⟩
    ·obtain ⟨q1,q2⟩:=rY _ (aCQ.2 ⟨_,hm,can,rfl⟩)
     exact ⟨fun c=>absurd c q1,fun _=>⟨fun c=>⟨j0,hlt,fun c2=>absurd c2 (q2 c),fun _=>rfl⟩,fun _=>rfl⟩⟩
    ·subst hy
     exact ⟨by simp only; omega,by simp only; omega,⟨rfl,rfl,rfl,rfl,by simp only; omega,by simp only; omega⟩,by simp only; omega⟩
   ·rw [hfk]
    exact beq_self_eq_true _

end Go.Abs
