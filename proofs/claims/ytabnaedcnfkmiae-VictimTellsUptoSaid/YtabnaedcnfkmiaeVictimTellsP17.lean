/- Functions, and what the code asks of them: PVictLaw. -/
import Derived.KernelRfl
import Derived.Test.YtabnaedcnfkmiaeVictimTellsP3
import Derived.Test.YtabnaedcnfkmiaeVictimTellsP4
import Derived.Test.YtabnaedcnfkmiaeVictimTellsP5
import Derived.Test.YtabnaedcnfkmiaeVictimTellsP6
import Derived.Test.YtabnaedcnfkmiaeVictimTellsP7
import Derived.Test.YtabnaedcnfkmiaeVictimTellsP8
import Derived.Test.YtabnaedcnfkmiaeVictimTellsP9
import Derived.Test.YtabnaedcnfkmiaeVictimTellsP10
import Derived.Test.YtabnaedcnfkmiaeVictimTellsP11
import Derived.Test.YtabnaedcnfkmiaeVictimTellsP15
import Derived.Test.YtabnaedcnfkmiaeVictimTellsP16
set_option linter.unusedVariables false
set_option linter.unusedSimpArgs false
-- interregnum/interregnumlaw13.awake
namespace Go.Abs
open Go
def f352.args (a:Unit):List D:=[]
def f352.blks (a:Unit):List (List D):=[]
def f352.res (a:Unit):List D:=[.bool (cH a)]
def f352.blks' (a:Unit):List (List D):=[]
def f352.C:aM:=FnC f352.args f352.blks (fun _=>True) f352.res f352.blks'
end Go.Abs

/- interregnum/interregnumlaw13.awake -/
namespace Go.Abs
open Go
set_option linter.unusedVariables false
def f352.s0:ByteArray:=⟨#[110]⟩
def f352.s1:ByteArray:=⟨#[97]⟩
def f352.s2:ByteArray:=⟨#[113]⟩
def f352.s3:ByteArray:=⟨#[116]⟩
def f352.kills (a:Unit):List cB:=[]
def f352.cuts (a:Unit):List (Nat×Σ β:Type,β→Tm):=[]
def f352.af (a:Unit):AF:=AF.mk (.seq (.region [⟨(some 0),0,.move,[.c (.bool false)],none⟩])
 (.seq (.region [⟨(some 5),1,(.build [.int .i64 (0),.int .i64 (0),.int .i64 (0)] [(0,1)]),[.c (.int .i64 (4))],none⟩,
 ⟨(some 6),2,(.build [.str ByteArray.empty,.int .i64 (0),.int .i64 (0),.int .i64 (0),.slice .full 2 0 cO] [(0,1),(1,3)]),[.c (.str f352.s0),.t 5],none⟩,
 ⟨(some 7),3,(.build [.str ByteArray.empty,.int .i64 (0),.int .i64 (0),.int .i64 (0),.slice .full 2 0 cO,.bool false,.int .i64 (0)] [(0,5),(5,1)]),[.t 6,.c (.bool true)],none⟩,
 oT 1 4 (.alloc [.str ByteArray.empty,.int .i64 (0),.int .i64 (0),.int .i64 (0),.slice (.own 0) 2 0 cO,.bool false,.int .i64 (0)]) [],
 ⟨none,12,(.store 7),[.t 1,.t 7],none⟩])
 (.seq (.region [⟨(some 8),13,(.build [.int .i64 (0),.int .i64 (0),.int .i64 (0)] [(0,1)]),[.c (.int .i64 (4))],none⟩,
 ⟨(some 9),14,(.build [.str ByteArray.empty,.str ByteArray.empty,.int .i64 (0),.int .i64 (0),.int .i64 (0),.int .i64 (0),.slice .full 2 0 cO,.str ByteArray.empty,.str ByteArray.empty,.int .i64 (0)] [(0,1),(1,1),(3,3)]),[.c (.str f352.s1),.c (.str f352.s2),.t 8],none⟩,
 ⟨(some 10),15,(.build [.str ByteArray.empty,.str ByteArray.empty,.int .i64 (0),.int .i64 (0),.int .i64 (0),.int .i64 (0),.slice .full 2 0 cO,.str ByteArray.empty,.str ByteArray.empty,.int .i64 (0),.int .i64 (0),.str ByteArray.empty,.int .i64 (0)] [(0,10),(11,1)]),[.t 9,.c (.str f352.s0)],none⟩,
 oT 11 16 (.buildSlice 13 1 [.str ByteArray.empty,.str ByteArray.empty,.int .i64 (0),.int .i64 (0),.int .i64 (0),.int .i64 (0),.slice .full 2 0 cO,.str ByteArray.empty,.str ByteArray.empty,.int .i64 (0),.int .i64 (0),.str ByteArray.empty,.int .i64 (0)] [(0,13)]) [10],
 oT 2 17 .move [11]])
 (.seq (.region [oT 13 18 (.load true 7) [1],
 oT 14 19 .move [2],
 ⟨(some 15),20,(.build [.int .i64 (0),.int .i64 (0),.int .i64 (0)] [(0,1)]),[.c (.int .i64 (1))],none⟩,
 ⟨(some 16),21,(.build [.str ByteArray.empty,.str ByteArray.empty,.int .i64 (0),.int .i64 (0),.int .i64 (0),.int .i64 (0),.slice .full 2 0 cO,.str ByteArray.empty,.str ByteArray.empty,.int .i64 (0)] [(0,1),(1,1),(2,1),(3,3)]),[.c (.str f352.s3),.c (.str f352.s2),.c (.int .i64 (1)),.t 15],none⟩,
 oT 17 22 (.call false 355) [13,14,16],
 oT 12 26 .move [17],
 oT 18 27 (.extract 0) [12],
 oT 19 28 (.extract 1) [12],
 oT 3 29 .move [18],
 oT 4 30 .move [19]])
 (.seq (.region [oT 20 31 .move [4],
 oT 21 32 .move [20],
 oG 22 33 .move [3] 21 true,
 oG 23 34 (.len false) [22] 21 true,
 ⟨(some 24),35,(.bin .eql),[.t 23,.c (.int .i64 (1))],(some (21,true))⟩,
 ⟨(some 25),36,.pick,[.t 21,.t 24,.c (.bool false)],none⟩,
 oT 26 37 .move [25],
 oG 27 38 .move [3] 26 true,
 ⟨(some 28),39,(.indexAddr 1 none),[.t 27,.c (.int .i64 (0))],(some (26,true))⟩,
 oG 29 40 (.load false 1) [28] 26 true,
 ⟨(some 30),41,(.bin .eql),[.t 29,.c (.str f352.s1)],(some (26,true))⟩,
 ⟨(some 31),42,.pick,[.t 26,.t 30,.c (.bool false)],none⟩,
 oT 0 43 .move [31]])
 (.ret))))))
 [.tmp 0] 0 32
def f352.env:Env:=[(355,f355.C)]
def f352.tree (a:Unit):Prop:=∃ c1:aC×(List (aA))×aF,(f352.s0=c1.1.1.1)∧((4:Int)=c1.1.1.2.1.1)∧((0:Int)=c1.1.1.2.1.2.1)∧((0:Int)=c1.1.1.2.1.2.2)∧SlQ 0 c1.1.1.2.2.length cO (gl aE c1.1.1.2.2) ((true=c1.1.2.1)∧((0:Int)=c1.1.2.2)∧SlQ 1 c1.2.1.length (fun _=>[.str f352.s1,.str f352.s2,.int .i64 (0:Int),.int .i64 (4:Int),.int .i64 (0:Int),.int .i64 (0:Int),.slice .ro 2 0 cO,.str ByteArray.empty,.str ByteArray.empty,.int .i64 (0:Int),.int .i64 (0:Int),.str f352.s0,.int .i64 (0:Int)]) (gl aB c1.2.1) ((f352.s3=c1.2.2.1)∧(f352.s2=c1.2.2.2.1)∧((1:Int)=c1.2.2.2.2.1)∧((1:Int)=c1.2.2.2.2.2.1.1)∧((0:Int)=c1.2.2.2.2.2.1.2.1)∧((0:Int)=c1.2.2.2.2.2.1.2.2)∧SlQ 0 c1.2.2.2.2.2.2.1.length cO (gl aE c1.2.2.2.2.2.2.1) ((ByteArray.empty=c1.2.2.2.2.2.2.2.1)∧(ByteArray.empty=c1.2.2.2.2.2.2.2.2.1)∧((0:Int)=c1.2.2.2.2.2.2.2.2.2)∧(bY c1)∧Br ((cN c1).2) (Br ((((cN c1).1).length:Int)==(1:Int)) (Br (decide ((0:Int)≤(0:Int))&&decide ((0:Int) < (((cN c1).1).length:Int))) ((((at_ ((cN c1).1) (0:Int)).toList==f352.s1.toList)=(cH a))∧True) False) ((false=(cH a))∧True)) ((false=(cH a))∧True))))
def f352.vc (a:Unit):Prop:=(bY (((f352.s0,((4:Int),(0:Int),(0:Int)),[]),true,(0:Int)),[((f352.s1,f352.s2,(0:Int),((4:Int),(0:Int),(0:Int)),[],ByteArray.empty,ByteArray.empty,(0:Int)),(0:Int),f352.s0,(0:Int))],(f352.s3,f352.s2,(1:Int),((1:Int),(0:Int),(0:Int)),[],ByteArray.empty,ByteArray.empty,(0:Int)))∧((((cN (((f352.s0,((4:Int),(0:Int),(0:Int)),[]),true,(0:Int)),[((f352.s1,f352.s2,(0:Int),((4:Int),(0:Int),(0:Int)),[],ByteArray.empty,ByteArray.empty,(0:Int)),(0:Int),f352.s0,(0:Int))],(f352.s3,f352.s2,(1:Int),((1:Int),(0:Int),(0:Int)),[],ByteArray.empty,ByteArray.empty,(0:Int)))).2)=true→(((((cN (((f352.s0,((4:Int),(0:Int),(0:Int)),[]),true,(0:Int)),[((f352.s1,f352.s2,(0:Int),((4:Int),(0:Int),(0:Int)),[],ByteArray.empty,ByteArray.empty,(0:Int)),(0:Int),f352.s0,(0:Int))],(f352.s3,f352.s2,(1:Int),((1:Int),(0:Int),(0:Int)),[],ByteArray.empty,ByteArray.empty,(0:Int)))).1).length:Int)=(1:Int)→((0:Int) < (((cN (((f352.s0,((4:Int),(0:Int),(0:Int)),[]),true,(0:Int)),[((f352.s1,f352.s2,(0:Int),((4:Int),(0:Int),(0:Int)),[],ByteArray.empty,ByteArray.empty,(0:Int)),(0:Int),f352.s0,(0:Int))],(f352.s3,f352.s2,(1:Int),((1:Int),(0:Int),(0:Int)),[],ByteArray.empty,ByteArray.empty,(0:Int)))).1).length:Int)∧(((at_ ((cN (((f352.s0,((4:Int),(0:Int),(0:Int)),[]),true,(0:Int)),[((f352.s1,f352.s2,(0:Int),((4:Int),(0:Int),(0:Int)),[],ByteArray.empty,ByteArray.empty,(0:Int)),(0:Int),f352.s0,(0:Int))],(f352.s3,f352.s2,(1:Int),((1:Int),(0:Int),(0:Int)),[],ByteArray.empty,ByteArray.empty,(0:Int)))).1) (0:Int)).toList==f352.s1.toList)=cH a)))∧(¬((((cN (((f352.s0,((4:Int),(0:Int),(0:Int)),[]),true,(0:Int)),[((f352.s1,f352.s2,(0:Int),((4:Int),(0:Int),(0:Int)),[],ByteArray.empty,ByteArray.empty,(0:Int)),(0:Int),f352.s0,(0:Int))],(f352.s3,f352.s2,(1:Int),((1:Int),(0:Int),(0:Int)),[],ByteArray.empty,ByteArray.empty,(0:Int)))).1).length:Int)=(1:Int))→(false=cH a))))∧(¬(((cN (((f352.s0,((4:Int),(0:Int),(0:Int)),[]),true,(0:Int)),[((f352.s1,f352.s2,(0:Int),((4:Int),(0:Int),(0:Int)),[],ByteArray.empty,ByteArray.empty,(0:Int)),(0:Int),f352.s0,(0:Int))],(f352.s3,f352.s2,(1:Int),((1:Int),(0:Int),(0:Int)),[],ByteArray.empty,ByteArray.empty,(0:Int)))).2)=true)→(false=cH a))))
set_option maxRecDepth 100000 in
set_option maxHeartbeats 2000000 in
theorem f352.of (a:Unit) (h:f352.vc a):f352.tree a:=⟨(((f352.s0,((4:Int),(0:Int),(0:Int)),[]),true,(0:Int)),[((f352.s1,f352.s2,(0:Int),((4:Int),(0:Int),(0:Int)),[],ByteArray.empty,ByteArray.empty,(0:Int)),(0:Int),f352.s0,(0:Int))],(f352.s3,f352.s2,(1:Int),((1:Int),(0:Int),(0:Int)),[],ByteArray.empty,ByteArray.empty,(0:Int))),⟨rfl,⟨rfl,⟨rfl,⟨rfl,slQ (Rds.nil (enc:=aE)) (⟨rfl,⟨rfl,slQ (Rds.one (enc:=aB) (DEqs.cons (DEq.refl _) (DEqs.cons (DEq.refl _) (DEqs.cons (DEq.refl _) (DEqs.cons (DEq.refl _) (DEqs.cons (DEq.refl _) (DEqs.cons (DEq.refl _) (DEqs.cons ((Rds.nil (enc:=aE))).deq (DEqs.cons (DEq.refl _) (DEqs.cons (DEq.refl _) (DEqs.cons (DEq.refl _) (DEqs.cons (DEq.refl _) (DEqs.cons (DEq.refl _) (DEqs.cons (DEq.refl _) DEqs.nil)))))))))))))) (⟨rfl,⟨rfl,⟨rfl,⟨rfl,⟨rfl,⟨rfl,slQ (Rds.nil (enc:=aE)) (⟨rfl,⟨rfl,⟨rfl,⟨h.1,br h.2 Cnd.b (fun h2 k13=>br k13 Cnd.eq (fun h4 k10=>chk k10.2 Cnd.ix ⟨(by decide),k10.1⟩ (fun h6 k8=>⟨k8,trivial⟩)) (fun h5 k11=>⟨k11,trivial⟩)) (fun h3 k14=>⟨k14,trivial⟩)⟩⟩⟩⟩)⟩⟩⟩⟩⟩⟩)⟩⟩)⟩⟩⟩⟩⟩
theorem f352.eq (a:Unit):(f352.af a).gives f352.env (f352.args a) (f352.blks a) (f352.res a) (f352.blks' a)=f352.tree a:=by kernel_rfl
end Go.Abs

-- interregnum/interregnumlaw13.VictimRoom
namespace Go.Abs
open Go
end Go.Abs

/- interregnum/interregnumlaw13.VictimRoom -/
namespace Go.Abs
open Go
set_option linter.unusedVariables false
end Go.Abs

-- interregnum/interregnumlaw13.VictimRanks
namespace Go.Abs
open Go
end Go.Abs

/- interregnum/interregnumlaw13.VictimRanks -/
namespace Go.Abs
open Go
set_option linter.unusedVariables false
end Go.Abs

/- The laws of layer 13. -/
namespace Go.Abs
open Go

def ndL (l:List bQ):List b8:=l.map fun j=>j.1.2.2.2.1

theorem xP {α:Type} (lt:α→α→Bool) (x:α):∀ l,(rQ lt x l).Perm (x::l)
 | []=>List.Perm.refl _
 | y::l=>by
  simp only [rQ]
  split
  ·exact ((xP lt x l).cons y).trans (List.Perm.swap x y l)
  ·exact List.Perm.refl _
theorem uL {α:Type} (lt:α→α→Bool):∀ l,(bK lt l).Perm l
 | []=>List.Perm.refl _
 | x::l=>(xP lt x _).trans ((uL lt l).cons x)

theorem w8 {l m:List b8} (h:l.Perm m):dX l=dX m:=by
 induction h with
 | nil=>rfl
 | cons x _ ih=>simp only [dX,ih]
 | swap x y l =>
  simp only [dX]
  rw [← gT,← gT,xJ y x]
 | trans _ _ h1 h2=>exact h1.trans h2

theorem aFH {m:bM} {l:List bQ} {t:bO}:dS (m,l,t)=4 ↔
  ((aX (m,l)).2=0∧fI m.1=true∧bL t=true)∧m.2.1=true∧eW (m.1.2.2,t.2.2.2.2.1)=true∧¬fL (l,m,t)=true∧¬cT (t.2.2.2.1,(aX (m,l)).1)=true:=by
 unfold dS
 simp only
 split
 ·rename_i h; exact ⟨fun hh=>absurd hh (by decide),fun hh=>absurd hh.1 h⟩
 ·rename_i h
  split
  ·rename_i h1; exact ⟨fun hh=>absurd hh (by decide),fun hh=>absurd hh.2.1 h1⟩
  ·rename_i h1
   split
   ·rename_i h2; exact ⟨fun hh=>absurd hh (by decide),fun hh=>absurd hh.2.2.1 h2⟩
   ·rename_i h2
    split
    ·rename_i h3; exact ⟨fun hh=>absurd hh (by decide),fun hh=>absurd h3 hh.2.2.2.1⟩
    ·rename_i h3
     split
     ·rename_i h4
      exact ⟨fun _=>⟨Classical.not_not.1 h,Classical.not_not.1 h1,Classical.not_not.1 h2,h3,h4⟩,fun _=>rfl⟩
     ·rename_i h4; exact ⟨fun hh=>absurd hh (by decide),fun hh=>absurd hh.2.2.2.2 h4⟩

theorem aF9 {a:bM×List bQ×bO} {j:bQ} (h:j∈dZ a):j∈a.2.1∧j.2.2.1=a.1.1.1∧j.1.2.2.1 < a.2.2.2.2.1:=by
 have:=(lH iG).1 h
 obtain ⟨h1,h2⟩:=List.mem_filter.1 this
 exact ⟨h1,of_decide_eq_true h2⟩

theorem f352.ok (a:Unit) (_:True):f352.vc a:=by
 have e1:cN (((f352.s0,((4:Int),(0:Int),(0:Int)),[]),true,(0:Int)),[((f352.s1,f352.s2,(0:Int),((4:Int),(0:Int),(0:Int)),[],ByteArray.empty,ByteArray.empty,(0:Int)),(0:Int),f352.s0,(0:Int))],(f352.s3,f352.s2,(1:Int),((1:Int),(0:Int),(0:Int)),[],ByteArray.empty,ByteArray.empty,(0:Int)))=([f352.s1],true):=by decide +kernel
 unfold f352.vc
 rw [e1]
 refine ⟨⟨Nat.le_of_ble_eq_true rfl,⟨?_,?_⟩,⟨?_,?_,?_,?_,?_⟩,Nat.le_of_ble_eq_true rfl,Nat.le_of_ble_eq_true rfl⟩,fun _=>⟨fun _=>⟨by decide,show (f352.s1.toList==f352.s1.toList)=true from beq_self_eq_true _⟩,fun c=>absurd rfl c⟩,fun c=>absurd rfl c⟩ <;> first | exact Nat.le_of_ble_eq_true rfl | exact fun x hx=>absurd hx List.not_mem_nil

end Go.Abs
