/- Functions, and what the code asks of them: PQuota. -/
import Derived.KernelRfl
import Derived.Test.YtjlehbennimkgaaRankOrderP3
import Derived.Test.YtjlehbennimkgaaRankOrderP4
import Derived.Test.YtjlehbennimkgaaRankOrderP5
set_option linter.unusedVariables false
set_option linter.unusedSimpArgs false
/- What queues bear. -/
namespace Go.Abs
open Go

def aEJ (a b:dR):dR:=(a.1+b.1,a.2.1+b.2.1,a.2.2+b.2.2)
def aFV (a b:dR):dR:=(a.1 - b.1,a.2.1 - b.2.1,a.2.2 - b.2.2)
def uH:dR:=(0,0,0)
def cS (a:dR×dR×Int):dR×Int :=
 if ¬(bE a.1=true∧bE a.2.1=true) then (uH,1) else
 if bE (if a.2.2=1 then aEJ a.1 a.2.1 else aFV a.1 a.2.1)=true then (if a.2.2=1 then aEJ a.1 a.2.1 else aFV a.1 a.2.1,0) else (uH,6)
def kG (a:dR×dR×Int):Prop:=a.2.2=1∨a.2.2=-1
def gK (a:dR×dR):dR×Int:=cS (a.1,a.2,1)
def lQ (a:dR×dR):dR×Int:=cS (a.1,a.2,-1)
def iK (a:dR×dR):Bool:=decide (a.1.1≤a.2.1∧a.1.2.1≤a.2.2.1∧a.1.2.2≤a.2.2.2)
def pX:dR→List dR→dR×Int
 | out,[]=>(out,0)
 | out,a::l=>if (gK (out,a)).2=0 then pX (gK (out,a)).1 l else (uH,(gK (out,a)).2)
def iA (l:List dR):dR×Int:=pX uH l

def L20 {α:Type} (l:List α):Prop:=l.length≤1048576
end Go.Abs

/- What queues bear: plain facts. -/
namespace Go.Abs
open Go

theorem sH {α:Type} [Inhabited α] {l:List α} {i:Int} (h0:0≤i) (h:i < (l.length:Int)):l.drop i.toNat=at_ l i::l.drop (i+1).toNat:=by
 have hi:i.toNat < l.length:=by omega
 rw [List.drop_eq_getElem_cons hi,show (i+1).toNat=i.toNat+1 from by omega]
 unfold at_
 rw [List.getD_eq_getElem?_getD,List.getElem?_eq_getElem hi]
 rfl

theorem wT {a b:dR}:iK (a,b)=true↔a.1≤b.1∧a.2.1≤b.2.1∧a.2.2≤b.2.2:=by
 unfold iK
 simp only [decide_eq_true_eq]

theorem pB {α:Type} [Inhabited α] {l:List α} {p:α→Bool} (h:∀ i,i < l.length→p (l.getD i default)=false):l.findIdx? p=none:=by
 rw [List.findIdx?_eq_none_iff]
 intro x hx
 obtain ⟨i,hi,rfl⟩:=List.mem_iff_getElem.1 hx
 have:=h i hi
 rwa [List.getD_eq_getElem?_getD,List.getElem?_eq_getElem hi] at this

theorem pQ {α:Type} [Inhabited α] {l:List α} {p:α→Bool} {k:Nat} (hk:k < l.length) (hp:p (l.getD k default)=true) (h:∀ i,i < k→p (l.getD i default)=false):l.findIdx? p=some k:=by
 have e:∀ i (hi:i < l.length),l.getD i default=l[i]:=fun i hi=>by rw [List.getD_eq_getElem?_getD,List.getElem?_eq_getElem hi]; rfl
 rw [List.findIdx?_eq_some_iff_getElem]
 refine ⟨hk,by rw [← e k hk]; exact hp,fun j hj=>?_⟩
 have:=h j hj
 rw [e j (by omega)] at this
 rw [this]
 decide

end Go.Abs

-- interregnum/res.both
namespace Go.Abs
open Go
def f69.ent (K:(aD×aD×Int)→Prop) (t:aD×aD×Int):Prop:=∃ c:aD×aD×Int,(t.1.1=c.1.1)∧(t.1.2.1=c.1.2.1)∧(t.1.2.2=c.1.2.2)∧(t.2.1.1=c.2.1.1)∧(t.2.1.2.1=c.2.1.2.1)∧(t.2.1.2.2=c.2.1.2.2)∧(t.2.2=c.2.2)∧K c
theorem f69.ei {K:(aD×aD×Int)→Prop} {t:aD×aD×Int} (h:K t):f69.ent K t:=⟨t,⟨rfl,⟨rfl,⟨rfl,⟨rfl,⟨rfl,⟨rfl,⟨rfl,h⟩⟩⟩⟩⟩⟩⟩⟩
def f69.args (a:aD×aD×Int):List D:=[.agg [.int .i64 a.1.1,.int .i64 a.1.2.1,.int .i64 a.1.2.2],.agg [.int .i64 a.2.1.1,.int .i64 a.2.1.2.1,.int .i64 a.2.1.2.2],.int .i64 a.2.2]
def f69.blks (a:aD×aD×Int):List (List D):=[]
def f69.res (a:aD×aD×Int):List D:=[.agg [.int .i64 (((cS a).1).1),.int .i64 (((cS a).1).2.1),.int .i64 (((cS a).1).2.2)],.int .i64 ((cS a).2)]
def f69.blks' (a:aD×aD×Int):List (List D):=[]
def f69.C:aN:=FnC f69.args f69.blks (fun a=>kG a) f69.res f69.blks'
end Go.Abs

/- interregnum/res.both -/
namespace Go.Abs
open Go
set_option linter.unusedVariables false
def f69.kills (a:aD×aD×Int):List Hint:=[.unroll 4 [0,1,4,5,7,8,9,10,11,12,13,14,15,16,17,18,21,22,23,24,25,26,27,28,29,30,31,32,33,34,35,36,37] [0,2] []]
def f69.cuts (a:aD×aD×Int):List (Nat×Σ β:Type,β→Tm):=[]
def f69.af (a:aD×aD×Int):AF:=AF.mk (.seq (.region [oT 3 0 .box [0],
 oT 4 1 .box [1],
 oT 6 2 (.alloc [.int .i64 (0),.int .i64 (0),.int .i64 (0)]) [],
 ⟨(some 7),6,.move,[.c (.int .i64 (0))],none⟩])
 (.seq (.seq (.region [oT 10 7 (.load true 3) [3],
 oT 11 8 (.call false 49) [10],
 oT 12 12 (.un .not) [11],
 oT 13 13 .move [12],
 oG 14 14 (.load true 3) [4] 13 false,
 oG 15 15 (.call false 49) [14] 13 false,
 oG 16 19 (.un .not) [15] 13 false,
 ⟨(some 17),20,.pick,[.t 13,.c (.bool true),.t 16],none⟩])
 (.cond (.t 17) (.seq (.region [oT 18 21 (.build [.int .i64 (0),.int .i64 (0),.int .i64 (0)] []) [],
 ⟨none,22,(.store 3),[.t 6,.t 18],none⟩,
 ⟨(some 7),23,.move,[.c (.int .i64 (1))],none⟩])
 (.ret)) (.skip)))
 (.seq (.seq (.region [oT 19 24 (.load true 3) [4],
 ⟨(some 20),25,.move,[.c (.int .i64 (0))],none⟩])
 (.block 0 (.loop 4 [0,1,4,5,7,8,9,10,11,12,13,14,15,16,17,18,21,22,23,24,25,26,27,28,29,30,31,32,33,34,35,36,37] [0,2] [] 26 42 (.seq (.region [⟨(some 21),26,(.bin .lss),[.t 20,.c (.int .i64 (3))],none⟩])
 (.seq (.cond (.t 21) (.skip) (.exit 0))
 (.seq (.block 1 (.seq (.region [oT 22 27 .move [20],
 oT 23 28 (.indexArr false 1 3) [19,20],
 oT 8 29 .move [22],
 oT 9 30 .move [23]])
 (.region [oT 24 31 .move [8],
 oT 25 32 (.indexAddr 1 (some 3)) [3,24],
 oT 26 33 (.load false 1) [25],
 oT 27 34 .move [2],
 oT 28 35 .move [9],
 oT 29 36 (.bin .mul) [27,28],
 oT 30 37 (.bin .add) [26,29],
 oT 31 38 (.indexAddr 1 (some 3)) [3,24],
 ⟨none,39,(.store 1),[.t 31,.t 30],none⟩])))
 (.region [⟨(some 32),40,(.bin .add),[.t 20,.c (.int .i64 (1))],none⟩,
 oT 20 41 .move [32]])))))))
 (.seq (.seq (.region [oT 33 42 (.load true 3) [3],
 oT 34 43 (.call false 49) [33],
 oT 35 47 (.un .not) [34]])
 (.cond (.t 35) (.seq (.region [oT 36 48 (.build [.int .i64 (0),.int .i64 (0),.int .i64 (0)] []) [],
 ⟨none,49,(.store 3),[.t 6,.t 36],none⟩,
 ⟨(some 7),50,.move,[.c (.int .i64 (6))],none⟩])
 (.ret)) (.skip)))
 (.seq (.region [oT 37 51 (.load true 3) [3],
 ⟨none,52,(.store 3),[.t 6,.t 37],none⟩,
 ⟨(some 7),53,.move,[.c (.int .i64 (0))],none⟩])
 (.ret))))))
 [.cell 6 true 3,.tmp 7] 0 35
def f69.env:Env:=[(49,f49.C)]
def f69.tree (a:aD×aD×Int):Prop:=∃ c1:aD,(a.1.1=c1.1)∧(a.1.2.1=c1.2.1)∧(a.1.2.2=c1.2.2)∧True∧Br (!(bE c1)) (((0:Int)=(((cS a).1).1))∧((0:Int)=(((cS a).1).2.1))∧((0:Int)=(((cS a).1).2.2))∧((1:Int)=((cS a).2))∧True) (∃ c5:aD,(a.2.1.1=c5.1)∧(a.2.1.2.1=c5.2.1)∧(a.2.1.2.2=c5.2.2)∧True∧Br (!(bE c5)) (((0:Int)=(((cS a).1).1))∧((0:Int)=(((cS a).1).2.1))∧((0:Int)=(((cS a).1).2.2))∧((1:Int)=((cS a).2))∧True) (Let (IntKind.i64.wrap (a.2.2 * a.2.1.1)) (fun v9:Int=>Let (IntKind.i64.wrap (a.1.1+v9)) (fun v10:Int=>Let (IntKind.i64.wrap (a.2.2 * a.2.1.2.1)) (fun v11:Int=>Let (IntKind.i64.wrap (a.1.2.1+v11)) (fun v12:Int=>Let (IntKind.i64.wrap (a.2.2 * a.2.1.2.2)) (fun v13:Int=>Let (IntKind.i64.wrap (a.1.2.2+v13)) (fun v14:Int=>∃ c15:aD,(v10=c15.1)∧(v12=c15.2.1)∧(v14=c15.2.2)∧True∧Br (!(bE c15)) (((0:Int)=(((cS a).1).1))∧((0:Int)=(((cS a).1).2.1))∧((0:Int)=(((cS a).1).2.2))∧((6:Int)=((cS a).2))∧True) ((v10=(((cS a).1).1))∧(v12=(((cS a).1).2.1))∧(v14=(((cS a).1).2.2))∧((0:Int)=((cS a).2))∧True)))))))))
def f69.vc (a:aD×aD×Int):Prop:=((¬((bE (a.1))=true)→((((0:Int),(0:Int),(0:Int)),(1:Int))=cS a))∧(¬(¬((bE (a.1))=true))→((¬((bE (a.2.1))=true)→((((0:Int),(0:Int),(0:Int)),(1:Int))=cS a))∧(¬(¬((bE (a.2.1))=true))→(-9223372036854775808≤(a.2.2 * a.2.1.1)∧(a.2.2 * a.2.1.1)≤9223372036854775807∧(-9223372036854775808≤(a.1.1+(a.2.2 * a.2.1.1))∧(a.1.1+(a.2.2 * a.2.1.1))≤9223372036854775807∧(-9223372036854775808≤(a.2.2 * a.2.1.2.1)∧(a.2.2 * a.2.1.2.1)≤9223372036854775807∧(-9223372036854775808≤(a.1.2.1+(a.2.2 * a.2.1.2.1))∧(a.1.2.1+(a.2.2 * a.2.1.2.1))≤9223372036854775807∧(-9223372036854775808≤(a.2.2 * a.2.1.2.2)∧(a.2.2 * a.2.1.2.2)≤9223372036854775807∧(-9223372036854775808≤(a.1.2.2+(a.2.2 * a.2.1.2.2))∧(a.1.2.2+(a.2.2 * a.2.1.2.2))≤9223372036854775807∧((¬((bE ((a.1.1+(a.2.2 * a.2.1.1)),(a.1.2.1+(a.2.2 * a.2.1.2.1)),(a.1.2.2+(a.2.2 * a.2.1.2.2))))=true)→((((0:Int),(0:Int),(0:Int)),(6:Int))=cS a))∧(¬(¬((bE ((a.1.1+(a.2.2 * a.2.1.1)),(a.1.2.1+(a.2.2 * a.2.1.2.1)),(a.1.2.2+(a.2.2 * a.2.1.2.2))))=true))→((((a.1.1+(a.2.2 * a.2.1.1)),(a.1.2.1+(a.2.2 * a.2.1.2.1)),(a.1.2.2+(a.2.2 * a.2.1.2.2))),(0:Int))=cS a)))))))))))))
set_option maxRecDepth 100000 in
set_option maxHeartbeats 2000000 in
theorem f69.of (a:aD×aD×Int) (h:f69.vc a):f69.tree a:=⟨a.1,⟨rfl,⟨rfl,⟨rfl,⟨trivial,br h (Cnd.not Cnd.b) (fun h2 k44=>⟨(congrArg (fun x:aD×Int=>x.1.1) k44 :),⟨(congrArg (fun x:aD×Int=>x.1.2.1) k44 :),⟨(congrArg (fun x:aD×Int=>x.1.2.2) k44 :),⟨(congrArg (fun x:aD×Int=>x.2) k44 :),trivial⟩⟩⟩⟩) (fun h3 k45=>⟨a.2.1,⟨rfl,⟨rfl,⟨rfl,⟨trivial,br k45 (Cnd.not Cnd.b) (fun h6 k41=>⟨(congrArg (fun x:aD×Int=>x.1.1) k41 :),⟨(congrArg (fun x:aD×Int=>x.1.2.1) k41 :),⟨(congrArg (fun x:aD×Int=>x.1.2.2) k41 :),⟨(congrArg (fun x:aD×Int=>x.2) k41 :),trivial⟩⟩⟩⟩) (fun h7 k42=>wrapK.i64 k42 (fun h38 h39 k40=>wrapK.i64 k40 (fun h35 h36 k37=>wrapK.i64 k37 (fun h32 h33 k34=>wrapK.i64 k34 (fun h29 h30 k31=>wrapK.i64 k31 (fun h26 h27 k28=>wrapK.i64 k28 (fun h23 h24 k25=>⟨((a.1.1+(a.2.2 * a.2.1.1)),(a.1.2.1+(a.2.2 * a.2.1.2.1)),(a.1.2.2+(a.2.2 * a.2.1.2.2))),⟨rfl,⟨rfl,⟨rfl,⟨trivial,br k25 (Cnd.not Cnd.b) (fun h16 k20=>⟨(congrArg (fun x:aD×Int=>x.1.1) k20 :),⟨(congrArg (fun x:aD×Int=>x.1.2.1) k20 :),⟨(congrArg (fun x:aD×Int=>x.1.2.2) k20 :),⟨(congrArg (fun x:aD×Int=>x.2) k20 :),trivial⟩⟩⟩⟩) (fun h17 k21=>⟨(congrArg (fun x:aD×Int=>x.1.1) k21 :),⟨(congrArg (fun x:aD×Int=>x.1.2.1) k21 :),⟨(congrArg (fun x:aD×Int=>x.1.2.2) k21 :),⟨(congrArg (fun x:aD×Int=>x.2) k21 :),trivial⟩⟩⟩⟩)⟩⟩⟩⟩⟩)))))))⟩⟩⟩⟩⟩)⟩⟩⟩⟩⟩
theorem f69.eq (a:aD×aD×Int):(f69.af a).gives f69.env (f69.args a) (f69.blks a) (f69.res a) (f69.blks' a)=f69.tree a:=by kernel_rfl
end Go.Abs

-- interregnum/res.Add
namespace Go.Abs
open Go
def f54.ent (K:(aD×aD)→Prop) (t:aD×aD):Prop:=∃ c:aD×aD,(t.1.1=c.1.1)∧(t.1.2.1=c.1.2.1)∧(t.1.2.2=c.1.2.2)∧(t.2.1=c.2.1)∧(t.2.2.1=c.2.2.1)∧(t.2.2.2=c.2.2.2)∧K c
theorem f54.ei {K:(aD×aD)→Prop} {t:aD×aD} (h:K t):f54.ent K t:=⟨t,⟨rfl,⟨rfl,⟨rfl,⟨rfl,⟨rfl,⟨rfl,h⟩⟩⟩⟩⟩⟩⟩
def f54.args (a:aD×aD):List D:=[.agg [.int .i64 a.1.1,.int .i64 a.1.2.1,.int .i64 a.1.2.2],.agg [.int .i64 a.2.1,.int .i64 a.2.2.1,.int .i64 a.2.2.2]]
def f54.blks (a:aD×aD):List (List D):=[]
def f54.res (a:aD×aD):List D:=[.agg [.int .i64 (((gK a).1).1),.int .i64 (((gK a).1).2.1),.int .i64 (((gK a).1).2.2)],.int .i64 ((gK a).2)]
def f54.blks' (a:aD×aD):List (List D):=[]
def f54.C:aN:=FnC f54.args f54.blks (fun _=>True) f54.res f54.blks'
end Go.Abs

/- interregnum/res.Add -/
namespace Go.Abs
open Go
set_option linter.unusedVariables false
def f54.kills (a:aD×aD):List Hint:=[]
def f54.cuts (a:aD×aD):List (Nat×Σ β:Type,β→Tm):=[]
def f54.af (a:aD×aD):AF:=AF.mk (.seq (.region [oT 2 0 .box [0],
 oT 3 1 .box [1],
 oT 4 2 (.alloc [.int .i64 (0),.int .i64 (0),.int .i64 (0)]) [],
 ⟨(some 5),6,.move,[.c (.int .i64 (0))],none⟩])
 (.seq (.region [oT 6 7 (.load true 3) [2],
 oT 7 8 (.load true 3) [3],
 ⟨(some 8),9,(.call false 69),[.t 6,.t 7,.c (.int .i64 (1))],none⟩,
 oT 9 13 (.extract 0) [8],
 oT 10 14 (.extract 1) [8],
 ⟨none,15,(.store 3),[.t 4,.t 9],none⟩,
 oT 5 16 .move [10]])
 (.ret)))
 [.cell 4 true 3,.tmp 5] 0 9
def f54.env:Env:=[(69,f69.C)]
def f54.tree (a:aD×aD):Prop:=f69.ent (fun c1=>(kG c1)∧((((cS c1).1).1)=(((gK a).1).1))∧((((cS c1).1).2.1)=(((gK a).1).2.1))∧((((cS c1).1).2.2)=(((gK a).1).2.2))∧(((cS c1).2)=((gK a).2))∧True) (a.1,a.2,(1:Int))
def f54.vc (a:aD×aD):Prop:=(kG (a.1,a.2,(1:Int))∧((((cS (a.1,a.2,(1:Int))).1),(cS (a.1,a.2,(1:Int))).2)=gK a))
set_option maxRecDepth 100000 in
set_option maxHeartbeats 2000000 in
theorem f54.of (a:aD×aD) (h:f54.vc a):f54.tree a:=(f69.ei ⟨h.1,⟨(congrArg (fun x:aD×Int=>x.1.1) h.2 :),⟨(congrArg (fun x:aD×Int=>x.1.2.1) h.2 :),⟨(congrArg (fun x:aD×Int=>x.1.2.2) h.2 :),⟨(congrArg (fun x:aD×Int=>x.2) h.2 :),trivial⟩⟩⟩⟩⟩)
theorem f54.eq (a:aD×aD):(f54.af a).gives f54.env (f54.args a) (f54.blks a) (f54.res a) (f54.blks' a)=f54.tree a:=by kernel_rfl
end Go.Abs

-- interregnum/interregnumref03.Add
namespace Go.Abs
open Go
end Go.Abs

/- interregnum/interregnumref03.Add -/
namespace Go.Abs
open Go
set_option linter.unusedVariables false
end Go.Abs

-- interregnum/res.Fits
namespace Go.Abs
open Go
def f34.ent (K:(aD×aD)→Prop) (t:aD×aD):Prop:=∃ c:aD×aD,(t.1.1=c.1.1)∧(t.1.2.1=c.1.2.1)∧(t.1.2.2=c.1.2.2)∧(t.2.1=c.2.1)∧(t.2.2.1=c.2.2.1)∧(t.2.2.2=c.2.2.2)∧K c
theorem f34.ei {K:(aD×aD)→Prop} {t:aD×aD} (h:K t):f34.ent K t:=⟨t,⟨rfl,⟨rfl,⟨rfl,⟨rfl,⟨rfl,⟨rfl,h⟩⟩⟩⟩⟩⟩⟩
def f34.args (a:aD×aD):List D:=[.agg [.int .i64 a.1.1,.int .i64 a.1.2.1,.int .i64 a.1.2.2],.agg [.int .i64 a.2.1,.int .i64 a.2.2.1,.int .i64 a.2.2.2]]
def f34.blks (a:aD×aD):List (List D):=[]
def f34.res (a:aD×aD):List D:=[.bool (iK a)]
def f34.blks' (a:aD×aD):List (List D):=[]
def f34.C:aN:=FnC f34.args f34.blks (fun _=>True) f34.res f34.blks'
end Go.Abs

/- interregnum/res.Fits -/
namespace Go.Abs
open Go
set_option linter.unusedVariables false
def f34.kills (a:aD×aD):List Hint:=[.unroll 4 [0,1,2,4,5,6,9,10,11,12,13,14,15,16,17] [1] []]
def f34.cuts (a:aD×aD):List (Nat×Σ β:Type,β→Tm):=[]
def f34.af (a:aD×aD):AF:=AF.mk (.seq (.region [oT 2 0 .box [0],
 oT 3 1 .box [1],
 ⟨(some 4),2,.move,[.c (.bool false)],none⟩])
 (.seq (.seq (.region [oT 7 3 (.load true 3) [2],
 ⟨(some 8),4,.move,[.c (.int .i64 (0))],none⟩])
 (.block 0 (.loop 4 [0,1,2,4,5,6,9,10,11,12,13,14,15,16,17] [1] [] 5 18 (.seq (.region [⟨(some 9),5,(.bin .lss),[.t 8,.c (.int .i64 (3))],none⟩])
 (.seq (.cond (.t 9) (.skip) (.exit 0))
 (.seq (.block 1 (.seq (.region [oT 10 6 .move [8],
 oT 11 7 (.indexArr false 1 3) [7,8],
 oT 5 8 .move [10],
 oT 6 9 .move [11]])
 (.seq (.region [oT 12 10 .move [6],
 oT 13 11 .move [5],
 oT 14 12 (.indexAddr 1 (some 3)) [3,13],
 oT 15 13 (.load false 1) [14],
 oT 16 14 (.bin .gtr) [12,15]])
 (.cond (.t 16) (.seq (.region [⟨(some 4),15,.move,[.c (.bool false)],none⟩])
 (.ret)) (.skip)))))
 (.region [⟨(some 17),16,(.bin .add),[.t 8,.c (.int .i64 (1))],none⟩,
 oT 8 17 .move [17]])))))))
 (.seq (.region [⟨(some 4),18,.move,[.c (.bool true)],none⟩])
 (.ret))))
 [.tmp 4] 0 16
def f34.env:Env:=[]
def f34.tree (a:aD×aD):Prop:=Br (decide (a.2.1 < a.1.1)) ((false=(iK a))∧True) (Br (decide (a.2.2.1 < a.1.2.1)) ((false=(iK a))∧True) (Br (decide (a.2.2.2 < a.1.2.2)) ((false=(iK a))∧True) ((true=(iK a))∧True)))
def f34.vc (a:aD×aD):Prop:=((a.2.1 < a.1.1→(false=iK a))∧(¬(a.2.1 < a.1.1)→((a.2.2.1 < a.1.2.1→(false=iK a))∧(¬(a.2.2.1 < a.1.2.1)→((a.2.2.2 < a.1.2.2→(false=iK a))∧(¬(a.2.2.2 < a.1.2.2)→(true=iK a)))))))
set_option maxRecDepth 100000 in
set_option maxHeartbeats 2000000 in
theorem f34.of (a:aD×aD) (h:f34.vc a):f34.tree a:=br h Cnd.dec (fun h1 k15=>⟨k15,trivial⟩) (fun h2 k16=>br k16 Cnd.dec (fun h4 k13=>⟨k13,trivial⟩) (fun h5 k14=>br k14 Cnd.dec (fun h7 k11=>⟨k11,trivial⟩) (fun h8 k12=>⟨k12,trivial⟩)))
theorem f34.eq (a:aD×aD):(f34.af a).gives f34.env (f34.args a) (f34.blks a) (f34.res a) (f34.blks' a)=f34.tree a:=by kernel_rfl
end Go.Abs

-- interregnum/res.Sum
namespace Go.Abs
open Go
def f52.ent (K:(List (aD))→Prop) (t:List (aD)):Prop:=∃ c:List (aD),SlQ t.length c.length (gl bN t) (gl bN c) (K c)
theorem f52.ei {K:(List (aD))→Prop} {t:List (aD)} (h:K t):f52.ent K t:=⟨t,slQ (Rds.self (enc:=bN)) (h)⟩
def f52.args (a:List (aD)):List D:=[.slice .ro 3 a.length (gl bN a)]
def f52.blks (a:List (aD)):List (List D):=[]
def f52.res (a:List (aD)):List D:=[.agg [.int .i64 (((iA a).1).1),.int .i64 (((iA a).1).2.1),.int .i64 (((iA a).1).2.2)],.int .i64 ((iA a).2)]
def f52.blks' (a:List (aD)):List (List D):=[]
def f52.C:aN:=FnC f52.args f52.blks (fun a=>L20 a) f52.res f52.blks'
end Go.Abs

/- interregnum/res.Sum -/
namespace Go.Abs
open Go
set_option linter.unusedVariables false
def f52.S0 (a:List (aD)) (x:Int×Int×Int×Int×Int×Int×Int):Tm:=⟨[.dead,.dead,.ptr 0 0,.dead,.ptr 5 0,.dead,.dead,.dead,.dead,.slice .ro 3 a.length (gl bN a),.int .i64 (a.length:Int),.int .i64 x.1,.dead,.dead,.dead,.dead,.dead,.dead,.dead,.dead,.dead,.dead,.dead,.dead,.dead,.dead,.dead,.dead],[(0,false,[.int .i64 x.2.1,.int .i64 x.2.2.1,.int .i64 x.2.2.2.1]),(5,false,[.int .i64 x.2.2.2.2.1,.int .i64 x.2.2.2.2.2.1,.int .i64 x.2.2.2.2.2.2])],[]⟩
def f52.kills (a:List (aD)):List Hint:=[.tell (Int×Int×Int×Int×Int×Int×Int) (f52.S0 a)]
def f52.cuts (a:List (aD)):List (Nat×Σ β:Type,β→Tm):=[]
def f52.af (a:List (aD)):AF:=AF.mk (.seq (.region [oT 2 0 (.alloc [.int .i64 (0),.int .i64 (0),.int .i64 (0)]) [],
 ⟨(some 3),4,.move,[.c (.int .i64 (0))],none⟩])
 (.seq (.region [oT 4 5 (.alloc [.int .i64 (0),.int .i64 (0),.int .i64 (0)]) []])
 (.seq (.seq (.region [oT 9 9 .move [0],
 oT 10 10 (.len false) [9],
 ⟨(some 11),11,.move,[.c (.int .i64 (0))],none⟩])
 (.block 0 (.loopT (Int×Int×Int×Int×Int×Int×Int) (f52.S0 a) 12 45 (.seq (.region [oT 12 12 (.bin .lss) [11,10]])
 (.seq (.cond (.t 12) (.skip) (.exit 0))
 (.seq (.block 1 (.seq (.region [oT 13 13 (.indexAddr 3 none) [9,11],
 oT 14 14 (.load true 3) [13],
 oT 6 15 (.alloc [.int .i64 (0),.int .i64 (0),.int .i64 (0)]) [],
 ⟨none,19,(.store 3),[.t 6,.t 14],none⟩])
 (.seq (.region [oT 16 20 (.load true 3) [4],
 oT 17 21 (.load true 3) [6],
 oT 18 22 (.call false 54) [16,17],
 oT 15 26 .move [18],
 oT 19 27 (.extract 0) [15],
 oT 20 28 (.extract 1) [15],
 oT 7 29 (.alloc [.int .i64 (0),.int .i64 (0),.int .i64 (0)]) [],
 ⟨none,33,(.store 3),[.t 7,.t 19],none⟩,
 oT 8 34 .move [20]])
 (.seq (.seq (.region [oT 21 35 .move [8],
 ⟨(some 22),36,(.bin .neq),[.t 21,.c (.int .i64 (0))],none⟩])
 (.cond (.t 22) (.seq (.region [oT 23 37 (.build [.int .i64 (0),.int .i64 (0),.int .i64 (0)] []) [],
 oT 24 38 .move [8],
 ⟨none,39,(.store 3),[.t 2,.t 23],none⟩,
 oT 3 40 .move [24]])
 (.ret)) (.skip)))
 (.region [oT 25 41 (.load true 3) [7],
 ⟨none,42,(.store 3),[.t 4,.t 25],none⟩])))))
 (.region [⟨(some 26),43,(.bin .add),[.t 11,.c (.int .i64 (1))],none⟩,
 oT 11 44 .move [26]])))))))
 (.seq (.region [oT 27 45 (.load true 3) [4],
 ⟨none,46,(.store 3),[.t 2,.t 27],none⟩,
 ⟨(some 3),47,.move,[.c (.int .i64 (0))],none⟩])
 (.ret)))))
 [.cell 2 true 3,.tmp 3] 0 27
def f52.env:Env:=[(54,f54.C)]
def f52.tree (a:List (aD)):Prop:=∃ (I2:(Int×Int×Int×Int×Int×Int×Int)→Prop) (μ3:(Int×Int×Int×Int×Int×Int×Int)→Nat),(∃ x1:Int×Int×Int×Int×Int×Int×Int,SlS bN a (((a.length:Int)=(a.length:Int))∧((0:Int)=x1.1)∧((0:Int)=x1.2.1)∧((0:Int)=x1.2.2.1)∧((0:Int)=x1.2.2.2.1)∧((0:Int)=x1.2.2.2.2.1)∧((0:Int)=x1.2.2.2.2.2.1)∧((0:Int)=x1.2.2.2.2.2.2)∧I2 x1))∧∀ y4:Int×Int×Int×Int×Int×Int×Int,I2 y4→(Br (decide (y4.1 < (a.length:Int))) (Br (decide ((0:Int)≤y4.1)&&decide (y4.1 < (a.length:Int))) (f54.ent (fun c8=>True∧Br (((gK c8).2) != (0:Int)) (((0:Int)=(((iA a).1).1))∧((0:Int)=(((iA a).1).2.1))∧((0:Int)=(((iA a).1).2.2))∧(((gK c8).2)=((iA a).2))∧True) (Let (IntKind.i64.wrap (y4.1+(1:Int))) (fun v12:Int=>∃ x13:Int×Int×Int×Int×Int×Int×Int,SlS bN a (((a.length:Int)=(a.length:Int))∧(v12=x13.1)∧(y4.2.1=x13.2.1)∧(y4.2.2.1=x13.2.2.1)∧(y4.2.2.2.1=x13.2.2.2.1)∧((((gK c8).1).1)=x13.2.2.2.2.1)∧((((gK c8).1).2.1)=x13.2.2.2.2.2.1)∧((((gK c8).1).2.2)=x13.2.2.2.2.2.2)∧I2 x13∧μ3 x13 < μ3 y4)))) (y4.2.2.2.2,(at_ a y4.1))) False) ((y4.2.2.2.2.1=(((iA a).1).1))∧(y4.2.2.2.2.2.1=(((iA a).1).2.1))∧(y4.2.2.2.2.2.2=(((iA a).1).2.2))∧((0:Int)=((iA a).2))∧True))
def f52.vc (a:List (aD)):Prop:=(∃ (I2:(Int×Int×Int×Int×Int×Int×Int)→Prop) (μ3:(Int×Int×Int×Int×Int×Int×Int)→Nat),I2 ((0:Int),(0:Int),(0:Int),(0:Int),(0:Int),(0:Int),(0:Int))∧∀ y4:Int×Int×Int×Int×Int×Int×Int,I2 y4→((y4.1 < (a.length:Int)→((0:Int)≤y4.1∧y4.1 < (a.length:Int)∧((¬((gK (y4.2.2.2.2,(at_ a y4.1))).2)=(0:Int)→((((0:Int),(0:Int),(0:Int)),(gK (y4.2.2.2.2,(at_ a y4.1))).2)=iA a))∧(¬(¬((gK (y4.2.2.2.2,(at_ a y4.1))).2)=(0:Int))→(-9223372036854775808≤(y4.1+(1:Int))∧(y4.1+(1:Int))≤9223372036854775807∧(I2 ((y4.1+(1:Int)),y4.2.1,y4.2.2.1,y4.2.2.2.1,((gK (y4.2.2.2.2,(at_ a y4.1))).1).1,((gK (y4.2.2.2.2,(at_ a y4.1))).1).2.1,((gK (y4.2.2.2.2,(at_ a y4.1))).1).2.2)∧μ3 ((y4.1+(1:Int)),y4.2.1,y4.2.2.1,y4.2.2.2.1,((gK (y4.2.2.2.2,(at_ a y4.1))).1).1,((gK (y4.2.2.2.2,(at_ a y4.1))).1).2.1,((gK (y4.2.2.2.2,(at_ a y4.1))).1).2.2) < μ3 y4))))))∧(¬(y4.1 < (a.length:Int))→((y4.2.2.2.2,(0:Int))=iA a))))
set_option maxRecDepth 100000 in
set_option maxHeartbeats 2000000 in
theorem f52.of (a:List (aD)) (h:f52.vc a):f52.tree a:=Exists.elim h (fun I2 h25_=>Exists.elim h25_ (fun μ3 h25=>⟨I2,μ3,⟨((0:Int),(0:Int),(0:Int),(0:Int),(0:Int),(0:Int),(0:Int)),SlS.mk  (⟨rfl,⟨rfl,⟨rfl,⟨rfl,⟨rfl,⟨rfl,⟨rfl,⟨rfl,h25.1⟩⟩⟩⟩⟩⟩⟩⟩)⟩,fun y4 h27=>br (h25.2 y4 h27) Cnd.dec (fun h5 k23=>chk k23.2.2 Cnd.ix ⟨k23.1,k23.2.1⟩ (fun h7 k21=>(f54.ei ⟨trivial,br k21 Cnd.ne (fun h9 k18=>⟨(congrArg (fun x:aD×Int=>x.1.1) k18 :),⟨(congrArg (fun x:aD×Int=>x.1.2.1) k18 :),⟨(congrArg (fun x:aD×Int=>x.1.2.2) k18 :),⟨(congrArg (fun x:aD×Int=>x.2) k18 :),trivial⟩⟩⟩⟩) (fun h10 k19=>wrapK.i64 k19 (fun h15 h16 k17=>⟨((y4.1+(1:Int)),y4.2.1,y4.2.2.1,y4.2.2.2.1,((gK (y4.2.2.2.2,(at_ a y4.1))).1).1,((gK (y4.2.2.2.2,(at_ a y4.1))).1).2.1,((gK (y4.2.2.2.2,(at_ a y4.1))).1).2.2),SlS.mk  (⟨rfl,⟨rfl,⟨rfl,⟨rfl,⟨rfl,⟨rfl,⟨rfl,⟨rfl,k17⟩⟩⟩⟩⟩⟩⟩⟩)⟩))⟩))) (fun h6 k24=>⟨(congrArg (fun x:aD×Int=>x.1.1) k24 :),⟨(congrArg (fun x:aD×Int=>x.1.2.1) k24 :),⟨(congrArg (fun x:aD×Int=>x.1.2.2) k24 :),⟨(congrArg (fun x:aD×Int=>x.2) k24 :),trivial⟩⟩⟩⟩)⟩))
theorem f52.eq (a:List (aD)):(f52.af a).gives f52.env (f52.args a) (f52.blks a) (f52.res a) (f52.blks' a)=f52.tree a:=by kernel_rfl
end Go.Abs

-- interregnum/interregnumref03.Sum
namespace Go.Abs
open Go
end Go.Abs

/- interregnum/interregnumref03.Sum -/
namespace Go.Abs
open Go
set_option linter.unusedVariables false
end Go.Abs

/- What queues bear: what the code asks is so. -/
namespace Go.Abs
open Go

theorem f69.ok (a:dR×dR×Int) (h:kG a):f69.vc a:=by
 obtain ⟨x,y,s⟩:=a
 have h:s=1∨s=-1:=h
 unfold f69.vc cS
 simp only
 refine ⟨fun c=>?_,fun c1=>⟨fun c=>?_,fun c2=>?_⟩⟩
 ·rw [if_pos (fun hh=>c hh.1)]; rfl
 ·rw [if_pos (fun hh=>c hh.2)]; rfl
 ·have c1:=Classical.not_not.1 c1
  have c2:=Classical.not_not.1 c2
  have r1:=jK.1 c1
  have r2:=jK.1 c2
  rw [if_neg (not_not_intro (And.intro c1 c2))]
  rcases h with rfl | rfl
  ·simp only [Int.one_mul,if_true]
   refine ⟨by omega,by omega,by omega,by omega,by omega,by omega,by omega,by omega,by omega,by omega,by omega,by omega,fun c=>?_,fun c=>?_⟩
   ·rw [if_neg (show ¬bE (aEJ x y)=true from c)]; rfl
   ·rw [if_pos (show bE (aEJ x y)=true from Classical.not_not.1 c)]; rfl
  ·have e:aEJ x (aFV uH y)=aFV x y:=by
    unfold aEJ aFV uH; simp only [Prod.mk.injEq]; omega
   have en:∀ z:Int,-1 * z=0 - z:=fun z=>by omega
   have hne:¬((-1:Int)=1):=by decide
   simp only [hne,if_false,en]
   refine ⟨by omega,by omega,by omega,by omega,by omega,by omega,by omega,by omega,by omega,by omega,by omega,by omega,fun c=>?_,fun c=>?_⟩
   ·rw [if_neg (fun hh=>c (by rw [← e] at hh; exact hh))]; rfl
   ·have c:=Classical.not_not.1 c
    rw [if_pos (by rw [← e]; exact c),← e]; rfl

theorem f54.ok (a:dR×dR) (_:True):f54.vc a:=⟨.inl rfl,rfl⟩

theorem f34.ok (a:dR×dR) (_:True):f34.vc a:=by
 obtain ⟨x,y⟩:=a
 have hb:¬(x.1≤y.1∧x.2.1≤y.2.1∧x.2.2≤y.2.2)→false=iK (x,y):=fun h=>(Bool.eq_false_iff.2 fun hh=>h (wT.1 hh)).symm
 refine ⟨fun c=>hb (by simp only at c; omega),fun c1=>⟨fun c=>hb (by simp only at c; omega),fun c2=>⟨fun c=>hb (by simp only at c; omega),fun c3=>?_⟩⟩⟩
 simp only at c1 c2 c3
 exact (wT.2 ⟨by omega,by omega,by omega⟩).symm

theorem aIK (a:List dR) (h:L20 a):f52.vc a:=by
 have h:a.length≤1048576:=h
 refine ⟨fun y=>0≤y.1∧y.1≤(a.length:Int)∧pX y.2.2.2.2 (a.drop y.1.toNat)=iA a,fun y=>a.length - y.1.toNat,⟨by simp only; omega,by simp only; omega,rfl⟩,fun y hy=>?_⟩
 obtain ⟨i,r1,r2,r3,out⟩:=y
 obtain ⟨g0,g1,g2⟩:=hy
 simp only at g0 g1 g2 ⊢
 refine ⟨fun hlt=>⟨g0,hlt,fun c=>?_,fun c=>⟨by omega,by omega,⟨by omega,by omega,?_⟩,by omega⟩⟩,fun hge=>?_⟩
 ·rw [← g2,sH g0 hlt,pX,if_neg c]
  rfl
 ·rw [sH g0 hlt,pX,if_pos (Classical.not_not.1 c)] at g2
  exact g2
 ·rw [← g2,List.drop_of_length_le (by omega)]
  rfl
theorem f52.ok (a:List dR) (h:L20 a):f52.vc a:=aIK a h
theorem aJV {a b:ByteArray}:(a.toList==b.toList)=decide (a=b):=by
 rw [Bool.eq_iff_iff,beq_iff_eq,toList_inj,decide_eq_true_eq]

end Go.Abs
