/- Functions, and what the code asks of them: PQuota. -/
import Derived.KernelRfl
import Derived.Test.YtjlehbennimkgaaRankTellsP4
import Derived.Test.YtjlehbennimkgaaRankTellsP5
import Derived.Test.YtjlehbennimkgaaRankTellsP6
set_option maxRecDepth 100000
set_option maxHeartbeats 4000000
set_option linter.unusedVariables false
set_option linter.unusedSimpArgs false
namespace Go.Abs
open Go
def aCD (a b:dO):dO:=(a.1+b.1,a.2.1+b.2.1,a.2.2+b.2.2)
def aDM (a b:dO):dO:=(a.1 - b.1,a.2.1 - b.2.1,a.2.2 - b.2.2)
def vK:dO:=(0,0,0)
def dA (a:dO×dO×Int):dO×Int :=
 if ¬(aR a.1=true∧aR a.2.1=true) then (vK,1) else
 if aR (if a.2.2=1 then aCD a.1 a.2.1 else aDM a.1 a.2.1)=true then (if a.2.2=1 then aCD a.1 a.2.1 else aDM a.1 a.2.1,0) else (vK,6)
def kV (a:dO×dO×Int):Prop:=a.2.2=1∨a.2.2=-1
def cG (a:dO×dO):dO×Int:=dA (a.1,a.2,1)
def dP (a:dO×dO):dO×Int:=dA (a.1,a.2,-1)
def eC (a:dO×dO):Bool:=decide (a.1.1≤a.2.1∧a.1.2.1≤a.2.2.1∧a.1.2.2≤a.2.2.2)
def qK:dO→List dO→dO×Int
 | out,[]=>(out,0)
 | out,a::l=>if (cG (out,a)).2=0 then qK (cG (out,a)).1 l else (vK,(cG (out,a)).2)
def dX (l:List dO):dO×Int:=qK vK l
def L20 {α:Type} (l:List α):Prop:=l.length≤1048576
theorem oH {α:Type} [Inhabited α] {l:List α} {i:Int} (h0:0≤i) (h:i < (l.length:Int)):l.drop i.toNat=at_ l i::l.drop (i+1).toNat:=by
 have hi:i.toNat < l.length:=by omega
 rw [List.drop_eq_getElem_cons hi,show (i+1).toNat=i.toNat+1 from by omega]
 unfold at_
 rw [List.getD_eq_getElem?_getD,List.getElem?_eq_getElem hi]
 rfl
theorem xQ {a b:dO}:eC (a,b)=true↔a.1≤b.1∧a.2.1≤b.2.1∧a.2.2≤b.2.2:=by
 unfold eC
 simp only [decide_eq_true_eq]
theorem qX {α:Type} [Inhabited α] {l:List α} {p:α→Bool} (h:∀ i,i < l.length→p (l.getD i default)=false):l.findIdx? p=none:=by
 rw [List.findIdx?_eq_none_iff]
 intro x hx
 obtain ⟨i,hi,rfl⟩:=List.mem_iff_getElem.1 hx
 have:=h i hi
 rwa [List.getD_eq_getElem?_getD,List.getElem?_eq_getElem hi] at this
theorem qQ {α:Type} [Inhabited α] {l:List α} {p:α→Bool} {k:Nat} (hk:k < l.length) (hp:p (l.getD k default)=true) (h:∀ i,i < k→p (l.getD i default)=false):l.findIdx? p=some k:=by
 have e:∀ i (hi:i < l.length),l.getD i default=l[i]:=fun i hi=>by rw [List.getD_eq_getElem?_getD,List.getElem?_eq_getElem hi]; rfl
 rw [List.findIdx?_eq_some_iff_getElem]
 refine ⟨hk,by rw [← e k hk]; exact hp,fun j hj=>?_⟩
 have:=h j hj
 rw [e j (by omega)] at this
 rw [this]
 decide
def f69.ent (K:(aC×aC×Int)→Prop) (t:aC×aC×Int):Prop:=∃ c:aC×aC×Int,(t.1.1=c.1.1)∧(t.1.2.1=c.1.2.1)∧(t.1.2.2=c.1.2.2)∧(t.2.1.1=c.2.1.1)∧(t.2.1.2.1=c.2.1.2.1)∧(t.2.1.2.2=c.2.1.2.2)∧(t.2.2=c.2.2)∧K c
theorem f69.ei {K:(aC×aC×Int)→Prop} {t:aC×aC×Int} (h:K t):f69.ent K t:=⟨t,⟨rfl,⟨rfl,⟨rfl,⟨rfl,⟨rfl,⟨rfl,⟨rfl,h⟩⟩⟩⟩⟩⟩⟩⟩
def f69.args (a:aC×aC×Int):List D:=[.agg [.int .i64 a.1.1,.int .i64 a.1.2.1,.int .i64 a.1.2.2],.agg [.int .i64 a.2.1.1,.int .i64 a.2.1.2.1,.int .i64 a.2.1.2.2],.int .i64 a.2.2]
def f69.blks (a:aC×aC×Int):List (List D):=[]
def f69.res (a:aC×aC×Int):List D:=[.agg [.int .i64 (((dA a).1).1),.int .i64 (((dA a).1).2.1),.int .i64 (((dA a).1).2.2)],.int .i64 ((dA a).2)]
def f69.blks' (a:aC×aC×Int):List (List D):=[]
def f69.C:aN:=FnC f69.args f69.blks (fun a=>kV a) f69.res f69.blks'
set_option linter.unusedVariables false
def f69.kills (a:aC×aC×Int):List Hint:=[.unroll 4 [0,1,4,5,7,8,9,10,11,12,13,14,15,16,17,18,21,22,23,24,25,26,27,28,29,30,31,32,33,34,35,36,37] [0,2] []]
def f69.cuts (a:aC×aC×Int):List (Nat×Σ β:Type,β→Tm):=[]
def f69.af (a:aC×aC×Int):AF:=AF.mk (.seq (.region [oT 3 0 .box [0],
 oT 4 1 .box [1],
 oT 6 2 (.alloc [.int .i64 (0),.int .i64 (0),.int .i64 (0)]) [],
 ⟨(some 7),6,.move,[.c (.int .i64 (0))],none⟩])
 (.seq (.seq (.region [oT 10 7 (.load true 3) [3],
 oT 11 8 (.call false 49) [10],
 oT 12 12 (.un .not) [11],
 mT 13 13 12,
 oG 14 14 (.load true 3) [4] 13 false,
 oG 15 15 (.call false 49) [14] 13 false,
 oG 16 19 (.un .not) [15] 13 false,
 ⟨(some 17),20,.pick,[.t 13,.c (.bool true),.t 16],none⟩])
 (.cond (.t 17) (.seq (.region [oT 18 21 (.build [.int .i64 (0),.int .i64 (0),.int .i64 (0)] []) [],
 ⟨none,22,(.store 3),[.t 6,.t 18],none⟩,
 ⟨(some 7),23,.move,[.c (.int .i64 (1))],none⟩])
 (.ret)) (.skip)))
 (.seq (.seq (.region [oT 19 24 (.load true 3) [4],
 ⟨(some 20),25,.move,[.c (.int .i64 (0))],none⟩])
 (.block 0 (.loop 4 [0,1,4,5,7,8,9,10,11,12,13,14,15,16,17,18,21,22,23,24,25,26,27,28,29,30,31,32,33,34,35,36,37] [0,2] [] 26 42 (.seq (.region [⟨(some 21),26,(.bin .lss),[.t 20,.c (.int .i64 (3))],none⟩])
 (.seq (.cond (.t 21) (.skip) (.exit 0))
 (.seq (.block 1 (.seq (.region [mT 22 27 20,
 oT 23 28 (.indexArr false 1 3) [19,20],
 mT 8 29 22,
 mT 9 30 23])
 (.region [mT 24 31 8,
 oT 25 32 (.indexAddr 1 (some 3)) [3,24],
 oT 26 33 (.load false 1) [25],
 mT 27 34 2,
 mT 28 35 9,
 oT 29 36 (.bin .mul) [27,28],
 oT 30 37 (.bin .add) [26,29],
 oT 31 38 (.indexAddr 1 (some 3)) [3,24],
 ⟨none,39,(.store 1),[.t 31,.t 30],none⟩])))
 (.region [⟨(some 32),40,(.bin .add),[.t 20,.c (.int .i64 (1))],none⟩,
 mT 20 41 32])))))))
 (.seq (.seq (.region [oT 33 42 (.load true 3) [3],
 oT 34 43 (.call false 49) [33],
 oT 35 47 (.un .not) [34]])
 (.cond (.t 35) (.seq (.region [oT 36 48 (.build [.int .i64 (0),.int .i64 (0),.int .i64 (0)] []) [],
 ⟨none,49,(.store 3),[.t 6,.t 36],none⟩,
 ⟨(some 7),50,.move,[.c (.int .i64 (6))],none⟩])
 (.ret)) (.skip)))
 (.seq (.region [oT 37 51 (.load true 3) [3],
 ⟨none,52,(.store 3),[.t 6,.t 37],none⟩,
 ⟨(some 7),53,.move,[.c (.int .i64 (0))],none⟩])
 (.ret))))))
 [.cell 6 true 3,.tmp 7] 0 35
def f69.env:Env:=[(49,f49.C)]
def f69.tree (a:aC×aC×Int):Prop:=∃ c1:aC,(a.1.1=c1.1)∧(a.1.2.1=c1.2.1)∧(a.1.2.2=c1.2.2)∧True∧Br (!(aR c1)) (((0:Int)=(((dA a).1).1))∧((0:Int)=(((dA a).1).2.1))∧((0:Int)=(((dA a).1).2.2))∧((1:Int)=((dA a).2))∧True) (∃ c5:aC,(a.2.1.1=c5.1)∧(a.2.1.2.1=c5.2.1)∧(a.2.1.2.2=c5.2.2)∧True∧Br (!(aR c5)) (((0:Int)=(((dA a).1).1))∧((0:Int)=(((dA a).1).2.1))∧((0:Int)=(((dA a).1).2.2))∧((1:Int)=((dA a).2))∧True) (Let (wI (a.2.2 * a.2.1.1)) (fun v9:Int=>Let (wI (a.1.1+v9)) (fun v10:Int=>Let (wI (a.2.2 * a.2.1.2.1)) (fun v11:Int=>Let (wI (a.1.2.1+v11)) (fun v12:Int=>Let (wI (a.2.2 * a.2.1.2.2)) (fun v13:Int=>Let (wI (a.1.2.2+v13)) (fun v14:Int=>∃ c15:aC,(v10=c15.1)∧(v12=c15.2.1)∧(v14=c15.2.2)∧True∧Br (!(aR c15)) (((0:Int)=(((dA a).1).1))∧((0:Int)=(((dA a).1).2.1))∧((0:Int)=(((dA a).1).2.2))∧((6:Int)=((dA a).2))∧True) ((v10=(((dA a).1).1))∧(v12=(((dA a).1).2.1))∧(v14=(((dA a).1).2.2))∧((0:Int)=((dA a).2))∧True)))))))))
def f69.vc (a:aC×aC×Int):Prop:=((¬((aR (a.1))=true)→((((0:Int),(0:Int),(0:Int)),(1:Int))=dA a))∧(¬(¬((aR (a.1))=true))→((¬((aR (a.2.1))=true)→((((0:Int),(0:Int),(0:Int)),(1:Int))=dA a))∧(¬(¬((aR (a.2.1))=true))→(-9223372036854775808≤(a.2.2 * a.2.1.1)∧(a.2.2 * a.2.1.1)≤9223372036854775807∧(-9223372036854775808≤(a.1.1+(a.2.2 * a.2.1.1))∧(a.1.1+(a.2.2 * a.2.1.1))≤9223372036854775807∧(-9223372036854775808≤(a.2.2 * a.2.1.2.1)∧(a.2.2 * a.2.1.2.1)≤9223372036854775807∧(-9223372036854775808≤(a.1.2.1+(a.2.2 * a.2.1.2.1))∧(a.1.2.1+(a.2.2 * a.2.1.2.1))≤9223372036854775807∧(-9223372036854775808≤(a.2.2 * a.2.1.2.2)∧(a.2.2 * a.2.1.2.2)≤9223372036854775807∧(-9223372036854775808≤(a.1.2.2+(a.2.2 * a.2.1.2.2))∧(a.1.2.2+(a.2.2 * a.2.1.2.2))≤9223372036854775807∧((¬((aR ((a.1.1+(a.2.2 * a.2.1.1)),(a.1.2.1+(a.2.2 * a.2.1.2.1)),(a.1.2.2+(a.2.2 * a.2.1.2.2))))=true)→((((0:Int),(0:Int),(0:Int)),(6:Int))=dA a))∧(¬(¬((aR ((a.1.1+(a.2.2 * a.2.1.1)),(a.1.2.1+(a.2.2 * a.2.1.2.1)),(a.1.2.2+(a.2.2 * a.2.1.2.2))))=true))→((((a.1.1+(a.2.2 * a.2.1.1)),(a.1.2.1+(a.2.2 * a.2.1.2.1)),(a.1.2.2+(a.2.2 * a.2.1.2.2))),(0:Int))=dA a)))))))))))))
theorem f69.of (a:aC×aC×Int) (h:f69.vc a):f69.tree a:=⟨a.1,⟨rfl,⟨rfl,⟨rfl,⟨trivial,br h (Cnd.not Cnd.b) (fun h2 k44=>⟨(congrArg (fun x:aC×Int=>x.1.1) k44 :),⟨(congrArg (fun x:aC×Int=>x.1.2.1) k44 :),⟨(congrArg (fun x:aC×Int=>x.1.2.2) k44 :),⟨(congrArg (fun x:aC×Int=>x.2) k44 :),trivial⟩⟩⟩⟩) (fun h3 k45=>⟨a.2.1,⟨rfl,⟨rfl,⟨rfl,⟨trivial,br k45 (Cnd.not Cnd.b) (fun h6 k41=>⟨(congrArg (fun x:aC×Int=>x.1.1) k41 :),⟨(congrArg (fun x:aC×Int=>x.1.2.1) k41 :),⟨(congrArg (fun x:aC×Int=>x.1.2.2) k41 :),⟨(congrArg (fun x:aC×Int=>x.2) k41 :),trivial⟩⟩⟩⟩) (fun h7 k42=>wrapK.i64 k42 (fun h38 h39 k40=>wrapK.i64 k40 (fun h35 h36 k37=>wrapK.i64 k37 (fun h32 h33 k34=>wrapK.i64 k34 (fun h29 h30 k31=>wrapK.i64 k31 (fun h26 h27 k28=>wrapK.i64 k28 (fun h23 h24 k25=>⟨((a.1.1+(a.2.2 * a.2.1.1)),(a.1.2.1+(a.2.2 * a.2.1.2.1)),(a.1.2.2+(a.2.2 * a.2.1.2.2))),⟨rfl,⟨rfl,⟨rfl,⟨trivial,br k25 (Cnd.not Cnd.b) (fun h16 k20=>⟨(congrArg (fun x:aC×Int=>x.1.1) k20 :),⟨(congrArg (fun x:aC×Int=>x.1.2.1) k20 :),⟨(congrArg (fun x:aC×Int=>x.1.2.2) k20 :),⟨(congrArg (fun x:aC×Int=>x.2) k20 :),trivial⟩⟩⟩⟩) (fun h17 k21=>⟨(congrArg (fun x:aC×Int=>x.1.1) k21 :),⟨(congrArg (fun x:aC×Int=>x.1.2.1) k21 :),⟨(congrArg (fun x:aC×Int=>x.1.2.2) k21 :),⟨(congrArg (fun x:aC×Int=>x.2) k21 :),trivial⟩⟩⟩⟩)⟩⟩⟩⟩⟩)))))))⟩⟩⟩⟩⟩)⟩⟩⟩⟩⟩
theorem f69.eq (a:aC×aC×Int):(f69.af a).gives f69.env (f69.args a) (f69.blks a) (f69.res a) (f69.blks' a)=f69.tree a:=by kernel_rfl
def f54.ent (K:(aC×aC)→Prop) (t:aC×aC):Prop:=∃ c:aC×aC,(t.1.1=c.1.1)∧(t.1.2.1=c.1.2.1)∧(t.1.2.2=c.1.2.2)∧(t.2.1=c.2.1)∧(t.2.2.1=c.2.2.1)∧(t.2.2.2=c.2.2.2)∧K c
theorem f54.ei {K:(aC×aC)→Prop} {t:aC×aC} (h:K t):f54.ent K t:=⟨t,⟨rfl,⟨rfl,⟨rfl,⟨rfl,⟨rfl,⟨rfl,h⟩⟩⟩⟩⟩⟩⟩
def f54.args (a:aC×aC):List D:=[.agg [.int .i64 a.1.1,.int .i64 a.1.2.1,.int .i64 a.1.2.2],.agg [.int .i64 a.2.1,.int .i64 a.2.2.1,.int .i64 a.2.2.2]]
def f54.blks (a:aC×aC):List (List D):=[]
def f54.res (a:aC×aC):List D:=[.agg [.int .i64 (((cG a).1).1),.int .i64 (((cG a).1).2.1),.int .i64 (((cG a).1).2.2)],.int .i64 ((cG a).2)]
def f54.blks' (a:aC×aC):List (List D):=[]
def f54.C:aN:=FnC f54.args f54.blks (fun _=>True) f54.res f54.blks'
def f54.kills (a:aC×aC):List Hint:=[]
def f54.cuts (a:aC×aC):List (Nat×Σ β:Type,β→Tm):=[]
def f54.af (a:aC×aC):AF:=AF.mk (.seq (.region [oT 2 0 .box [0],
 oT 3 1 .box [1],
 oT 4 2 (.alloc [.int .i64 (0),.int .i64 (0),.int .i64 (0)]) [],
 ⟨(some 5),6,.move,[.c (.int .i64 (0))],none⟩])
 (.seq (.region [oT 6 7 (.load true 3) [2],
 oT 7 8 (.load true 3) [3],
 ⟨(some 8),9,(.call false 69),[.t 6,.t 7,.c (.int .i64 (1))],none⟩,
 oT 9 13 (.extract 0) [8],
 oT 10 14 (.extract 1) [8],
 ⟨none,15,(.store 3),[.t 4,.t 9],none⟩,
 mT 5 16 10])
 (.ret)))
 [.cell 4 true 3,.tmp 5] 0 9
def f54.env:Env:=[(69,f69.C)]
def f54.tree (a:aC×aC):Prop:=f69.ent (fun c1=>(kV c1)∧((((dA c1).1).1)=(((cG a).1).1))∧((((dA c1).1).2.1)=(((cG a).1).2.1))∧((((dA c1).1).2.2)=(((cG a).1).2.2))∧(((dA c1).2)=((cG a).2))∧True) (a.1,a.2,(1:Int))
def f54.vc (a:aC×aC):Prop:=(kV (a.1,a.2,(1:Int))∧((((dA (a.1,a.2,(1:Int))).1),(dA (a.1,a.2,(1:Int))).2)=cG a))
theorem f54.of (a:aC×aC) (h:f54.vc a):f54.tree a:=(f69.ei ⟨h.1,⟨(congrArg (fun x:aC×Int=>x.1.1) h.2 :),⟨(congrArg (fun x:aC×Int=>x.1.2.1) h.2 :),⟨(congrArg (fun x:aC×Int=>x.1.2.2) h.2 :),⟨(congrArg (fun x:aC×Int=>x.2) h.2 :),trivial⟩⟩⟩⟩⟩)
theorem f54.eq (a:aC×aC):(f54.af a).gives f54.env (f54.args a) (f54.blks a) (f54.res a) (f54.blks' a)=f54.tree a:=by kernel_rfl
def f68.ent (K:(aC×aC)→Prop) (t:aC×aC):Prop:=∃ c:aC×aC,(t.1.1=c.1.1)∧(t.1.2.1=c.1.2.1)∧(t.1.2.2=c.1.2.2)∧(t.2.1=c.2.1)∧(t.2.2.1=c.2.2.1)∧(t.2.2.2=c.2.2.2)∧K c
theorem f68.ei {K:(aC×aC)→Prop} {t:aC×aC} (h:K t):f68.ent K t:=⟨t,⟨rfl,⟨rfl,⟨rfl,⟨rfl,⟨rfl,⟨rfl,h⟩⟩⟩⟩⟩⟩⟩
def f68.args (a:aC×aC):List D:=[.agg [.int .i64 a.1.1,.int .i64 a.1.2.1,.int .i64 a.1.2.2],.agg [.int .i64 a.2.1,.int .i64 a.2.2.1,.int .i64 a.2.2.2]]
def f68.blks (a:aC×aC):List (List D):=[]
def f68.res (a:aC×aC):List D:=[.agg [.int .i64 (((cG a).1).1),.int .i64 (((cG a).1).2.1),.int .i64 (((cG a).1).2.2)],.int .i64 ((cG a).2)]
def f68.blks' (a:aC×aC):List (List D):=[]
def f68.C:aN:=FnC f68.args f68.blks (fun _=>True) f68.res f68.blks'
def f68.kills (a:aC×aC):List Hint:=[.unroll 4 [0,1,5,7,8,9,10,11,12,13,14,15,16,17,18,19,20,21,22,23,24,25,26,27,28,29,30,31,32,33] [0,1,2] []]
def f68.cuts (a:aC×aC):List (Nat×Σ β:Type,β→Tm):=[]
def f68.af (a:aC×aC):AF:=AF.mk (.seq (.region [oT 2 0 .box [0],
 oT 3 1 .box [1],
 oT 4 2 (.alloc [.int .i64 (0),.int .i64 (0),.int .i64 (0)]) [],
 ⟨(some 5),6,.move,[.c (.int .i64 (0))],none⟩])
 (.seq (.seq (.region [oT 7 7 (.load true 3) [2],
 oT 8 8 (.call false 55) [7],
 oT 9 12 (.un .not) [8],
 mT 10 13 9,
 oG 11 14 (.load true 3) [3] 10 false,
 oG 12 15 (.call false 55) [11] 10 false,
 oG 13 19 (.un .not) [12] 10 false,
 ⟨(some 14),20,.pick,[.t 10,.c (.bool true),.t 13],none⟩])
 (.cond (.t 14) (.seq (.region [oT 15 21 (.build [.int .i64 (0),.int .i64 (0),.int .i64 (0)] []) [],
 ⟨none,22,(.store 3),[.t 4,.t 15],none⟩,
 ⟨(some 5),23,.move,[.c (.int .i64 (1))],none⟩])
 (.ret)) (.skip)))
 (.seq (.seq (.region [⟨(some 6),24,.move,[.c (.int .i64 (0))],none⟩])
 (.block 0 (.loop 4 [0,1,5,7,8,9,10,11,12,13,14,15,16,17,18,19,20,21,22,23,24,25,26,27,28,29,30,31,32,33] [0,1,2] [] 25 40 (.seq (.seq (.region [mT 16 25 6,
 ⟨(some 17),26,(.bin .lss),[.t 16,.c (.int .i64 (3))],none⟩])
 (.cond (.t 17) (.skip) (.exit 0)))
 (.seq (.block 1 (.region [mT 20 27 6,
 mT 21 28 6,
 oT 22 29 (.indexAddr 1 (some 3)) [2,21],
 oT 23 30 (.load false 1) [22],
 mT 24 31 6,
 oT 25 32 (.indexAddr 1 (some 3)) [3,24],
 oT 26 33 (.load false 1) [25],
 oT 27 34 (.bin .add) [23,26],
 oT 28 35 (.indexAddr 1 (some 3)) [2,20],
 ⟨none,36,(.store 1),[.t 28,.t 27],none⟩]))
 (.region [mT 18 37 6,
 ⟨(some 19),38,(.bin .add),[.t 18,.c (.int .i64 (1))],none⟩,
 mT 6 39 19]))))))
 (.seq (.seq (.region [oT 29 40 (.load true 3) [2],
 oT 30 41 (.call false 55) [29],
 oT 31 45 (.un .not) [30]])
 (.cond (.t 31) (.seq (.region [oT 32 46 (.build [.int .i64 (0),.int .i64 (0),.int .i64 (0)] []) [],
 ⟨none,47,(.store 3),[.t 4,.t 32],none⟩,
 ⟨(some 5),48,.move,[.c (.int .i64 (6))],none⟩])
 (.ret)) (.skip)))
 (.seq (.region [oT 33 49 (.load true 3) [2],
 ⟨none,50,(.store 3),[.t 4,.t 33],none⟩,
 ⟨(some 5),51,.move,[.c (.int .i64 (0))],none⟩])
 (.ret))))))
 [.cell 4 true 3,.tmp 5] 0 32
def f68.env:Env:=[(55,f55.C)]
def f68.tree (a:aC×aC):Prop:=∃ c1:aC,(a.1.1=c1.1)∧(a.1.2.1=c1.2.1)∧(a.1.2.2=c1.2.2)∧True∧Br (!(aR c1)) (((0:Int)=(((cG a).1).1))∧((0:Int)=(((cG a).1).2.1))∧((0:Int)=(((cG a).1).2.2))∧((1:Int)=((cG a).2))∧True) (∃ c5:aC,(a.2.1=c5.1)∧(a.2.2.1=c5.2.1)∧(a.2.2.2=c5.2.2)∧True∧Br (!(aR c5)) (((0:Int)=(((cG a).1).1))∧((0:Int)=(((cG a).1).2.1))∧((0:Int)=(((cG a).1).2.2))∧((1:Int)=((cG a).2))∧True) (Let (wI (a.1.1+a.2.1)) (fun v9:Int=>Let (wI (a.1.2.1+a.2.2.1)) (fun v10:Int=>Let (wI (a.1.2.2+a.2.2.2)) (fun v11:Int=>∃ c12:aC,(v9=c12.1)∧(v10=c12.2.1)∧(v11=c12.2.2)∧True∧Br (!(aR c12)) (((0:Int)=(((cG a).1).1))∧((0:Int)=(((cG a).1).2.1))∧((0:Int)=(((cG a).1).2.2))∧((6:Int)=((cG a).2))∧True) ((v9=(((cG a).1).1))∧(v10=(((cG a).1).2.1))∧(v11=(((cG a).1).2.2))∧((0:Int)=((cG a).2))∧True))))))
def f68.vc (a:aC×aC):Prop:=((¬((aR (a.1))=true)→((((0:Int),(0:Int),(0:Int)),(1:Int))=cG a))∧(¬(¬((aR (a.1))=true))→((¬((aR (a.2))=true)→((((0:Int),(0:Int),(0:Int)),(1:Int))=cG a))∧(¬(¬((aR (a.2))=true))→(-9223372036854775808≤(a.1.1+a.2.1)∧(a.1.1+a.2.1)≤9223372036854775807∧(-9223372036854775808≤(a.1.2.1+a.2.2.1)∧(a.1.2.1+a.2.2.1)≤9223372036854775807∧(-9223372036854775808≤(a.1.2.2+a.2.2.2)∧(a.1.2.2+a.2.2.2)≤9223372036854775807∧((¬((aR ((a.1.1+a.2.1),(a.1.2.1+a.2.2.1),(a.1.2.2+a.2.2.2)))=true)→((((0:Int),(0:Int),(0:Int)),(6:Int))=cG a))∧(¬(¬((aR ((a.1.1+a.2.1),(a.1.2.1+a.2.2.1),(a.1.2.2+a.2.2.2)))=true))→((((a.1.1+a.2.1),(a.1.2.1+a.2.2.1),(a.1.2.2+a.2.2.2)),(0:Int))=cG a))))))))))
theorem f68.of (a:aC×aC) (h:f68.vc a):f68.tree a:=⟨a.1,⟨rfl,⟨rfl,⟨rfl,⟨trivial,br h (Cnd.not Cnd.b) (fun h2 k32=>⟨(congrArg (fun x:aC×Int=>x.1.1) k32 :),⟨(congrArg (fun x:aC×Int=>x.1.2.1) k32 :),⟨(congrArg (fun x:aC×Int=>x.1.2.2) k32 :),⟨(congrArg (fun x:aC×Int=>x.2) k32 :),trivial⟩⟩⟩⟩) (fun h3 k33=>⟨a.2,⟨rfl,⟨rfl,⟨rfl,⟨trivial,br k33 (Cnd.not Cnd.b) (fun h6 k29=>⟨(congrArg (fun x:aC×Int=>x.1.1) k29 :),⟨(congrArg (fun x:aC×Int=>x.1.2.1) k29 :),⟨(congrArg (fun x:aC×Int=>x.1.2.2) k29 :),⟨(congrArg (fun x:aC×Int=>x.2) k29 :),trivial⟩⟩⟩⟩) (fun h7 k30=>wrapK.i64 k30 (fun h26 h27 k28=>wrapK.i64 k28 (fun h23 h24 k25=>wrapK.i64 k25 (fun h20 h21 k22=>⟨((a.1.1+a.2.1),(a.1.2.1+a.2.2.1),(a.1.2.2+a.2.2.2)),⟨rfl,⟨rfl,⟨rfl,⟨trivial,br k22 (Cnd.not Cnd.b) (fun h13 k17=>⟨(congrArg (fun x:aC×Int=>x.1.1) k17 :),⟨(congrArg (fun x:aC×Int=>x.1.2.1) k17 :),⟨(congrArg (fun x:aC×Int=>x.1.2.2) k17 :),⟨(congrArg (fun x:aC×Int=>x.2) k17 :),trivial⟩⟩⟩⟩) (fun h14 k18=>⟨(congrArg (fun x:aC×Int=>x.1.1) k18 :),⟨(congrArg (fun x:aC×Int=>x.1.2.1) k18 :),⟨(congrArg (fun x:aC×Int=>x.1.2.2) k18 :),⟨(congrArg (fun x:aC×Int=>x.2) k18 :),trivial⟩⟩⟩⟩)⟩⟩⟩⟩⟩))))⟩⟩⟩⟩⟩)⟩⟩⟩⟩⟩
theorem f68.eq (a:aC×aC):(f68.af a).gives f68.env (f68.args a) (f68.blks a) (f68.res a) (f68.blks' a)=f68.tree a:=by kernel_rfl
def f34.ent (K:(aC×aC)→Prop) (t:aC×aC):Prop:=∃ c:aC×aC,(t.1.1=c.1.1)∧(t.1.2.1=c.1.2.1)∧(t.1.2.2=c.1.2.2)∧(t.2.1=c.2.1)∧(t.2.2.1=c.2.2.1)∧(t.2.2.2=c.2.2.2)∧K c
theorem f34.ei {K:(aC×aC)→Prop} {t:aC×aC} (h:K t):f34.ent K t:=⟨t,⟨rfl,⟨rfl,⟨rfl,⟨rfl,⟨rfl,⟨rfl,h⟩⟩⟩⟩⟩⟩⟩
def f34.args (a:aC×aC):List D:=[.agg [.int .i64 a.1.1,.int .i64 a.1.2.1,.int .i64 a.1.2.2],.agg [.int .i64 a.2.1,.int .i64 a.2.2.1,.int .i64 a.2.2.2]]
def f34.blks (a:aC×aC):List (List D):=[]
def f34.res (a:aC×aC):List D:=[.bool (eC a)]
def f34.blks' (a:aC×aC):List (List D):=[]
def f34.C:aN:=FnC f34.args f34.blks (fun _=>True) f34.res f34.blks'
def f34.kills (a:aC×aC):List Hint:=[.unroll 4 [0,1,2,4,5,6,9,10,11,12,13,14,15,16,17] [1] []]
def f34.cuts (a:aC×aC):List (Nat×Σ β:Type,β→Tm):=[]
def f34.af (a:aC×aC):AF:=AF.mk (.seq (.region [oT 2 0 .box [0],
 oT 3 1 .box [1],
 ⟨(some 4),2,.move,[.c (.bool false)],none⟩])
 (.seq (.seq (.region [oT 7 3 (.load true 3) [2],
 ⟨(some 8),4,.move,[.c (.int .i64 (0))],none⟩])
 (.block 0 (.loop 4 [0,1,2,4,5,6,9,10,11,12,13,14,15,16,17] [1] [] 5 18 (.seq (.region [⟨(some 9),5,(.bin .lss),[.t 8,.c (.int .i64 (3))],none⟩])
 (.seq (.cond (.t 9) (.skip) (.exit 0))
 (.seq (.block 1 (.seq (.region [mT 10 6 8,
 oT 11 7 (.indexArr false 1 3) [7,8],
 mT 5 8 10,
 mT 6 9 11])
 (.seq (.region [mT 12 10 6,
 mT 13 11 5,
 oT 14 12 (.indexAddr 1 (some 3)) [3,13],
 oT 15 13 (.load false 1) [14],
 oT 16 14 (.bin .gtr) [12,15]])
 (.cond (.t 16) (.seq (.region [⟨(some 4),15,.move,[.c (.bool false)],none⟩])
 (.ret)) (.skip)))))
 (.region [⟨(some 17),16,(.bin .add),[.t 8,.c (.int .i64 (1))],none⟩,
 mT 8 17 17])))))))
 (.seq (.region [⟨(some 4),18,.move,[.c (.bool true)],none⟩])
 (.ret))))
 [.tmp 4] 0 16
def f34.env:Env:=[]
def f34.tree (a:aC×aC):Prop:=Br (decide (a.2.1 < a.1.1)) ((false=(eC a))∧True) (Br (decide (a.2.2.1 < a.1.2.1)) ((false=(eC a))∧True) (Br (decide (a.2.2.2 < a.1.2.2)) ((false=(eC a))∧True) ((true=(eC a))∧True)))
def f34.vc (a:aC×aC):Prop:=((a.2.1 < a.1.1→(false=eC a))∧(¬(a.2.1 < a.1.1)→((a.2.2.1 < a.1.2.1→(false=eC a))∧(¬(a.2.2.1 < a.1.2.1)→((a.2.2.2 < a.1.2.2→(false=eC a))∧(¬(a.2.2.2 < a.1.2.2)→(true=eC a)))))))
theorem f34.of (a:aC×aC) (h:f34.vc a):f34.tree a:=br h Cnd.dec (fun h1 k15=>⟨k15,trivial⟩) (fun h2 k16=>br k16 Cnd.dec (fun h4 k13=>⟨k13,trivial⟩) (fun h5 k14=>br k14 Cnd.dec (fun h7 k11=>⟨k11,trivial⟩) (fun h8 k12=>⟨k12,trivial⟩)))
theorem f34.eq (a:aC×aC):(f34.af a).gives f34.env (f34.args a) (f34.blks a) (f34.res a) (f34.blks' a)=f34.tree a:=by kernel_rfl
def f52.ent (K:(List (aC))→Prop) (t:List (aC)):Prop:=∃ c:List (aC),SlQ t.length c.length (gl aX t) (gl aX c) (K c)
theorem f52.ei {K:(List (aC))→Prop} {t:List (aC)} (h:K t):f52.ent K t:=⟨t,slQ (rS aX) (h)⟩
def f52.args (a:List (aC)):List D:=[.slice .ro 3 a.length (gl aX a)]
def f52.blks (a:List (aC)):List (List D):=[]
def f52.res (a:List (aC)):List D:=[.agg [.int .i64 (((dX a).1).1),.int .i64 (((dX a).1).2.1),.int .i64 (((dX a).1).2.2)],.int .i64 ((dX a).2)]
def f52.blks' (a:List (aC)):List (List D):=[]
def f52.C:aN:=FnC f52.args f52.blks (fun a=>L20 a) f52.res f52.blks'
def f52.S0 (a:List (aC)) (x:Int×Int×Int×Int×Int×Int×Int):Tm:=⟨.dead::.dead::.ptr 0 0::.dead::.ptr 5 0::.dead::.dead::.dead::.dead::.slice .ro 3 a.length (gl aX a)::.int .i64 (a.length:Int)::.int .i64 x.1::dd 16 [],[(0,false,[.int .i64 x.2.1,.int .i64 x.2.2.1,.int .i64 x.2.2.2.1]),(5,false,[.int .i64 x.2.2.2.2.1,.int .i64 x.2.2.2.2.2.1,.int .i64 x.2.2.2.2.2.2])],[]⟩
def f52.kills (a:List (aC)):List Hint:=[.tell (Int×Int×Int×Int×Int×Int×Int) (f52.S0 a)]
def f52.cuts (a:List (aC)):List (Nat×Σ β:Type,β→Tm):=[]
def f52.af (a:List (aC)):AF:=AF.mk (.seq (.region [oT 2 0 (.alloc [.int .i64 (0),.int .i64 (0),.int .i64 (0)]) [],
 ⟨(some 3),4,.move,[.c (.int .i64 (0))],none⟩])
 (.seq (.region [oT 4 5 (.alloc [.int .i64 (0),.int .i64 (0),.int .i64 (0)]) []])
 (.seq (.seq (.region [mT 9 9 0,
 oT 10 10 (.len false) [9],
 ⟨(some 11),11,.move,[.c (.int .i64 (0))],none⟩])
 (.block 0 (.loopT (Int×Int×Int×Int×Int×Int×Int) (f52.S0 a) 12 45 (.seq (.region [oT 12 12 (.bin .lss) [11,10]])
 (.seq (.cond (.t 12) (.skip) (.exit 0))
 (.seq (.block 1 (.seq (.region [oT 13 13 (.indexAddr 3 none) [9,11],
 oT 14 14 (.load true 3) [13],
 oT 6 15 (.alloc [.int .i64 (0),.int .i64 (0),.int .i64 (0)]) [],
 ⟨none,19,(.store 3),[.t 6,.t 14],none⟩])
 (.seq (.region [oT 16 20 (.load true 3) [4],
 oT 17 21 (.load true 3) [6],
 oT 18 22 (.call false 54) [16,17],
 mT 15 26 18,
 oT 19 27 (.extract 0) [15],
 oT 20 28 (.extract 1) [15],
 oT 7 29 (.alloc [.int .i64 (0),.int .i64 (0),.int .i64 (0)]) [],
 ⟨none,33,(.store 3),[.t 7,.t 19],none⟩,
 mT 8 34 20])
 (.seq (.seq (.region [mT 21 35 8,
 ⟨(some 22),36,(.bin .neq),[.t 21,.c (.int .i64 (0))],none⟩])
 (.cond (.t 22) (.seq (.region [oT 23 37 (.build [.int .i64 (0),.int .i64 (0),.int .i64 (0)] []) [],
 mT 24 38 8,
 ⟨none,39,(.store 3),[.t 2,.t 23],none⟩,
 mT 3 40 24])
 (.ret)) (.skip)))
 (.region [oT 25 41 (.load true 3) [7],
 ⟨none,42,(.store 3),[.t 4,.t 25],none⟩])))))
 (.region [⟨(some 26),43,(.bin .add),[.t 11,.c (.int .i64 (1))],none⟩,
 mT 11 44 26])))))))
 (.seq (.region [oT 27 45 (.load true 3) [4],
 ⟨none,46,(.store 3),[.t 2,.t 27],none⟩,
 ⟨(some 3),47,.move,[.c (.int .i64 (0))],none⟩])
 (.ret)))))
 [.cell 2 true 3,.tmp 3] 0 27
def f52.env:Env:=[(54,f54.C)]
def f52.tree (a:List (aC)):Prop:=∃ (I2:(Int×Int×Int×Int×Int×Int×Int)→Prop) (μ3:(Int×Int×Int×Int×Int×Int×Int)→Nat),(∃ x1:Int×Int×Int×Int×Int×Int×Int,SlS aX a (((a.length:Int)=(a.length:Int))∧((0:Int)=x1.1)∧((0:Int)=x1.2.1)∧((0:Int)=x1.2.2.1)∧((0:Int)=x1.2.2.2.1)∧((0:Int)=x1.2.2.2.2.1)∧((0:Int)=x1.2.2.2.2.2.1)∧((0:Int)=x1.2.2.2.2.2.2)∧I2 x1))∧∀ y4:Int×Int×Int×Int×Int×Int×Int,I2 y4→(Br (decide (y4.1 < (a.length:Int))) (Br (decide ((0:Int)≤y4.1)&&decide (y4.1 < (a.length:Int))) (f54.ent (fun c8=>True∧Br (((cG c8).2) != (0:Int)) (((0:Int)=(((dX a).1).1))∧((0:Int)=(((dX a).1).2.1))∧((0:Int)=(((dX a).1).2.2))∧(((cG c8).2)=((dX a).2))∧True) (Let (wI (y4.1+(1:Int))) (fun v12:Int=>∃ x13:Int×Int×Int×Int×Int×Int×Int,SlS aX a (((a.length:Int)=(a.length:Int))∧(v12=x13.1)∧(y4.2.1=x13.2.1)∧(y4.2.2.1=x13.2.2.1)∧(y4.2.2.2.1=x13.2.2.2.1)∧((((cG c8).1).1)=x13.2.2.2.2.1)∧((((cG c8).1).2.1)=x13.2.2.2.2.2.1)∧((((cG c8).1).2.2)=x13.2.2.2.2.2.2)∧I2 x13∧μ3 x13 < μ3 y4)))) (y4.2.2.2.2,(at_ a y4.1))) False) ((y4.2.2.2.2.1=(((dX a).1).1))∧(y4.2.2.2.2.2.1=(((dX a).1).2.1))∧(y4.2.2.2.2.2.2=(((dX a).1).2.2))∧((0:Int)=((dX a).2))∧True))
def f52.vc (a:List (aC)):Prop:=(∃ (I2:(Int×Int×Int×Int×Int×Int×Int)→Prop) (μ3:(Int×Int×Int×Int×Int×Int×Int)→Nat),I2 ((0:Int),(0:Int),(0:Int),(0:Int),(0:Int),(0:Int),(0:Int))∧∀ y4:Int×Int×Int×Int×Int×Int×Int,I2 y4→((y4.1 < (a.length:Int)→((0:Int)≤y4.1∧y4.1 < (a.length:Int)∧((¬((cG (y4.2.2.2.2,(at_ a y4.1))).2)=(0:Int)→((((0:Int),(0:Int),(0:Int)),(cG (y4.2.2.2.2,(at_ a y4.1))).2)=dX a))∧(¬(¬((cG (y4.2.2.2.2,(at_ a y4.1))).2)=(0:Int))→(-9223372036854775808≤(y4.1+(1:Int))∧(y4.1+(1:Int))≤9223372036854775807∧(I2 ((y4.1+(1:Int)),y4.2.1,y4.2.2.1,y4.2.2.2.1,((cG (y4.2.2.2.2,(at_ a y4.1))).1).1,((cG (y4.2.2.2.2,(at_ a y4.1))).1).2.1,((cG (y4.2.2.2.2,(at_ a y4.1))).1).2.2)∧μ3 ((y4.1+(1:Int)),y4.2.1,y4.2.2.1,y4.2.2.2.1,((cG (y4.2.2.2.2,(at_ a y4.1))).1).1,((cG (y4.2.2.2.2,(at_ a y4.1))).1).2.1,((cG (y4.2.2.2.2,(at_ a y4.1))).1).2.2) < μ3 y4))))))∧(¬(y4.1 < (a.length:Int))→((y4.2.2.2.2,(0:Int))=dX a))))
theorem f52.of (a:List (aC)) (h:f52.vc a):f52.tree a:=Exists.elim h (fun I2 h25_=>Exists.elim h25_ (fun μ3 h25=>⟨I2,μ3,⟨((0:Int),(0:Int),(0:Int),(0:Int),(0:Int),(0:Int),(0:Int)),SlS.mk  (⟨rfl,⟨rfl,⟨rfl,⟨rfl,⟨rfl,⟨rfl,⟨rfl,⟨rfl,h25.1⟩⟩⟩⟩⟩⟩⟩⟩)⟩,fun y4 h27=>br (h25.2 y4 h27) Cnd.dec (fun h5 k23=>chk k23.2.2 Cnd.ix ⟨k23.1,k23.2.1⟩ (fun h7 k21=>(f54.ei ⟨trivial,br k21 Cnd.ne (fun h9 k18=>⟨(congrArg (fun x:aC×Int=>x.1.1) k18 :),⟨(congrArg (fun x:aC×Int=>x.1.2.1) k18 :),⟨(congrArg (fun x:aC×Int=>x.1.2.2) k18 :),⟨(congrArg (fun x:aC×Int=>x.2) k18 :),trivial⟩⟩⟩⟩) (fun h10 k19=>wrapK.i64 k19 (fun h15 h16 k17=>⟨((y4.1+(1:Int)),y4.2.1,y4.2.2.1,y4.2.2.2.1,((cG (y4.2.2.2.2,(at_ a y4.1))).1).1,((cG (y4.2.2.2.2,(at_ a y4.1))).1).2.1,((cG (y4.2.2.2.2,(at_ a y4.1))).1).2.2),SlS.mk  (⟨rfl,⟨rfl,⟨rfl,⟨rfl,⟨rfl,⟨rfl,⟨rfl,⟨rfl,k17⟩⟩⟩⟩⟩⟩⟩⟩)⟩))⟩))) (fun h6 k24=>⟨(congrArg (fun x:aC×Int=>x.1.1) k24 :),⟨(congrArg (fun x:aC×Int=>x.1.2.1) k24 :),⟨(congrArg (fun x:aC×Int=>x.1.2.2) k24 :),⟨(congrArg (fun x:aC×Int=>x.2) k24 :),trivial⟩⟩⟩⟩)⟩))
theorem f52.eq (a:List (aC)):(f52.af a).gives f52.env (f52.args a) (f52.blks a) (f52.res a) (f52.blks' a)=f52.tree a:=by kernel_rfl
def f53.ent (K:(List (aC))→Prop) (t:List (aC)):Prop:=∃ c:List (aC),SlQ t.length c.length (gl aX t) (gl aX c) (K c)
theorem f53.ei {K:(List (aC))→Prop} {t:List (aC)} (h:K t):f53.ent K t:=⟨t,slQ (rS aX) (h)⟩
def f53.args (a:List (aC)):List D:=[.slice .ro 3 a.length (gl aX a)]
def f53.blks (a:List (aC)):List (List D):=[]
def f53.res (a:List (aC)):List D:=[.agg [.int .i64 (((dX a).1).1),.int .i64 (((dX a).1).2.1),.int .i64 (((dX a).1).2.2)],.int .i64 ((dX a).2)]
def f53.blks' (a:List (aC)):List (List D):=[]
def f53.C:aN:=FnC f53.args f53.blks (fun a=>L20 a) f53.res f53.blks'
def f53.S0 (a:List (aC)) (x:Int×Int×Int×Int×Int×Int×Int):Tm:=⟨.slice .ro 3 a.length (gl aX a)::.dead::.ptr 0 0::.dead::.ptr 6 0::.dead::.dead::.dead::.dead::.dead::.int .i64 (a.length:Int)::.int .i64 x.1::dd 18 [],[(0,false,[.int .i64 x.2.1,.int .i64 x.2.2.1,.int .i64 x.2.2.2.1]),(6,false,[.int .i64 x.2.2.2.2.1,.int .i64 x.2.2.2.2.2.1,.int .i64 x.2.2.2.2.2.2])],[]⟩
def f53.kills (a:List (aC)):List Hint:=[.tell (Int×Int×Int×Int×Int×Int×Int) (f53.S0 a)]
def f53.cuts (a:List (aC)):List (Nat×Σ β:Type,β→Tm):=[]
def f53.af (a:List (aC)):AF:=AF.mk (.seq (.region [oT 2 0 (.alloc [.int .i64 (0),.int .i64 (0),.int .i64 (0)]) [],
 ⟨(some 3),4,.move,[.c (.int .i64 (0))],none⟩])
 (.seq (.region [oT 8 5 (.build [.int .i64 (0),.int .i64 (0),.int .i64 (0)] []) [],
 oT 4 6 (.alloc [.int .i64 (0),.int .i64 (0),.int .i64 (0)]) [],
 ⟨none,10,(.store 3),[.t 4,.t 8],none⟩])
 (.seq (.seq (.region [mT 9 11 0,
 oT 10 12 (.len false) [9],
 ⟨(some 11),13,.move,[.c (.int .i64 (0))],none⟩])
 (.block 0 (.loopT (Int×Int×Int×Int×Int×Int×Int) (f53.S0 a) 14 45 (.seq (.region [oT 12 14 (.bin .lss) [11,10]])
 (.seq (.cond (.t 12) (.skip) (.exit 0))
 (.seq (.block 1 (.seq (.region [mT 13 15 11,
 mT 5 16 13])
 (.seq (.region [oT 15 17 (.load true 3) [4],
 mT 16 18 0,
 mT 17 19 5,
 oT 18 20 (.indexAddr 3 none) [16,17],
 oT 19 21 (.load true 3) [18],
 oT 20 22 (.call false 68) [15,19],
 mT 14 26 20,
 oT 21 27 (.extract 0) [14],
 oT 22 28 (.extract 1) [14],
 oT 6 29 (.alloc [.int .i64 (0),.int .i64 (0),.int .i64 (0)]) [],
 ⟨none,33,(.store 3),[.t 6,.t 21],none⟩,
 mT 7 34 22])
 (.seq (.seq (.region [mT 23 35 7,
 ⟨(some 24),36,(.bin .neq),[.t 23,.c (.int .i64 (0))],none⟩])
 (.cond (.t 24) (.seq (.region [oT 25 37 (.build [.int .i64 (0),.int .i64 (0),.int .i64 (0)] []) [],
 mT 26 38 7,
 ⟨none,39,(.store 3),[.t 2,.t 25],none⟩,
 mT 3 40 26])
 (.ret)) (.skip)))
 (.region [oT 27 41 (.load true 3) [6],
 ⟨none,42,(.store 3),[.t 4,.t 27],none⟩])))))
 (.region [⟨(some 28),43,(.bin .add),[.t 11,.c (.int .i64 (1))],none⟩,
 mT 11 44 28])))))))
 (.seq (.region [oT 29 45 (.load true 3) [4],
 ⟨none,46,(.store 3),[.t 2,.t 29],none⟩,
 ⟨(some 3),47,.move,[.c (.int .i64 (0))],none⟩])
 (.ret)))))
 [.cell 2 true 3,.tmp 3] 0 29
def f53.env:Env:=[(68,f68.C)]
def f53.tree (a:List (aC)):Prop:=∃ (I2:(Int×Int×Int×Int×Int×Int×Int)→Prop) (μ3:(Int×Int×Int×Int×Int×Int×Int)→Nat),(∃ x1:Int×Int×Int×Int×Int×Int×Int,SlS aX a (((a.length:Int)=(a.length:Int))∧((0:Int)=x1.1)∧((0:Int)=x1.2.1)∧((0:Int)=x1.2.2.1)∧((0:Int)=x1.2.2.2.1)∧((0:Int)=x1.2.2.2.2.1)∧((0:Int)=x1.2.2.2.2.2.1)∧((0:Int)=x1.2.2.2.2.2.2)∧I2 x1))∧∀ y4:Int×Int×Int×Int×Int×Int×Int,I2 y4→(Br (decide (y4.1 < (a.length:Int))) (Br (decide ((0:Int)≤y4.1)&&decide (y4.1 < (a.length:Int))) (f68.ent (fun c8=>True∧Br (((cG c8).2) != (0:Int)) (((0:Int)=(((dX a).1).1))∧((0:Int)=(((dX a).1).2.1))∧((0:Int)=(((dX a).1).2.2))∧(((cG c8).2)=((dX a).2))∧True) (Let (wI (y4.1+(1:Int))) (fun v12:Int=>∃ x13:Int×Int×Int×Int×Int×Int×Int,SlS aX a (((a.length:Int)=(a.length:Int))∧(v12=x13.1)∧(y4.2.1=x13.2.1)∧(y4.2.2.1=x13.2.2.1)∧(y4.2.2.2.1=x13.2.2.2.1)∧((((cG c8).1).1)=x13.2.2.2.2.1)∧((((cG c8).1).2.1)=x13.2.2.2.2.2.1)∧((((cG c8).1).2.2)=x13.2.2.2.2.2.2)∧I2 x13∧μ3 x13 < μ3 y4)))) (y4.2.2.2.2,(at_ a y4.1))) False) ((y4.2.2.2.2.1=(((dX a).1).1))∧(y4.2.2.2.2.2.1=(((dX a).1).2.1))∧(y4.2.2.2.2.2.2=(((dX a).1).2.2))∧((0:Int)=((dX a).2))∧True))
def f53.vc (a:List (aC)):Prop:=(∃ (I2:(Int×Int×Int×Int×Int×Int×Int)→Prop) (μ3:(Int×Int×Int×Int×Int×Int×Int)→Nat),I2 ((0:Int),(0:Int),(0:Int),(0:Int),(0:Int),(0:Int),(0:Int))∧∀ y4:Int×Int×Int×Int×Int×Int×Int,I2 y4→((y4.1 < (a.length:Int)→((0:Int)≤y4.1∧y4.1 < (a.length:Int)∧((¬((cG (y4.2.2.2.2,(at_ a y4.1))).2)=(0:Int)→((((0:Int),(0:Int),(0:Int)),(cG (y4.2.2.2.2,(at_ a y4.1))).2)=dX a))∧(¬(¬((cG (y4.2.2.2.2,(at_ a y4.1))).2)=(0:Int))→(-9223372036854775808≤(y4.1+(1:Int))∧(y4.1+(1:Int))≤9223372036854775807∧(I2 ((y4.1+(1:Int)),y4.2.1,y4.2.2.1,y4.2.2.2.1,((cG (y4.2.2.2.2,(at_ a y4.1))).1).1,((cG (y4.2.2.2.2,(at_ a y4.1))).1).2.1,((cG (y4.2.2.2.2,(at_ a y4.1))).1).2.2)∧μ3 ((y4.1+(1:Int)),y4.2.1,y4.2.2.1,y4.2.2.2.1,((cG (y4.2.2.2.2,(at_ a y4.1))).1).1,((cG (y4.2.2.2.2,(at_ a y4.1))).1).2.1,((cG (y4.2.2.2.2,(at_ a y4.1))).1).2.2) < μ3 y4))))))∧(¬(y4.1 < (a.length:Int))→((y4.2.2.2.2,(0:Int))=dX a))))
theorem f53.of (a:List (aC)) (h:f53.vc a):f53.tree a:=Exists.elim h (fun I2 h25_=>Exists.elim h25_ (fun μ3 h25=>⟨I2,μ3,⟨((0:Int),(0:Int),(0:Int),(0:Int),(0:Int),(0:Int),(0:Int)),SlS.mk  (⟨rfl,⟨rfl,⟨rfl,⟨rfl,⟨rfl,⟨rfl,⟨rfl,⟨rfl,h25.1⟩⟩⟩⟩⟩⟩⟩⟩)⟩,fun y4 h27=>br (h25.2 y4 h27) Cnd.dec (fun h5 k23=>chk k23.2.2 Cnd.ix ⟨k23.1,k23.2.1⟩ (fun h7 k21=>(f68.ei ⟨trivial,br k21 Cnd.ne (fun h9 k18=>⟨(congrArg (fun x:aC×Int=>x.1.1) k18 :),⟨(congrArg (fun x:aC×Int=>x.1.2.1) k18 :),⟨(congrArg (fun x:aC×Int=>x.1.2.2) k18 :),⟨(congrArg (fun x:aC×Int=>x.2) k18 :),trivial⟩⟩⟩⟩) (fun h10 k19=>wrapK.i64 k19 (fun h15 h16 k17=>⟨((y4.1+(1:Int)),y4.2.1,y4.2.2.1,y4.2.2.2.1,((cG (y4.2.2.2.2,(at_ a y4.1))).1).1,((cG (y4.2.2.2.2,(at_ a y4.1))).1).2.1,((cG (y4.2.2.2.2,(at_ a y4.1))).1).2.2),SlS.mk  (⟨rfl,⟨rfl,⟨rfl,⟨rfl,⟨rfl,⟨rfl,⟨rfl,⟨rfl,k17⟩⟩⟩⟩⟩⟩⟩⟩)⟩))⟩))) (fun h6 k24=>⟨(congrArg (fun x:aC×Int=>x.1.1) k24 :),⟨(congrArg (fun x:aC×Int=>x.1.2.1) k24 :),⟨(congrArg (fun x:aC×Int=>x.1.2.2) k24 :),⟨(congrArg (fun x:aC×Int=>x.2) k24 :),trivial⟩⟩⟩⟩)⟩))
theorem f53.eq (a:List (aC)):(f53.af a).gives f53.env (f53.args a) (f53.blks a) (f53.res a) (f53.blks' a)=f53.tree a:=by kernel_rfl
theorem f69.ok (a:dO×dO×Int) (h:kV a):f69.vc a:=by
 obtain ⟨x,y,s⟩:=a
 have h:s=1∨s=-1:=h
 unfold f69.vc dA
 simp only
 refine ⟨fun c=>?_,fun c1=>⟨fun c=>?_,fun c2=>?_⟩⟩
 ·rw [if_pos (fun hh=>c hh.1)]; rfl
 ·rw [if_pos (fun hh=>c hh.2)]; rfl
 ·have c1:=Classical.not_not.1 c1
  have c2:=Classical.not_not.1 c2
  have r1:=fG.1 c1
  have r2:=fG.1 c2
  rw [if_neg (not_not_intro (And.intro c1 c2))]
  rcases h with rfl | rfl
  ·simp only [Int.one_mul,if_true]
   refine ⟨by omega,by omega,by omega,by omega,by omega,by omega,by omega,by omega,by omega,by omega,by omega,by omega,fun c=>?_,fun c=>?_⟩
   ·rw [if_neg (show ¬aR (aCD x y)=true from c)]; rfl
   ·rw [if_pos (show aR (aCD x y)=true from Classical.not_not.1 c)]; rfl
  ·have e:aCD x (aDM vK y)=aDM x y:=by
    unfold aCD aDM vK; simp only [Prod.mk.injEq]; omega
   have en:∀ z:Int,-1 * z=0 - z:=fun z=>by omega
   have hne:¬((-1:Int)=1):=by decide
   simp only [hne,if_false,en]
   refine ⟨by omega,by omega,by omega,by omega,by omega,by omega,by omega,by omega,by omega,by omega,by omega,by omega,fun c=>?_,fun c=>?_⟩
   ·rw [if_neg (fun hh=>c (by rw [← e] at hh; exact hh))]; rfl
   ·have c:=Classical.not_not.1 c
    rw [if_pos (by rw [← e]; exact c),← e]; rfl
theorem f54.ok (a:dO×dO) (_:True):f54.vc a:=⟨.inl rfl,rfl⟩
theorem f68.ok (a:dO×dO) (_:True):f68.vc a:=by
 obtain ⟨x,y⟩:=a
 unfold f68.vc cG dA
 simp only [if_true]
 refine ⟨fun c=>?_,fun c1=>⟨fun c=>?_,fun c2=>?_⟩⟩
 ·rw [if_pos (fun hh=>c hh.1)]; rfl
 ·rw [if_pos (fun hh=>c hh.2)]; rfl
 ·have c1:=Classical.not_not.1 c1
  have c2:=Classical.not_not.1 c2
  have r1:=fG.1 c1
  have r2:=fG.1 c2
  rw [if_neg (not_not_intro (And.intro c1 c2))]
  refine ⟨by omega,by omega,by omega,by omega,by omega,by omega,fun c=>?_,fun c=>?_⟩
  ·rw [if_neg (show ¬aR (aCD x y)=true from c)]; rfl
  ·rw [if_pos (show aR (aCD x y)=true from Classical.not_not.1 c)]; rfl
theorem f34.ok (a:dO×dO) (_:True):f34.vc a:=by
 obtain ⟨x,y⟩:=a
 have hb:¬(x.1≤y.1∧x.2.1≤y.2.1∧x.2.2≤y.2.2)→false=eC (x,y):=fun h=>(Bool.eq_false_iff.2 fun hh=>h (xQ.1 hh)).symm
 refine ⟨fun c=>hb (by simp only at c; omega),fun c1=>⟨fun c=>hb (by simp only at c; omega),fun c2=>⟨fun c=>hb (by simp only at c; omega),fun c3=>?_⟩⟩⟩
 simp only at c1 c2 c3
 exact (xQ.2 ⟨by omega,by omega,by omega⟩).symm
theorem aGI (a:List dO) (h:L20 a):f52.vc a:=by
 have h:a.length≤1048576:=h
 refine ⟨fun y=>0≤y.1∧y.1≤(a.length:Int)∧qK y.2.2.2.2 (a.drop y.1.toNat)=dX a,fun y=>a.length - y.1.toNat,⟨by simp only; omega,by simp only; omega,rfl⟩,fun y hy=>?_⟩
 obtain ⟨i,r1,r2,r3,out⟩:=y
 obtain ⟨g0,g1,g2⟩:=hy
 simp only at g0 g1 g2 ⊢
 refine ⟨fun hlt=>⟨g0,hlt,fun c=>?_,fun c=>⟨by omega,by omega,⟨by omega,by omega,?_⟩,by omega⟩⟩,fun hge=>?_⟩
 ·rw [← g2,oH g0 hlt,qK,if_neg c]
  rfl
 ·rw [oH g0 hlt,qK,if_pos (Classical.not_not.1 c)] at g2
  exact g2
 ·rw [← g2,List.drop_of_length_le (by omega)]
  rfl
theorem f52.ok (a:List dO) (h:L20 a):f52.vc a:=aGI a h
theorem f53.ok (a:List dO) (h:L20 a):f53.vc a:=aGI a h
theorem aLU {a b:ByteArray}:(a.toList==b.toList)=decide (a=b):=by
 rw [Bool.eq_iff_iff,beq_iff_eq,toList_inj,decide_eq_true_eq]
end Go.Abs
