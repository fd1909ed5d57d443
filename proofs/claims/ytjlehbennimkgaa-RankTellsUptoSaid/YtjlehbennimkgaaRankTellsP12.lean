/- Functions, and what the code asks of them: PAgent. -/
import Derived.KernelRfl
import Derived.Test.YtjlehbennimkgaaRankTellsP4
import Derived.Test.YtjlehbennimkgaaRankTellsP5
import Derived.Test.YtjlehbennimkgaaRankTellsP6
import Derived.Test.YtjlehbennimkgaaRankTellsP9
set_option maxRecDepth 100000
set_option maxHeartbeats 4000000
set_option linter.unusedVariables false
set_option linter.unusedSimpArgs false
namespace Go.Abs
open Go
def lC (a:Int×Int):Int:=if a.1 < a.2 then -1 else if a.2 < a.1 then 1 else 0
def orI:List Int→Int
 | []=>0
 | x::l=>if x=0 then orI l else x
def qI (l:List Int):Prop:=l.length≤1048576
def kK (a:ByteArray×ByteArray):Int:=if Op.bytesLess a.1.toList a.2.toList=true then -1 else if a.1=a.2 then 0 else 1
def f135.args (a:Int):List D:=[.int .i64 a]
def f135.blks (a:Int):List (List D):=[]
def f135.res (a:Int):List D:=[.bool ((fun _:Int=>false) a)]
def f135.blks' (a:Int):List (List D):=[]
def f135.C:aN:=FnC f135.args f135.blks (fun _=>True) f135.res f135.blks'
set_option linter.unusedVariables false
def f135.kills (a:Int):List Hint:=[]
def f135.cuts (a:Int):List (Nat×Σ β:Type,β→Tm):=[]
def f135.af (a:Int):AF:=AF.mk (.seq (.region [⟨(some 2),0,.move,[.c (.bool false)],none⟩])
 (.seq (.region [mT 3 1 0,
 mT 4 2 0,
 oT 5 3 (.bin .neq) [3,4],
 mT 2 4 5])
 (.ret)))
 [.tmp 2] 0 5
def f135.env:Env:=[]
def f135.tree (a:Int):Prop:=((a != a)=((fun _:Int=>false) a))∧True
def f135.vc (a:Int):Prop:=((a != a)=(fun _:Int=>false) a)
theorem f135.of (a:Int) (h:f135.vc a):f135.tree a:=⟨h,trivial⟩
theorem f135.eq (a:Int):(f135.af a).gives f135.env (f135.args a) (f135.blks a) (f135.res a) (f135.blks' a)=f135.tree a:=by kernel_rfl
def f130.args (a:Int×Int):List D:=[.int .i64 a.1,.int .i64 a.2]
def f130.blks (a:Int×Int):List (List D):=[]
def f130.res (a:Int×Int):List D:=[.int .i64 (lC a)]
def f130.blks' (a:Int×Int):List (List D):=[]
def f130.C:aN:=FnC f130.args f130.blks (fun _=>True) f130.res f130.blks'
def f130.kills (a:Int×Int):List Hint:=[]
def f130.cuts (a:Int×Int):List (Nat×Σ β:Type,β→Tm):=[]
def f130.af (a:Int×Int):AF:=AF.mk (.seq (.region [⟨(some 4),0,.move,[.c (.int .i64 (0))],none⟩])
 (.seq (.region [mT 7 1 0,
 oT 8 2 (.call false 135) [7],
 mT 5 6 8])
 (.seq (.region [mT 9 7 1,
 oT 10 8 (.call false 135) [9],
 mT 6 12 10])
 (.seq (.seq (.region [mT 11 13 5])
 (.cond (.t 11) (.seq (.seq (.region [mT 12 14 6])
 (.cond (.t 12) (.seq (.region [⟨(some 4),15,.move,[.c (.int .i64 (0))],none⟩])
 (.ret)) (.skip)))
 (.seq (.region [⟨(some 4),16,.move,[.c (.int .i64 (-1))],none⟩])
 (.ret))) (.skip)))
 (.seq (.seq (.region [mT 13 17 6])
 (.cond (.t 13) (.seq (.region [⟨(some 4),18,.move,[.c (.int .i64 (1))],none⟩])
 (.ret)) (.skip)))
 (.seq (.seq (.region [mT 14 19 0,
 mT 15 20 1,
 oT 16 21 (.bin .lss) [14,15]])
 (.cond (.t 16) (.seq (.region [⟨(some 4),22,.move,[.c (.int .i64 (-1))],none⟩])
 (.ret)) (.skip)))
 (.seq (.seq (.region [mT 17 23 0,
 mT 18 24 1,
 oT 19 25 (.bin .gtr) [17,18]])
 (.cond (.t 19) (.seq (.region [⟨(some 4),26,.move,[.c (.int .i64 (1))],none⟩])
 (.ret)) (.skip)))
 (.seq (.region [⟨(some 4),27,.move,[.c (.int .i64 (0))],none⟩])
 (.ret)))))))))
 [.tmp 4] 0 18
def f130.env:Env:=[(135,f135.C)]
def f130.tree (a:Int×Int):Prop:=∃ c1:Int,(a.1=c1)∧True∧∃ c2:Int,(a.2=c2)∧True∧Br ((fun _:Int=>false) c1) (Br ((fun _:Int=>false) c2) (((0:Int)=(lC a))∧True) (((-1:Int)=(lC a))∧True)) (Br ((fun _:Int=>false) c2) (((1:Int)=(lC a))∧True) (Br (decide (a.1 < a.2)) (((-1:Int)=(lC a))∧True) (Br (decide (a.2 < a.1)) (((1:Int)=(lC a))∧True) (((0:Int)=(lC a))∧True))))
def f130.vc (a:Int×Int):Prop:=((((fun _:Int=>false) (a.1))=true→((((fun _:Int=>false) (a.2))=true→((0:Int)=lC a))∧(¬(((fun _:Int=>false) (a.2))=true)→((-1:Int)=lC a))))∧(¬(((fun _:Int=>false) (a.1))=true)→((((fun _:Int=>false) (a.2))=true→((1:Int)=lC a))∧(¬(((fun _:Int=>false) (a.2))=true)→((a.1 < a.2→((-1:Int)=lC a))∧(¬(a.1 < a.2)→((a.2 < a.1→((1:Int)=lC a))∧(¬(a.2 < a.1)→((0:Int)=lC a)))))))))
theorem f130.of (a:Int×Int) (h:f130.vc a):f130.tree a:=⟨a.1,⟨rfl,⟨trivial,⟨a.2,⟨rfl,⟨trivial,br h Cnd.b (fun h3 k27=>br k27 Cnd.b (fun h5 k9=>⟨k9,trivial⟩) (fun h6 k10=>⟨k10,trivial⟩)) (fun h4 k28=>br k28 Cnd.b (fun h11 k25=>⟨k25,trivial⟩) (fun h12 k26=>br k26 Cnd.dec (fun h14 k23=>⟨k23,trivial⟩) (fun h15 k24=>br k24 Cnd.dec (fun h17 k21=>⟨k21,trivial⟩) (fun h18 k22=>⟨k22,trivial⟩))))⟩⟩⟩⟩⟩⟩
theorem f130.eq (a:Int×Int):(f130.af a).gives f130.env (f130.args a) (f130.blks a) (f130.res a) (f130.blks' a)=f130.tree a:=by kernel_rfl
def f129.args (a:List (Int)):List D:=[.slice .ro 1 a.length (gl dU a)]
def f129.blks (a:List (Int)):List (List D):=[]
def f129.res (a:List (Int)):List D:=[.int .i64 (orI a)]
def f129.blks' (a:List (Int)):List (List D):=[]
def f129.C:aN:=FnC f129.args f129.blks (fun a=>qI a) f129.res f129.blks'
def f129.S0 (a:List (Int)) (x:Int):Tm:=⟨.dead::.dead::.dead::.int .i64 (0:Int)::.dead::.dead::.slice .ro 1 a.length (gl dU a)::.int .i64 (a.length:Int)::.int .i64 x::dd 9 [],[],[]⟩
def f129.kills (a:List (Int)):List Hint:=[.tell Int (f129.S0 a)]
def f129.cuts (a:List (Int)):List (Nat×Σ β:Type,β→Tm):=[]
def f129.af (a:List (Int)):AF:=AF.mk (.seq (.region [⟨(some 2),0,.move,[.c (.int .i64 (0))],none⟩])
 (.seq (.region [⟨(some 3),1,.move,[.c (.int .i64 (0))],none⟩])
 (.seq (.seq (.region [mT 6 2 0,
 oT 7 3 (.len false) [6],
 ⟨(some 8),4,.move,[.c (.int .i64 (0))],none⟩])
 (.block 0 (.loopT Int (f129.S0 a) 5 16 (.seq (.region [oT 9 5 (.bin .lss) [8,7]])
 (.seq (.cond (.t 9) (.skip) (.exit 0))
 (.seq (.block 1 (.seq (.region [oT 10 6 (.indexAddr 1 none) [6,8],
 oT 11 7 (.load false 1) [10],
 mT 5 8 11])
 (.seq (.region [mT 12 9 5,
 mT 13 10 3,
 oT 14 11 (.bin .neq) [12,13]])
 (.cond (.t 14) (.seq (.region [mT 15 12 5,
 mT 2 13 15])
 (.ret)) (.skip)))))
 (.region [⟨(some 16),14,(.bin .add),[.t 8,.c (.int .i64 (1))],none⟩,
 mT 8 15 16])))))))
 (.seq (.region [mT 17 16 3,
 mT 2 17 17])
 (.ret)))))
 [.tmp 2] 0 17
def f129.env:Env:=[]
def f129.tree (a:List (Int)):Prop:=∃ (I2:Int→Prop) (μ3:Int→Nat),(∃ x1:Int,((0:Int)=(0:Int))∧SlS dU a (((a.length:Int)=(a.length:Int))∧((0:Int)=x1)∧I2 x1))∧∀ y4:Int,I2 y4→(Br (decide (y4 < (a.length:Int))) (Br (decide ((0:Int)≤y4)&&decide (y4 < (a.length:Int))) (Br ((at_ a y4) != (0:Int)) (((at_ a y4)=(orI a))∧True) (Let (wI (y4+(1:Int))) (fun v11:Int=>∃ x12:Int,((0:Int)=(0:Int))∧SlS dU a (((a.length:Int)=(a.length:Int))∧(v11=x12)∧I2 x12∧μ3 x12 < μ3 y4)))) False) (((0:Int)=(orI a))∧True))
def f129.vc (a:List (Int)):Prop:=(∃ (I2:Int→Prop) (μ3:Int→Nat),I2 (0:Int)∧∀ y4:Int,I2 y4→((y4 < (a.length:Int)→((0:Int)≤y4∧y4 < (a.length:Int)∧((¬(at_ a y4)=(0:Int)→(at_ a y4=orI a))∧(¬(¬(at_ a y4)=(0:Int))→(-9223372036854775808≤(y4+(1:Int))∧(y4+(1:Int))≤9223372036854775807∧(I2 (y4+(1:Int))∧μ3 (y4+(1:Int)) < μ3 y4))))))∧(¬(y4 < (a.length:Int))→((0:Int)=orI a))))
theorem f129.of (a:List (Int)) (h:f129.vc a):f129.tree a:=Exists.elim h (fun I2 h23_=>Exists.elim h23_ (fun μ3 h23=>⟨I2,μ3,⟨(0:Int),⟨rfl,SlS.mk  (⟨rfl,⟨rfl,h23.1⟩⟩)⟩⟩,fun y4 h25=>br (h23.2 y4 h25) Cnd.dec (fun h5 k21=>chk k21.2.2 Cnd.ix ⟨k21.1,k21.2.1⟩ (fun h7 k19=>br k19 Cnd.ne (fun h8 k17=>⟨k17,trivial⟩) (fun h9 k18=>wrapK.i64 k18 (fun h14 h15 k16=>⟨(y4+(1:Int)),⟨rfl,SlS.mk  (⟨rfl,⟨rfl,k16⟩⟩)⟩⟩)))) (fun h6 k22=>⟨k22,trivial⟩)⟩))
theorem f129.eq (a:List (Int)):(f129.af a).gives f129.env (f129.args a) (f129.blks a) (f129.res a) (f129.blks' a)=f129.tree a:=by kernel_rfl
def f176.args (a:ByteArray×ByteArray):List D:=[.str a.1,.str a.2]
def f176.blks (a:ByteArray×ByteArray):List (List D):=[]
def f176.res (a:ByteArray×ByteArray):List D:=[.int .i64 (kK a)]
def f176.blks' (a:ByteArray×ByteArray):List (List D):=[]
def f176.C:aN:=FnC f176.args f176.blks (fun _=>True) f176.res f176.blks'
def f200.args (a:ByteArray):List D:=[.str a]
def f200.blks (a:ByteArray):List (List D):=[]
def f200.res (a:ByteArray):List D:=[.bool ((fun _:ByteArray=>false) a)]
def f200.blks' (a:ByteArray):List (List D):=[]
def f200.C:aN:=FnC f200.args f200.blks (fun _=>True) f200.res f200.blks'
def f176.kills (a:ByteArray×ByteArray):List Hint:=[]
def f176.cuts (a:ByteArray×ByteArray):List (Nat×Σ β:Type,β→Tm):=[]
def f176.af (a:ByteArray×ByteArray):AF:=AF.mk (.seq (.region [⟨(some 4),0,.move,[.c (.int .i64 (0))],none⟩])
 (.seq (.region [mT 7 1 0,
 oT 8 2 (.call false 200) [7],
 mT 5 6 8])
 (.seq (.region [mT 9 7 1,
 oT 10 8 (.call false 200) [9],
 mT 6 12 10])
 (.seq (.seq (.region [mT 11 13 5])
 (.cond (.t 11) (.seq (.seq (.region [mT 12 14 6])
 (.cond (.t 12) (.seq (.region [⟨(some 4),15,.move,[.c (.int .i64 (0))],none⟩])
 (.ret)) (.skip)))
 (.seq (.region [⟨(some 4),16,.move,[.c (.int .i64 (-1))],none⟩])
 (.ret))) (.skip)))
 (.seq (.seq (.region [mT 13 17 6])
 (.cond (.t 13) (.seq (.region [⟨(some 4),18,.move,[.c (.int .i64 (1))],none⟩])
 (.ret)) (.skip)))
 (.seq (.seq (.region [mT 14 19 0,
 mT 15 20 1,
 oT 16 21 (.bin .lss) [14,15]])
 (.cond (.t 16) (.seq (.region [⟨(some 4),22,.move,[.c (.int .i64 (-1))],none⟩])
 (.ret)) (.skip)))
 (.seq (.seq (.region [mT 17 23 0,
 mT 18 24 1,
 oT 19 25 (.bin .gtr) [17,18]])
 (.cond (.t 19) (.seq (.region [⟨(some 4),26,.move,[.c (.int .i64 (1))],none⟩])
 (.ret)) (.skip)))
 (.seq (.region [⟨(some 4),27,.move,[.c (.int .i64 (0))],none⟩])
 (.ret)))))))))
 [.tmp 4] 0 18
def f176.env:Env:=[(200,f200.C)]
def f176.tree (a:ByteArray×ByteArray):Prop:=∃ c1:ByteArray,(a.1=c1)∧True∧∃ c2:ByteArray,(a.2=c2)∧True∧Br ((fun _:ByteArray=>false) c1) (Br ((fun _:ByteArray=>false) c2) (((0:Int)=(kK a))∧True) (((-1:Int)=(kK a))∧True)) (Br ((fun _:ByteArray=>false) c2) (((1:Int)=(kK a))∧True) (Br (Op.bytesLess a.1.toList a.2.toList) (((-1:Int)=(kK a))∧True) (Br (!(Op.bytesLess a.1.toList a.2.toList || a.1.toList==a.2.toList)) (((1:Int)=(kK a))∧True) (((0:Int)=(kK a))∧True))))
def f176.vc (a:ByteArray×ByteArray):Prop:=((((fun _:ByteArray=>false) (a.1))=true→((((fun _:ByteArray=>false) (a.2))=true→((0:Int)=kK a))∧(¬(((fun _:ByteArray=>false) (a.2))=true)→((-1:Int)=kK a))))∧(¬(((fun _:ByteArray=>false) (a.1))=true)→((((fun _:ByteArray=>false) (a.2))=true→((1:Int)=kK a))∧(¬(((fun _:ByteArray=>false) (a.2))=true)→((sLt a.1 a.2→((-1:Int)=kK a))∧(¬(sLt a.1 a.2)→((¬sLe a.1 a.2→((1:Int)=kK a))∧(¬(¬sLe a.1 a.2)→((0:Int)=kK a)))))))))
theorem f176.of (a:ByteArray×ByteArray) (h:f176.vc a):f176.tree a:=⟨a.1,⟨rfl,⟨trivial,⟨a.2,⟨rfl,⟨trivial,br h Cnd.b (fun h3 k27=>br k27 Cnd.b (fun h5 k9=>⟨k9,trivial⟩) (fun h6 k10=>⟨k10,trivial⟩)) (fun h4 k28=>br k28 Cnd.b (fun h11 k25=>⟨k25,trivial⟩) (fun h12 k26=>br k26 Cnd.sl_ (fun h14 k23=>⟨k23,trivial⟩) (fun h15 k24=>br k24 (Cnd.not Cnd.sle) (fun h17 k21=>⟨k21,trivial⟩) (fun h18 k22=>⟨k22,trivial⟩))))⟩⟩⟩⟩⟩⟩
theorem f176.eq (a:ByteArray×ByteArray):(f176.af a).gives f176.env (f176.args a) (f176.blks a) (f176.res a) (f176.blks' a)=f176.tree a:=by kernel_rfl
def f200.kills (a:ByteArray):List Hint:=[]
def f200.cuts (a:ByteArray):List (Nat×Σ β:Type,β→Tm):=[]
def f200.af (a:ByteArray):AF:=AF.mk (.seq (.region [⟨(some 2),0,.move,[.c (.bool false)],none⟩])
 (.seq (.region [mT 3 1 0,
 mT 4 2 0,
 oT 5 3 (.bin .neq) [3,4],
 mT 2 4 5])
 (.ret)))
 [.tmp 2] 0 5
def f200.env:Env:=[]
def f200.tree (a:ByteArray):Prop:=((!(a.toList==a.toList))=((fun _:ByteArray=>false) a))∧True
def f200.vc (a:ByteArray):Prop:=((!(a.toList==a.toList))=(fun _:ByteArray=>false) a)
theorem f200.of (a:ByteArray) (h:f200.vc a):f200.tree a:=⟨h,trivial⟩
theorem f200.eq (a:ByteArray):(f200.af a).gives f200.env (f200.args a) (f200.blks a) (f200.res a) (f200.blks' a)=f200.tree a:=by kernel_rfl
theorem f135.ok (a:Int) (h:True):f135.vc a:=by
 unfold f135.vc
 simp
theorem f130.ok (a:Int×Int) (h:True):f130.vc a:=by
 obtain ⟨x,y⟩:=a
 unfold f130.vc lC
 simp only
 refine ⟨fun c=>Bool.noConfusion c,fun _=>⟨fun c=>Bool.noConfusion c,fun _=>⟨fun c=>?_,fun c=>⟨fun c2=>?_,fun c2=>?_⟩⟩⟩⟩
 ·rw [if_pos c]
 ·rw [if_neg c,if_pos c2]
 ·rw [if_neg c,if_neg c2]
theorem f129.ok (a:List Int) (h:qI a):f129.vc a:=by
 have h:a.length≤1048576:=h
 refine ⟨fun y=>0≤y∧y≤(a.length:Int)∧orI (a.drop y.toNat)=orI a,fun y=>a.length - y.toNat,⟨by omega,by omega,rfl⟩,fun y hy=>?_⟩
 obtain ⟨g0,g1,g2⟩:=hy
 have hd:y < (a.length:Int)→a.drop y.toNat=at_ a y::a.drop (y+1).toNat:=fun hlt=>by
  have hn:y.toNat < a.length:=by omega
  rw [show (y+1).toNat=y.toNat+1 from by omega,List.drop_eq_getElem_cons hn]
  congr 1
  simp [at_,List.getD_eq_getElem?_getD,hn]
 refine ⟨fun hlt=>⟨g0,hlt,fun c=>?_,fun c=>⟨by omega,by omega,⟨by omega,by omega,?_⟩,by simp only; omega⟩⟩,fun hge=>?_⟩
 ·rw [← g2,hd hlt,orI,if_neg c]
 ·rw [← g2,hd hlt,orI,if_pos (Classical.not_not.1 c)]
 ·rw [← g2,List.drop_of_length_le (by omega)]
  rfl
theorem f200.ok (a:ByteArray) (_:True):f200.vc a:=by
 unfold f200.vc
 simp
theorem f176.ok (a:ByteArray×ByteArray) (_:True):f176.vc a:=by
 obtain ⟨x,y⟩:=a
 refine ⟨fun c=>Bool.noConfusion c,fun _=>⟨fun c=>Bool.noConfusion c,fun _=>⟨fun c=>?_,fun c=>⟨fun c2=>?_,fun c2=>?_⟩⟩⟩⟩
 ·exact (if_pos (show Op.bytesLess x.toList y.toList=true from c)).symm
 ·exact ((if_neg (show ¬Op.bytesLess x.toList y.toList=true from c)).trans (if_neg (show ¬x=y from fun e=>c2 (.inr e)))).symm
 ·exact ((if_neg (show ¬Op.bytesLess x.toList y.toList=true from c)).trans (if_pos (show x=y from (Classical.not_not.1 c2).resolve_left c))).symm
set_option linter.unusedVariables false
set_option linter.unusedVariables false
set_option linter.unusedVariables false
set_option linter.unusedVariables false
set_option linter.unusedVariables false
set_option linter.unusedVariables false
def f131.ent (K:(aC×aC)→Prop) (t:aC×aC):Prop:=∃ c:aC×aC,(t.1.1=c.1.1)∧(t.1.2.1=c.1.2.1)∧(t.1.2.2=c.1.2.2)∧(t.2.1=c.2.1)∧(t.2.2.1=c.2.2.1)∧(t.2.2.2=c.2.2.2)∧K c
theorem f131.ei {K:(aC×aC)→Prop} {t:aC×aC} (h:K t):f131.ent K t:=⟨t,⟨rfl,⟨rfl,⟨rfl,⟨rfl,⟨rfl,⟨rfl,h⟩⟩⟩⟩⟩⟩⟩
def f131.args (a:aC×aC):List D:=[.agg [.int .i64 a.1.1,.int .i64 a.1.2.1,.int .i64 a.1.2.2],.agg [.int .i64 a.2.1,.int .i64 a.2.2.1,.int .i64 a.2.2.2]]
def f131.blks (a:aC×aC):List (List D):=[]
def f131.res (a:aC×aC):List D:=[.bool (eC a)]
def f131.blks' (a:aC×aC):List (List D):=[]
def f131.C:aN:=FnC f131.args f131.blks (fun _=>True) f131.res f131.blks'
def f131.kills (a:aC×aC):List Hint:=[]
def f131.cuts (a:aC×aC):List (Nat×Σ β:Type,β→Tm):=[]
def f131.af (a:aC×aC):AF:=AF.mk (.seq (.region [oT 2 0 .box [0],
 oT 3 1 .box [1],
 ⟨(some 4),2,.move,[.c (.bool false)],none⟩])
 (.seq (.region [⟨(some 5),3,(.indexAddr 1 (some 3)),[.t 2,.c (.int .i64 (0))],none⟩,
 oT 6 4 (.load false 1) [5],
 ⟨(some 7),5,(.indexAddr 1 (some 3)),[.t 3,.c (.int .i64 (0))],none⟩,
 oT 8 6 (.load false 1) [7],
 oT 9 7 (.bin .leq) [6,8],
 mT 10 8 9,
 ⟨(some 11),9,(.indexAddr 1 (some 3)),[.t 2,.c (.int .i64 (1))],(some (10,true))⟩,
 oG 12 10 (.load false 1) [11] 10 true,
 ⟨(some 13),11,(.indexAddr 1 (some 3)),[.t 3,.c (.int .i64 (1))],(some (10,true))⟩,
 oG 14 12 (.load false 1) [13] 10 true,
 oG 15 13 (.bin .leq) [12,14] 10 true,
 ⟨(some 16),14,.pick,[.t 10,.t 15,.c (.bool false)],none⟩,
 mT 17 15 16,
 ⟨(some 18),16,(.indexAddr 1 (some 3)),[.t 2,.c (.int .i64 (2))],(some (17,true))⟩,
 oG 19 17 (.load false 1) [18] 17 true,
 ⟨(some 20),18,(.indexAddr 1 (some 3)),[.t 3,.c (.int .i64 (2))],(some (17,true))⟩,
 oG 21 19 (.load false 1) [20] 17 true,
 oG 22 20 (.bin .leq) [19,21] 17 true,
 ⟨(some 23),21,.pick,[.t 17,.t 22,.c (.bool false)],none⟩,
 mT 4 22 23])
 (.ret)))
 [.tmp 4] 0 22
def f131.env:Env:=[]
def f131.tree (a:aC×aC):Prop:=Br (decide (a.1.1≤a.2.1)) (Br (decide (a.1.2.1≤a.2.2.1)) (((decide (a.1.2.2≤a.2.2.2))=(eC a))∧True) ((false=(eC a))∧True)) ((false=(eC a))∧True)
def f131.vc (a:aC×aC):Prop:=((a.1.1≤a.2.1→((a.1.2.1≤a.2.2.1→(decide (a.1.2.2≤a.2.2.2)=eC a))∧(¬(a.1.2.1≤a.2.2.1)→(false=eC a))))∧(¬(a.1.1≤a.2.1)→(false=eC a)))
theorem f131.of (a:aC×aC) (h:f131.vc a):f131.tree a:=br h Cnd.dec (fun h1 k10=>br k10 Cnd.dec (fun h3 k7=>⟨k7,trivial⟩) (fun h4 k8=>⟨k8,trivial⟩)) (fun h2 k11=>⟨k11,trivial⟩)
theorem f131.eq (a:aC×aC):(f131.af a).gives f131.env (f131.args a) (f131.blks a) (f131.res a) (f131.blks' a)=f131.tree a:=by kernel_rfl
theorem f131.ok (a:dO×dO) (_:True):f131.vc a:=by
 have hb:¬(a.1.1≤a.2.1∧a.1.2.1≤a.2.2.1∧a.1.2.2≤a.2.2.2)→false=eC a:=fun h=>(decide_eq_false h).symm
 refine ⟨fun c1=>⟨fun c2=>?_,fun c2=>hb fun h=>c2 h.2.1⟩,fun c1=>hb fun h=>c1 h.1⟩
 unfold eC
 by_cases c3:a.1.2.2≤a.2.2.2
 ·rw [decide_eq_true c3,decide_eq_true ⟨c1,c2,c3⟩]
 ·rw [decide_eq_false c3,decide_eq_false (fun h=>c3 h.2.2)]
end Go.Abs
