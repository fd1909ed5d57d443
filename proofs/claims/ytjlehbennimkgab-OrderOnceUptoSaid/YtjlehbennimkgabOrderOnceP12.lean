/- Functions, and what the code asks of them: PAgent. -/
import Derived.KernelRfl
import Derived.Test.YtjlehbennimkgabOrderOnceP4
import Derived.Test.YtjlehbennimkgabOrderOnceP5
import Derived.Test.YtjlehbennimkgabOrderOnceP6
import Derived.Test.YtjlehbennimkgabOrderOnceP9
set_option maxRecDepth 100000
set_option maxHeartbeats 4000000
set_option linter.unusedVariables false
set_option linter.unusedSimpArgs false
namespace Go.Abs
open Go
def fG (a:Int×Int):Int:=if a.1 < a.2 then -1 else if a.2 < a.1 then 1 else 0
def orI:List Int→Int
 | []=>0
 | x::l=>if x=0 then orI l else x
def pH (l:List Int):Prop:=l.length≤1048576
def aIG (a:ByteArray×ByteArray):Int:=if Op.bytesLess a.1.toList a.2.toList=true then -1 else if a.1=a.2 then 0 else 1
def f135.args (a:Int):List D:=[.int .i64 a]
def f135.blks (a:Int):List (List D):=[]
def f135.res (a:Int):List D:=[.bool ((fun _:Int=>false) a)]
def f135.blks' (a:Int):List (List D):=[]
def f135.C:aX:=FnC f135.args f135.blks (fun _=>True) f135.res f135.blks'
set_option linter.unusedVariables false
def f135.kills (a:Int):List iX:=[]
def f135.cuts (a:Int):List (Nat×Σ β:Type,β→Tm):=[]
def f135.af (a:Int):AF:=AF.mk (.seq (.region [⟨(some 2),0,.move,[.c (.bool false)],none⟩])
 (.seq (.region [oT 3 1 .move [0],
 oT 4 2 .move [0],
 oT 5 3 (.bin .neq) [3,4],
 oT 2 4 .move [5]])
 (.ret)))
 [.tmp 2] 0 5
def f135.env:Env:=[]
def f135.tree (a:Int):Prop:=((a != a)=((fun _:Int=>false) a))∧True
def f135.vc (a:Int):Prop:=((a != a)=(fun _:Int=>false) a)
theorem f135.of (a:Int) (h:f135.vc a):f135.tree a:=⟨h,trivial⟩
theorem f135.eq (a:Int):(f135.af a).gives f135.env (f135.args a) (f135.blks a) (f135.res a) (f135.blks' a)=f135.tree a:=by kernel_rfl
def f130.args (a:Int×Int):List D:=[.int .i64 a.1,.int .i64 a.2]
def f130.blks (a:Int×Int):List (List D):=[]
def f130.res (a:Int×Int):List D:=[.int .i64 (fG a)]
def f130.blks' (a:Int×Int):List (List D):=[]
def f130.C:aX:=FnC f130.args f130.blks (fun _=>True) f130.res f130.blks'
def f130.kills (a:Int×Int):List iX:=[]
def f130.cuts (a:Int×Int):List (Nat×Σ β:Type,β→Tm):=[]
def f130.af (a:Int×Int):AF:=AF.mk (.seq (.region [⟨(some 4),0,.move,[.c (.int .i64 (0))],none⟩])
 (.seq (.region [oT 7 1 .move [0],
 oT 8 2 (.call false 135) [7],
 oT 5 6 .move [8]])
 (.seq (.region [oT 9 7 .move [1],
 oT 10 8 (.call false 135) [9],
 oT 6 12 .move [10]])
 (.seq (.seq (.region [oT 11 13 .move [5]])
 (.cond (.t 11) (.seq (.seq (.region [oT 12 14 .move [6]])
 (.cond (.t 12) (.seq (.region [⟨(some 4),15,.move,[.c (.int .i64 (0))],none⟩])
 (.ret)) (.skip)))
 (.seq (.region [⟨(some 4),16,.move,[.c (.int .i64 (-1))],none⟩])
 (.ret))) (.skip)))
 (.seq (.seq (.region [oT 13 17 .move [6]])
 (.cond (.t 13) (.seq (.region [⟨(some 4),18,.move,[.c (.int .i64 (1))],none⟩])
 (.ret)) (.skip)))
 (.seq (.seq (.region [oT 14 19 .move [0],
 oT 15 20 .move [1],
 oT 16 21 (.bin .lss) [14,15]])
 (.cond (.t 16) (.seq (.region [⟨(some 4),22,.move,[.c (.int .i64 (-1))],none⟩])
 (.ret)) (.skip)))
 (.seq (.seq (.region [oT 17 23 .move [0],
 oT 18 24 .move [1],
 oT 19 25 (.bin .gtr) [17,18]])
 (.cond (.t 19) (.seq (.region [⟨(some 4),26,.move,[.c (.int .i64 (1))],none⟩])
 (.ret)) (.skip)))
 (.seq (.region [⟨(some 4),27,.move,[.c (.int .i64 (0))],none⟩])
 (.ret)))))))))
 [.tmp 4] 0 18
def f130.env:Env:=[(135,f135.C)]
def f130.tree (a:Int×Int):Prop:=∃ c1:Int,(a.1=c1)∧True∧∃ c2:Int,(a.2=c2)∧True∧Br ((fun _:Int=>false) c1) (Br ((fun _:Int=>false) c2) (((0:Int)=(fG a))∧True) (((-1:Int)=(fG a))∧True)) (Br ((fun _:Int=>false) c2) (((1:Int)=(fG a))∧True) (Br (decide (a.1 < a.2)) (((-1:Int)=(fG a))∧True) (Br (decide (a.2 < a.1)) (((1:Int)=(fG a))∧True) (((0:Int)=(fG a))∧True))))
def f130.vc (a:Int×Int):Prop:=((((fun _:Int=>false) (a.1))=true→((((fun _:Int=>false) (a.2))=true→((0:Int)=fG a))∧(¬(((fun _:Int=>false) (a.2))=true)→((-1:Int)=fG a))))∧(¬(((fun _:Int=>false) (a.1))=true)→((((fun _:Int=>false) (a.2))=true→((1:Int)=fG a))∧(¬(((fun _:Int=>false) (a.2))=true)→((a.1 < a.2→((-1:Int)=fG a))∧(¬(a.1 < a.2)→((a.2 < a.1→((1:Int)=fG a))∧(¬(a.2 < a.1)→((0:Int)=fG a)))))))))
theorem f130.of (a:Int×Int) (h:f130.vc a):f130.tree a:=⟨a.1,⟨rfl,⟨trivial,⟨a.2,⟨rfl,⟨trivial,br h Cnd.b (fun h3 k27=>br k27 Cnd.b (fun h5 k9=>⟨k9,trivial⟩) (fun h6 k10=>⟨k10,trivial⟩)) (fun h4 k28=>br k28 Cnd.b (fun h11 k25=>⟨k25,trivial⟩) (fun h12 k26=>br k26 Cnd.dec (fun h14 k23=>⟨k23,trivial⟩) (fun h15 k24=>br k24 Cnd.dec (fun h17 k21=>⟨k21,trivial⟩) (fun h18 k22=>⟨k22,trivial⟩))))⟩⟩⟩⟩⟩⟩
theorem f130.eq (a:Int×Int):(f130.af a).gives f130.env (f130.args a) (f130.blks a) (f130.res a) (f130.blks' a)=f130.tree a:=by kernel_rfl
def f129.args (a:List (Int)):List D:=[.slice .ro 1 a.length (gl aC a)]
def f129.blks (a:List (Int)):List (List D):=[]
def f129.res (a:List (Int)):List D:=[.int .i64 (orI a)]
def f129.blks' (a:List (Int)):List (List D):=[]
def f129.C:aX:=FnC f129.args f129.blks (fun a=>pH a) f129.res f129.blks'
def f129.S0 (a:List (Int)) (x:Int):Tm:=⟨[.dead,.dead,.dead,.int .i64 (0:Int),.dead,.dead,.slice .ro 1 a.length (gl aC a),.int .i64 (a.length:Int),.int .i64 x,.dead,.dead,.dead,.dead,.dead,.dead,.dead,.dead,.dead],[],[]⟩
def f129.kills (a:List (Int)):List iX:=[.tell Int (f129.S0 a)]
def f129.cuts (a:List (Int)):List (Nat×Σ β:Type,β→Tm):=[]
def f129.af (a:List (Int)):AF:=AF.mk (.seq (.region [⟨(some 2),0,.move,[.c (.int .i64 (0))],none⟩])
 (.seq (.region [⟨(some 3),1,.move,[.c (.int .i64 (0))],none⟩])
 (.seq (.seq (.region [oT 6 2 .move [0],
 oT 7 3 (.len false) [6],
 ⟨(some 8),4,.move,[.c (.int .i64 (0))],none⟩])
 (.block 0 (.loopT Int (f129.S0 a) 5 16 (.seq (.region [oT 9 5 (.bin .lss) [8,7]])
 (.seq (.cond (.t 9) (.skip) (.exit 0))
 (.seq (.block 1 (.seq (.region [oT 10 6 (.indexAddr 1 none) [6,8],
 oT 11 7 (.load false 1) [10],
 oT 5 8 .move [11]])
 (.seq (.region [oT 12 9 .move [5],
 oT 13 10 .move [3],
 oT 14 11 (.bin .neq) [12,13]])
 (.cond (.t 14) (.seq (.region [oT 15 12 .move [5],
 oT 2 13 .move [15]])
 (.ret)) (.skip)))))
 (.region [⟨(some 16),14,(.bin .add),[.t 8,.c (.int .i64 (1))],none⟩,
 oT 8 15 .move [16]])))))))
 (.seq (.region [oT 17 16 .move [3],
 oT 2 17 .move [17]])
 (.ret)))))
 [.tmp 2] 0 17
def f129.env:Env:=[]
def f129.tree (a:List (Int)):Prop:=∃ (I2:Int→Prop) (μ3:Int→Nat),(∃ x1:Int,((0:Int)=(0:Int))∧SlS aC a (((a.length:Int)=(a.length:Int))∧((0:Int)=x1)∧I2 x1))∧∀ y4:Int,I2 y4→(Br (decide (y4 < (a.length:Int))) (Br (decide ((0:Int)≤y4)&&decide (y4 < (a.length:Int))) (Br ((at_ a y4) != (0:Int)) (((at_ a y4)=(orI a))∧True) (Let (wI (y4+(1:Int))) (fun v11:Int=>∃ x12:Int,((0:Int)=(0:Int))∧SlS aC a (((a.length:Int)=(a.length:Int))∧(v11=x12)∧I2 x12∧μ3 x12 < μ3 y4)))) False) (((0:Int)=(orI a))∧True))
def f129.vc (a:List (Int)):Prop:=(∃ (I2:Int→Prop) (μ3:Int→Nat),I2 (0:Int)∧∀ y4:Int,I2 y4→((y4 < (a.length:Int)→((0:Int)≤y4∧y4 < (a.length:Int)∧((¬(at_ a y4)=(0:Int)→(at_ a y4=orI a))∧(¬(¬(at_ a y4)=(0:Int))→(-9223372036854775808≤(y4+(1:Int))∧(y4+(1:Int))≤9223372036854775807∧(I2 (y4+(1:Int))∧μ3 (y4+(1:Int)) < μ3 y4))))))∧(¬(y4 < (a.length:Int))→((0:Int)=orI a))))
theorem f129.of (a:List (Int)) (h:f129.vc a):f129.tree a:=Exists.elim h (fun I2 h23_=>Exists.elim h23_ (fun μ3 h23=>⟨I2,μ3,⟨(0:Int),⟨rfl,SlS.mk  (⟨rfl,⟨rfl,h23.1⟩⟩)⟩⟩,fun y4 h25=>br (h23.2 y4 h25) Cnd.dec (fun h5 k21=>chk k21.2.2 Cnd.ix ⟨k21.1,k21.2.1⟩ (fun h7 k19=>br k19 Cnd.ne (fun h8 k17=>⟨k17,trivial⟩) (fun h9 k18=>wrapK.i64 k18 (fun h14 h15 k16=>⟨(y4+(1:Int)),⟨rfl,SlS.mk  (⟨rfl,⟨rfl,k16⟩⟩)⟩⟩)))) (fun h6 k22=>⟨k22,trivial⟩)⟩))
theorem f129.eq (a:List (Int)):(f129.af a).gives f129.env (f129.args a) (f129.blks a) (f129.res a) (f129.blks' a)=f129.tree a:=by kernel_rfl
set_option linter.unusedVariables false
theorem f135.ok (a:Int) (h:True):f135.vc a:=by
 unfold f135.vc
 simp
theorem f130.ok (a:Int×Int) (h:True):f130.vc a:=by
 obtain ⟨x,y⟩:=a
 unfold f130.vc fG
 simp only
 refine ⟨fun c=>Bool.noConfusion c,fun _=>⟨fun c=>Bool.noConfusion c,fun _=>⟨fun c=>?_,fun c=>⟨fun c2=>?_,fun c2=>?_⟩⟩⟩⟩
 ·rw [if_pos c]
 ·rw [if_neg c,if_pos c2]
 ·rw [if_neg c,if_neg c2]
theorem f129.ok (a:List Int) (h:pH a):f129.vc a:=by
 have h:a.length≤1048576:=h
 refine ⟨fun y=>0≤y∧y≤(a.length:Int)∧orI (a.drop y.toNat)=orI a,fun y=>a.length - y.toNat,⟨by omega,by omega,rfl⟩,fun y hy=>?_⟩
 obtain ⟨g0,g1,g2⟩:=hy
 have hd:y < (a.length:Int)→a.drop y.toNat=at_ a y::a.drop (y+1).toNat:=fun hlt=>by
  have hn:y.toNat < a.length:=by omega
  rw [show (y+1).toNat=y.toNat+1 from by omega,List.drop_eq_getElem_cons hn]
  congr 1
  simp [at_,List.getD_eq_getElem?_getD,hn]
 refine ⟨fun hlt=>⟨g0,hlt,fun c=>?_,fun c=>⟨by omega,by omega,⟨by omega,by omega,?_⟩,by simp only; omega⟩⟩,fun hge=>?_⟩
 ·rw [← g2,hd hlt,orI,if_neg c]
 ·rw [← g2,hd hlt,orI,if_pos (Classical.not_not.1 c)]
 ·rw [← g2,List.drop_of_length_le (by omega)]
  rfl
set_option linter.unusedVariables false
set_option linter.unusedVariables false
set_option linter.unusedVariables false
set_option linter.unusedVariables false
set_option linter.unusedVariables false
set_option linter.unusedVariables false
end Go.Abs
