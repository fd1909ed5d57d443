/- Functions, and what the code asks of them: PIdentLaw2. -/
import Derived.KernelRfl
import Derived.Test.YtfjnkkfhhalepabIdentKeepsP4
import Derived.Test.YtfjnkkfhhalepabIdentKeepsP5
import Derived.Test.YtfjnkkfhhalepabIdentKeepsP6
import Derived.Test.YtfjnkkfhhalepabIdentKeepsP7
import Derived.Test.YtfjnkkfhhalepabIdentKeepsP8
import Derived.Test.YtfjnkkfhhalepabIdentKeepsP9
import Derived.Test.YtfjnkkfhhalepabIdentKeepsP10
import Derived.Test.YtfjnkkfhhalepabIdentKeepsP11
import Derived.Test.YtfjnkkfhhalepabIdentKeepsP12
import Derived.Test.YtfjnkkfhhalepabIdentKeepsP13
import Derived.Test.YtfjnkkfhhalepabIdentKeepsP14
import Derived.Test.YtfjnkkfhhalepabIdentKeepsP15
import Derived.Test.YtfjnkkfhhalepabIdentKeepsP16
import Derived.Test.YtfjnkkfhhalepabIdentKeepsP19
import Derived.Test.YtfjnkkfhhalepabIdentKeepsP20
import Derived.Test.YtfjnkkfhhalepabIdentKeepsP21
import Derived.Test.YtfjnkkfhhalepabIdentKeepsP22
import Derived.Test.YtfjnkkfhhalepabIdentKeepsP23
import Derived.Test.YtfjnkkfhhalepabIdentKeepsP24
set_option maxRecDepth 100000
set_option maxHeartbeats 4000000
set_option linter.unusedVariables false
set_option linter.unusedSimpArgs false
-- interregnum/ident.Sorted#1
namespace Go.Abs
open Go
def f1385.args (a:List (aC)):List D:=[.slice .ro 2 a.length (gl aB a)]
def f1385.blks (a:List (aC)):List (List D):=[]
def f1385.res (a:List (aC)):List D:=[.arr true 2 (List.length (aR a)) (gl aB (aR a))]
def f1385.blks' (a:List (aC)):List (List D):=[]
def f1385.C:aK:=FnC f1385.args f1385.blks (fun a=>L20 a) f1385.res f1385.blks'
set_option linter.unusedVariables false
def f1385.S0 (a:List (aC)) (x:Int×(List (ByteArray×ByteArray))×(List (ByteArray))):Tm:=⟨[.dead,.dead,.dead,.mref 1000001,.msl 1000004 1 x.2.2.length,.dead,.dead,.dead,.dead,.dead,.dead,.dead,.dead,.slice .ro 2 a.length (gl aB a),.int .i64 (a.length:Int),.int .i64 x.1,.dead,.dead,.dead,.dead,.dead,.dead,.dead,.dead,.dead,.dead,.dead,.dead,.dead,.dead,.dead,.dead,.dead,.dead,.dead,.dead,.dead,.dead,.dead,.dead,.dead,.dead,.dead,.dead,.dead,.dead,.dead,.dead,.dead,.dead,.dead,.dead,.dead,.dead,.dead,.dead,.dead],[(1000001,false,[.dead,.mp false x.2.1.length (mks x.2.1) (mvs aA x.2.1)]),(1000004,false,[.dead,.arr true 1 x.2.2.length (gl aA x.2.2)])],[]⟩
def f1385.S1 (a:List (aC)) (x:(List (ByteArray))×Int×Int×(List (ByteArray×ByteArray))×(List (aC))):Tm:=⟨[.dead,.dead,.dead,.mref 1000001,.dead,.dead,.dead,.dead,.dead,.msl 1000046 2 x.2.2.2.2.length,.dead,.dead,.dead,.dead,.dead,.dead,.dead,.dead,.dead,.dead,.dead,.dead,.dead,.dead,.dead,.dead,.dead,.dead,.dead,.dead,.dead,.dead,.dead,.dead,.dead,.dead,.dead,.dead,.dead,.dead,.dead,.slice .ro 1 x.1.length (gl aA x.1),.int .i64 x.2.1,.int .i64 x.2.2.1,.dead,.dead,.dead,.dead,.dead,.dead,.dead,.dead,.dead,.dead,.dead,.dead,.dead],[(1000001,false,[.dead,.mp false x.2.2.2.1.length (mks x.2.2.2.1) (mvs aA x.2.2.2.1)]),(1000046,false,[.dead,.arr true 2 x.2.2.2.2.length (gl aB x.2.2.2.2)])],[]⟩
def f1385.kills (a:List (aC)):List Hint:=[.tell (Int×(List (ByteArray×ByteArray))×(List (ByteArray))) (f1385.S0 a),
 .tell ((List (ByteArray))×Int×Int×(List (ByteArray×ByteArray))×(List (aC))) (f1385.S1 a)]
def f1385.cuts (a:List (aC)):List (Nat×Σ β:Type,β→Tm):=[(999999,⟨Unit,fun x=>⟨[],[],[]⟩⟩),
 (1000004000002,⟨Unit,fun x=>⟨[],[],[]⟩⟩),
 (2000004000012,⟨Unit,fun x=>⟨[],[],[]⟩⟩),
 (1000009000013,⟨Unit,fun x=>⟨[],[],[]⟩⟩)]
def f1385.af (a:List (aC)):AF:=AF.mk (.seq (.region [oR 2 0 (.nilSl 2) []])
 (.seq (.region [oR 12 1 (.mkMap false false) [],
 mR 3 2 12])
 (.seq (.region [oR 4 3 (.nilSl 1) []])
 (.seq (.thaw 1000004 4) (.seq (.seq (.region [mR 13 5 0,
 oR 14 6 (.len false) [13],
 ⟨(some 15),1000007,.move,[.c (.int .i64 (0))],none⟩])
 (.block 0 (.loopT (Int×(List (ByteArray×ByteArray))×(List (ByteArray))) (f1385.S0 a) 1000008 1000040 (.seq (.region [oR 16 8 (.bin .lss) [15,14]])
 (.seq (.cond (.t 16) (.skip) (.exit 0))
 (.seq (.block 1 (.seq (.region [oR 17 9 (.indexAddr 2 none) [13,15],
 oR 18 10 (.load true 2) [17],
 oR 6 11 (.alloc [.str ByteArray.empty,.str ByteArray.empty]) [],
 ⟨none,1000014,(.store 2),[.t 6,.t 18],none⟩])
 (.seq (.seq (.region [mR 20 15 3,
 oR 21 16 (.fieldAddr 0) [6],
 oR 22 17 (.load false 1) [21],
 oR 23 18 (.mapGet true false [.str ByteArray.empty]) [20,22],
 mR 19 19 23,
 oR 24 20 (.extract 0) [19],
 oR 25 21 (.extract 1) [19],
 mR 7 22 24,
 mR 8 23 25])
 (.seq (.region [mR 26 24 8,
 oR 27 25 (.un .not) [26]])
 (.cond (.t 27) (.region [mR 28 26 4,
 oR 29 27 (.fieldAddr 0) [6],
 oR 30 28 (.load false 1) [29],
 oR 31 29 (.buildSlice 1 1 [.str ByteArray.empty] [(0,1)]) [30],
 oR 32 30 (.append 1 16) [28,31],
 mR 4 31 32]) (.skip))))
 (.region [mR 33 32 3,
 oR 34 33 (.fieldAddr 0) [6],
 oR 35 34 (.load false 1) [34],
 oR 36 35 (.fieldAddr 1) [6],
 oR 37 36 (.load false 1) [36],
 ⟨none,1000037,.mapSet,[.t 33,.t 35,.t 37],none⟩]))))
 (.region [⟨(some 38),1000038,(.bin .add),[.t 15,.c (.int .i64 (1))],none⟩,
 mR 15 39 38])))))))
 (.seq (.region [mR 39 40 4,
 oR 40 41 (.call true 167) [39]])
 (.seq (.frz 4) (.seq (.region [oR 9 45 (.nilSl 2) []])
 (.seq (.thaw 1000046 9) (.seq (.seq (.region [mR 41 47 4,
 oR 42 48 (.len false) [41],
 ⟨(some 43),1000049,.move,[.c (.int .i64 (0))],none⟩])
 (.block 2 (.loopT ((List (ByteArray))×Int×Int×(List (ByteArray×ByteArray))×(List (aC))) (f1385.S1 a) 1000050 1000065 (.seq (.region [oR 44 50 (.bin .lss) [43,42]])
 (.seq (.cond (.t 44) (.skip) (.exit 2))
 (.seq (.block 3 (.seq (.region [oR 45 51 (.indexAddr 1 none) [41,43],
 oR 46 52 (.load false 1) [45],
 mR 11 53 46])
 (.region [mR 47 54 9,
 mR 48 55 11,
 mR 49 56 3,
 mR 50 57 11,
 oR 51 58 (.mapGet false false [.str ByteArray.empty]) [49,50],
 oR 52 59 (.build [.str ByteArray.empty,.str ByteArray.empty] [(0,1),(1,1)]) [48,51],
 oR 53 60 (.buildSlice 2 1 [.str ByteArray.empty,.str ByteArray.empty] [(0,2)]) [52],
 oR 54 61 (.append 2 32) [47,53],
 mR 9 62 54])))
 (.region [⟨(some 55),1000063,(.bin .add),[.t 43,.c (.int .i64 (1))],none⟩,
 mR 43 64 55])))))))
 (.seq (.region [mR 56 65 9,
 mR 2 66 56])
 (.ret))))))))))))
 [.tmp 2] 0 56
def f1385.env:Env:=[(167,f167.C)]
def f1385.tree (a:List (aC)):Prop:=∃ (I2:(Int×(List (ByteArray×ByteArray))×(List (ByteArray)))→Prop) (μ3:(Int×(List (ByteArray×ByteArray))×(List (ByteArray)))→Nat),(∃ x1:Int×(List (ByteArray×ByteArray))×(List (ByteArray)),(0=x1.2.2.length)∧SlS aB a (((a.length:Int)=(a.length:Int))∧((0:Int)=x1.1)∧(0=x1.2.1.length)∧(∀ i,i < x1.2.1.length→(fun _=>.empty) i=(mks x1.2.1) i)∧(∀ i,i < x1.2.1.length→DEqs (eU i) ((mvs aA x1.2.1) i))∧SlQ 0 x1.2.2.length eU (gl aA x1.2.2) (I2 x1)))∧∀ y4:Int×(List (ByteArray×ByteArray))×(List (ByteArray)),I2 y4→(Br (decide (y4.1 < (a.length:Int))) (Br (decide ((0:Int)≤y4.1)&&decide (y4.1 < (a.length:Int))) (Br (fR y4.2.1 ((at_ a y4.1).1)) (Let (wI (y4.1+(1:Int))) (fun v10:Int=>∃ x11:Int×(List (ByteArray×ByteArray))×(List (ByteArray)),(y4.2.2.length=x11.2.2.length)∧SlS aB a (((a.length:Int)=(a.length:Int))∧(v10=x11.1)∧((mpN (mks y4.2.1) ((at_ a y4.1).1) y4.2.1.length)=x11.2.1.length)∧(∀ i,i < x11.2.1.length→(jD (mks y4.2.1) ((at_ a y4.1).1) y4.2.1.length) i=(mks x11.2.1) i)∧(∀ i,i < x11.2.1.length→DEqs ((iT (mks y4.2.1) (mvs aA y4.2.1) ((at_ a y4.1).1) [.str ((at_ a y4.1).2)] y4.2.1.length) i) ((mvs aA x11.2.1) i))∧SlQ y4.2.2.length x11.2.2.length (gl aA y4.2.2) (gl aA x11.2.2) (I2 x11∧μ3 x11 < μ3 y4)))) ((y4.2.2.length=y4.2.2.length∧kR ((y4.2.2.length+1) * 16))∧(Let (wI (y4.1+(1:Int))) (fun v16:Int=>∃ x17:Int×(List (ByteArray×ByteArray))×(List (ByteArray)),((y4.2.2.length+1)=x17.2.2.length)∧SlS aB a (((a.length:Int)=(a.length:Int))∧(v16=x17.1)∧((mpN (mks y4.2.1) ((at_ a y4.1).1) y4.2.1.length)=x17.2.1.length)∧(∀ i,i < x17.2.1.length→(jD (mks y4.2.1) ((at_ a y4.1).1) y4.2.1.length) i=(mks x17.2.1) i)∧(∀ i,i < x17.2.1.length→DEqs ((iT (mks y4.2.1) (mvs aA y4.2.1) ((at_ a y4.1).1) [.str ((at_ a y4.1).2)] y4.2.1.length) i) ((mvs aA x17.2.1) i))∧SlQ (y4.2.2.length+1) x17.2.2.length (c9 (gl aA y4.2.2) y4.2.2.length (fun _=>[.str ((at_ a y4.1).1)])) (gl aA x17.2.2) (I2 x17∧μ3 x17 < μ3 y4)))))) False) ((y4.2.2.length=y4.2.2.length)∧∃ c25:List (ByteArray),(y4.2.2.length=List.length c25)∧SlQ y4.2.2.length c25.length (gl aA y4.2.2) (gl aA c25) ((gC c25)∧((List.length ((cF slt) c25))=y4.2.2.length)∧(∃ (I28:((List (ByteArray))×Int×Int×(List (ByteArray×ByteArray))×(List (aC)))→Prop) (μ29:((List (ByteArray))×Int×Int×(List (ByteArray×ByteArray))×(List (aC)))→Nat),(∃ x27:(List (ByteArray))×Int×Int×(List (ByteArray×ByteArray))×(List (aC)),(0=x27.2.2.2.2.length)∧SlQ (List.length ((cF slt) c25)) x27.1.length (gl aA ((cF slt) c25)) (gl aA x27.1) (((List.length ((cF slt) c25):Int)=x27.2.1)∧((0:Int)=x27.2.2.1)∧(y4.2.1.length=x27.2.2.2.1.length)∧(∀ i,i < x27.2.2.2.1.length→(mks y4.2.1) i=(mks x27.2.2.2.1) i)∧(∀ i,i < x27.2.2.2.1.length→DEqs ((mvs aA y4.2.1) i) ((mvs aA x27.2.2.2.1) i))∧SlQ 0 x27.2.2.2.2.length eU (gl aB x27.2.2.2.2) (I28 x27)))∧∀ y30:(List (ByteArray))×Int×Int×(List (ByteArray×ByteArray))×(List (aC)),I28 y30→(Br (decide (y30.2.2.1 < y30.2.1)) (Br (decide ((0:Int)≤y30.2.2.1)&&decide (y30.2.2.1 < (y30.1.length:Int))) (Br (fR y30.2.2.2.1 (at_ y30.1 y30.2.2.1)) ((y30.2.2.2.2.length=y30.2.2.2.2.length∧kR ((y30.2.2.2.2.length+1) * 32))∧(Let (wI (y30.2.2.1+(1:Int))) (fun v36:Int=>∃ x37:(List (ByteArray))×Int×Int×(List (ByteArray×ByteArray))×(List (aC)),((y30.2.2.2.2.length+1)=x37.2.2.2.2.length)∧SlQ y30.1.length x37.1.length (gl aA y30.1) (gl aA x37.1) ((y30.2.1=x37.2.1)∧(v36=x37.2.2.1)∧(y30.2.2.2.1.length=x37.2.2.2.1.length)∧(∀ i,i < x37.2.2.2.1.length→(mks y30.2.2.2.1) i=(mks x37.2.2.2.1) i)∧(∀ i,i < x37.2.2.2.1.length→DEqs ((mvs aA y30.2.2.2.1) i) ((mvs aA x37.2.2.2.1) i))∧SlQ (y30.2.2.2.2.length+1) x37.2.2.2.2.length (c9 (gl aB y30.2.2.2.2) y30.2.2.2.2.length (fun _=>[.str (at_ y30.1 y30.2.2.1),.str (mat y30.2.2.2.1 (at_ y30.1 y30.2.2.1))])) (gl aB x37.2.2.2.2) (I28 x37∧μ29 x37 < μ29 y30))))) ((y30.2.2.2.2.length=y30.2.2.2.2.length∧kR ((y30.2.2.2.2.length+1) * 32))∧(Let (wI (y30.2.2.1+(1:Int))) (fun v42:Int=>∃ x43:(List (ByteArray))×Int×Int×(List (ByteArray×ByteArray))×(List (aC)),((y30.2.2.2.2.length+1)=x43.2.2.2.2.length)∧SlQ y30.1.length x43.1.length (gl aA y30.1) (gl aA x43.1) ((y30.2.1=x43.2.1)∧(v42=x43.2.2.1)∧(y30.2.2.2.1.length=x43.2.2.2.1.length)∧(∀ i,i < x43.2.2.2.1.length→(mks y30.2.2.2.1) i=(mks x43.2.2.2.1) i)∧(∀ i,i < x43.2.2.2.1.length→DEqs ((mvs aA y30.2.2.2.1) i) ((mvs aA x43.2.2.2.1) i))∧SlQ (y30.2.2.2.2.length+1) x43.2.2.2.2.length (c9 (gl aB y30.2.2.2.2) y30.2.2.2.2.length (fun _=>[.str (at_ y30.1 y30.2.2.1),.str ByteArray.empty])) (gl aB x43.2.2.2.2) (I28 x43∧μ29 x43 < μ29 y30)))))) False) ((y30.2.2.2.2.length=y30.2.2.2.2.length)∧SlQ y30.2.2.2.2.length (List.length (aR a)) (gl aB y30.2.2.2.2) (gl aB (aR a)) (True)))))))
def f1385.vc (a:List (aC)):Prop:=(∃ (I2:(Int×(List (ByteArray×ByteArray))×(List (ByteArray)))→Prop) (μ3:(Int×(List (ByteArray×ByteArray))×(List (ByteArray)))→Nat),I2 ((0:Int),[],[])∧∀ y4:Int×(List (ByteArray×ByteArray))×(List (ByteArray)),I2 y4→((y4.1 < (a.length:Int)→((0:Int)≤y4.1∧y4.1 < (a.length:Int)∧((fR y4.2.1 ((at_ a y4.1).1)=true→(-9223372036854775808≤(y4.1+(1:Int))∧(y4.1+(1:Int))≤9223372036854775807∧(I2 ((y4.1+(1:Int)),eB y4.2.1 ((at_ a y4.1).1) ((at_ a y4.1).2),y4.2.2)∧μ3 ((y4.1+(1:Int)),eB y4.2.1 ((at_ a y4.1).1) ((at_ a y4.1).2),y4.2.2) < μ3 y4)))∧(¬(fR y4.2.1 ((at_ a y4.1).1)=true)→(y4.2.2.length+1≤1073741824∧(-9223372036854775808≤(y4.1+(1:Int))∧(y4.1+(1:Int))≤9223372036854775807∧(I2 ((y4.1+(1:Int)),eB y4.2.1 ((at_ a y4.1).1) ((at_ a y4.1).2),y4.2.2++([(at_ a y4.1).1]))∧μ3 ((y4.1+(1:Int)),eB y4.2.1 ((at_ a y4.1).1) ((at_ a y4.1).2),y4.2.2++([(at_ a y4.1).1])) < μ3 y4)))))))∧(¬(y4.1 < (a.length:Int))→(gC y4.2.2∧((List.length ((cF slt) (y4.2.2)))=y4.2.2.length∧(∃ (I28:((List (ByteArray))×Int×Int×(List (ByteArray×ByteArray))×(List (aC)))→Prop) (μ29:((List (ByteArray))×Int×Int×(List (ByteArray×ByteArray))×(List (aC)))→Nat),I28 (((cF slt) (y4.2.2)),(List.length ((cF slt) (y4.2.2)):Int),(0:Int),y4.2.1,[])∧∀ y30:(List (ByteArray))×Int×Int×(List (ByteArray×ByteArray))×(List (aC)),I28 y30→((y30.2.2.1 < y30.2.1→((0:Int)≤y30.2.2.1∧y30.2.2.1 < (y30.1.length:Int)∧((fR y30.2.2.2.1 (at_ y30.1 y30.2.2.1)=true→(y30.2.2.2.2.length+1≤1073741824∧(-9223372036854775808≤(y30.2.2.1+(1:Int))∧(y30.2.2.1+(1:Int))≤9223372036854775807∧(I28 (y30.1,y30.2.1,(y30.2.2.1+(1:Int)),y30.2.2.2.1,y30.2.2.2.2++([(at_ y30.1 y30.2.2.1,mat y30.2.2.2.1 (at_ y30.1 y30.2.2.1))]))∧μ29 (y30.1,y30.2.1,(y30.2.2.1+(1:Int)),y30.2.2.2.1,y30.2.2.2.2++([(at_ y30.1 y30.2.2.1,mat y30.2.2.2.1 (at_ y30.1 y30.2.2.1))])) < μ29 y30))))∧(¬(fR y30.2.2.2.1 (at_ y30.1 y30.2.2.1)=true)→(y30.2.2.2.2.length+1≤1073741824∧(-9223372036854775808≤(y30.2.2.1+(1:Int))∧(y30.2.2.1+(1:Int))≤9223372036854775807∧(I28 (y30.1,y30.2.1,(y30.2.2.1+(1:Int)),y30.2.2.2.1,y30.2.2.2.2++([(at_ y30.1 y30.2.2.1,ByteArray.empty)]))∧μ29 (y30.1,y30.2.1,(y30.2.2.1+(1:Int)),y30.2.2.2.1,y30.2.2.2.2++([(at_ y30.1 y30.2.2.1,ByteArray.empty)])) < μ29 y30)))))))∧(¬(y30.2.2.1 < y30.2.1)→(y30.2.2.2.2=aR a)))))))))
theorem f1385.of (a:List (aC)) (h:f1385.vc a):f1385.tree a:=Exists.elim h (fun I2 h60_=>Exists.elim h60_ (fun μ3 h60=>⟨I2,μ3,⟨((0:Int),[],[]),⟨(aV eU (Rds.nil (enc:=aA))),SlS.mk  (⟨rfl,⟨rfl,mpK Mds.nil (slQ (Rds.nil (enc:=aA)) (h60.1))⟩⟩)⟩⟩,fun y4 h62=>br (h60.2 y4 h62) Cnd.dec (fun h5 k58=>chk k58.2.2 Cnd.ix ⟨k58.1,k58.2.1⟩ (fun h7 k24=>br k24 Cnd.b (fun h8 k22=>wrapK.i64 k22 (fun h13 h14 k15=>⟨((y4.1+(1:Int)),eB y4.2.1 ((at_ a y4.1).1) ((at_ a y4.1).2),y4.2.2),⟨(aV (gl aA y4.2.2) (rS aA)),SlS.mk  (⟨rfl,⟨rfl,mpK (Mds.set (enc:=aA) (Mds.self (enc:=aA)) (DEqs.refl _)) (slQ (rS aA) (k15))⟩⟩)⟩⟩)) (fun h9 k23=>⟨⟨rfl,fY k23.1 (by decide)⟩,wrapK.i64 k23.2 (fun h19 h20 k21=>⟨((y4.1+(1:Int)),eB y4.2.1 ((at_ a y4.1).1) ((at_ a y4.1).2),y4.2.2++([(at_ a y4.1).1])),⟨(aV (c9 (gl aA y4.2.2) y4.2.2.length (fun _=>[.str ((at_ a y4.1).1)])) (Rds.app (enc:=aA) (rS aA) (Rds.one (enc:=aA) (DEqs.refl _)))),SlS.mk  (⟨rfl,⟨rfl,mpK (Mds.set (enc:=aA) (Mds.self (enc:=aA)) (DEqs.refl _)) (slQ (Rds.app (enc:=aA) (rS aA) (Rds.one (enc:=aA) (DEqs.refl _))) (k21))⟩⟩)⟩⟩)⟩))) (fun h6 k59=>⟨rfl,⟨y4.2.2,⟨(aV (gl aA y4.2.2) (rS aA)),slQ (rS aA) (⟨k59.1,iF k59.2 (fun (h26:(List.length ((cF slt) (y4.2.2)))=y4.2.2.length) hk=>⟨h26,Exists.elim hk (fun I28 h54_=>Exists.elim h54_ (fun μ29 h54=>⟨I28,μ29,⟨(((cF slt) (y4.2.2)),(List.length ((cF slt) (y4.2.2)):Int),(0:Int),y4.2.1,[]),⟨(aV eU (Rds.nil (enc:=aB))),slQ (rS aA) (⟨rfl,⟨rfl,mpK (Mds.self (enc:=aA)) (slQ (Rds.nil (enc:=aB)) (h54.1))⟩⟩)⟩⟩,fun y30 h56=>br (h54.2 y30 h56) Cnd.dec (fun h31 k52=>chk k52.2.2 Cnd.ix ⟨k52.1,k52.2.1⟩ (fun h33 k50=>br k50 Cnd.b (fun h34 k48=>⟨⟨rfl,fY k48.1 (by decide)⟩,wrapK.i64 k48.2 (fun h39 h40 k41=>⟨(y30.1,y30.2.1,(y30.2.2.1+(1:Int)),y30.2.2.2.1,y30.2.2.2.2++([(at_ y30.1 y30.2.2.1,mat y30.2.2.2.1 (at_ y30.1 y30.2.2.1))])),⟨(aV (c9 (gl aB y30.2.2.2.2) y30.2.2.2.2.length (fun _=>[.str (at_ y30.1 y30.2.2.1),.str (mat y30.2.2.2.1 (at_ y30.1 y30.2.2.1))])) (Rds.app (enc:=aB) (rS aB) (Rds.one (enc:=aB) (DEqs.refl _)))),slQ (rS aA) (⟨rfl,⟨rfl,mpK (Mds.self (enc:=aA)) (slQ (Rds.app (enc:=aB) (rS aB) (Rds.one (enc:=aB) (DEqs.refl _))) (k41))⟩⟩)⟩⟩)⟩) (fun h35 k49=>⟨⟨rfl,fY k49.1 (by decide)⟩,wrapK.i64 k49.2 (fun h45 h46 k47=>⟨(y30.1,y30.2.1,(y30.2.2.1+(1:Int)),y30.2.2.2.1,y30.2.2.2.2++([(at_ y30.1 y30.2.2.1,ByteArray.empty)])),⟨(aV (c9 (gl aB y30.2.2.2.2) y30.2.2.2.2.length (fun _=>[.str (at_ y30.1 y30.2.2.1),.str ByteArray.empty])) (Rds.app (enc:=aB) (rS aB) (Rds.one (enc:=aB) (DEqs.refl _)))),slQ (rS aA) (⟨rfl,⟨rfl,mpK (Mds.self (enc:=aA)) (slQ (Rds.app (enc:=aB) (rS aB) (Rds.one (enc:=aB) (DEqs.refl _))) (k47))⟩⟩)⟩⟩)⟩))) (fun h32 k53=>⟨rfl,slQ (Rds.to (rS aB) k53) (trivial)⟩)⟩))⟩)⟩)⟩⟩⟩)⟩))
theorem f1385.eq (a:List (aC)):(f1385.af a).gives f1385.env (f1385.args a) (f1385.blks a) (f1385.res a) (f1385.blks' a)=f1385.tree a:=by kernel_rfl
def f374.wf (a:List (aC)):Prop:=cW.ok a
def f374.size (a:List (aC)):Nat:=cW.size a
def f374.lpre (a:List (aC)):Prop:=f374.wf a∧f374.size a≤1048576
def f374.args (a:List (aC)):List D:=[.slice .ro 2 a.length (gl aB a)]
def f374.blks (a:List (aC)):List (List D):=[]
def f374.res (a:List (aC)):List D:=[.bool (b6 a)]
def f374.blks' (a:List (aC)):List (List D):=[]
def f374.C:aK:=FnC f374.args f374.blks (fun a=>f374.lpre a) f374.res f374.blks'
def f374.s0:ByteArray:=⟨#[111,116,104,101,114]⟩
def f374.S0 (a:List (aC)) (x:Int×Int×(List (aC))):Tm:=⟨[.slice .ro 2 a.length (gl aB a),.dead,.dead,.slice (.own 1000021) 2 (0+a.length) (c9 (fun j=>List.take 2 (List.drop (j * 2) [])) 0 (gl aB a)),.msl 1000024 2 x.2.2.length,.dead,.dead,.dead,.dead,.dead,.dead,.dead,.dead,.dead,.dead,.dead,.dead,.dead,.dead,.dead,.int .i64 x.1,.int .i64 x.2.1,.dead,.dead,.dead,.dead,.dead,.dead,.dead,.dead,.dead,.dead,.dead,.dead,.dead,.dead,.dead,.dead,.dead],[(1000024,false,[.dead,.arr true 2 x.2.2.length (gl aB x.2.2)])],[(1000021,2,0+a.length)]⟩
def f374.kills (a:List (aC)):List Hint:=[.tell (Int×Int×(List (aC))) (f374.S0 a)]
def f374.cuts (a:List (aC)):List (Nat×Σ β:Type,β→Tm):=[(999999,⟨Unit,fun x=>⟨[],[],[]⟩⟩)]
def f374.af (a:List (aC)):AF:=AF.mk (.seq (.region [⟨(some 2),1000000,.move,[.c (.bool false)],none⟩])
 (.seq (.seq (.region [oR 6 1 (.call false 383) [],
 oR 7 5 (.un .not) [6],
 mR 8 6 7,
 oG 9 1000007 .move [0] 8 false,
 oG 10 1000008 (.call true 384) [9] 8 false,
 oG 11 1000012 (.un .not) [10] 8 false,
 ⟨(some 12),1000013,.pick,[.t 8,.c (.bool true),.t 11],none⟩])
 (.cond (.t 12) (.seq (.region [oR 13 14 (.call false 383) [],
 mR 2 18 13])
 (.ret)) (.skip)))
 (.seq (.region [oR 14 19 (.buildSlice 2 0 [.str ByteArray.empty,.str ByteArray.empty] []) [],
 mR 15 20 0,
 oR 16 21 (.append 2 32) [14,15],
 mR 3 22 16])
 (.seq (.region [mR 17 23 3,
 oR 18 24 (.call true 385) [17],
 mR 4 28 18])
 (.seq (.seq (.region [mR 19 29 4,
 oR 20 30 (.len false) [19],
 ⟨(some 21),1000031,.move,[.c (.int .i64 (0))],none⟩])
 (.block 0 (.loopT (Int×Int×(List (aC))) (f374.S0 a) 1000032 1000042 (.seq (.region [oR 22 32 (.bin .lss) [21,20]])
 (.seq (.cond (.t 22) (.skip) (.exit 0))
 (.seq (.block 1 (.seq (.region [mR 23 33 21,
 mR 5 34 23])
 (.region [mR 24 35 4,
 mR 25 36 5,
 oR 26 37 (.indexAddr 2 none) [24,25],
 oR 27 38 (.fieldAddr 0) [26],
 ⟨none,1000039,(.store 1),[.t 27,.c (.str f374.s0)],none⟩])))
 (.region [⟨(some 28),1000040,(.bin .add),[.t 21,.c (.int .i64 (1))],none⟩,
 mR 21 41 28])))))))
 (.seq (.region [mR 29 42 3,
 mR 30 43 0,
 oR 31 44 (.call true 322) [29,30],
 mR 32 48 31,
 oG 33 1000049 .move [3] 32 true,
 oG 34 1000050 (.call true 385) [33] 32 true,
 oG 35 1000054 .move [0] 32 true,
 oG 36 1000055 (.call true 386) [35] 32 true,
 oG 37 1000059 (.call true 322) [34,36] 32 true,
 ⟨(some 38),1000063,.pick,[.t 32,.t 37,.c (.bool false)],none⟩,
 mR 2 64 38])
 (.ret)))))))
 [.tmp 2] 0 38
def f374.env:Env:=[(1000025385,f1385.C),(383,f383.C),(384,f384.C),(322,f322.C),(385,f385.C),(386,f386.C)]
def f374.tree (a:List (aC)):Prop:=∃ c1:Unit,True∧Br (!(b6 c1)) (∃ c4:Unit,True∧((b6 c4)=(b6 a))∧True) (f384.ent (fun c7=>(lZ c7)∧Br (!(oQ c7)) (∃ c10:Unit,True∧((b6 c10)=(b6 a))∧True) ((kR ((0+a.length) * 32))∧(∃ c13:List (aC),SlQ (0+a.length) c13.length (c9 (fun j=>List.take 2 (List.drop (j * 2) [])) 0 (gl aB a)) (gl aB c13) ((L20 c13)∧∃ (I15:(Int×Int×(List (aC)))→Prop) (μ16:(Int×Int×(List (aC)))→Nat),(∃ x14:Int×Int×(List (aC)),SlS aB a (SlQ (0+a.length) (0+a.length) (c9 (fun j=>List.take 2 (List.drop (j * 2) [])) 0 (gl aB a)) (c9 (fun j=>List.take 2 (List.drop (j * 2) [])) 0 (gl aB a)) (((List.length (aR c13))=x14.2.2.length)∧((List.length (aR c13):Int)=x14.1)∧((0:Int)=x14.2.1)∧SlQ (List.length (aR c13)) x14.2.2.length (gl aB (aR c13)) (gl aB x14.2.2) (((0+a.length)=(0+a.length))∧I15 x14))))∧∀ y17:Int×Int×(List (aC)),I15 y17→(Br (decide (y17.2.1 < y17.1)) (Br (decide ((0:Int)≤y17.2.1)&&decide (y17.2.1 < (List.length y17.2.2:Int))) ((y17.2.2.length=y17.2.2.length)∧(Let (wI (y17.2.1+(1:Int))) (fun v21:Int=>∃ x22:Int×Int×(List (aC)),SlS aB a (SlQ (0+a.length) (0+a.length) (c9 (fun j=>List.take 2 (List.drop (j * 2) [])) 0 (gl aB a)) (c9 (fun j=>List.take 2 (List.drop (j * 2) [])) 0 (gl aB a)) ((y17.2.2.length=x22.2.2.length)∧(y17.1=x22.1)∧(v21=x22.2.1)∧SlQ y17.2.2.length x22.2.2.length (gset (gl aB y17.2.2) (Int.toNat y17.2.1) [.str f374.s0,.str ((at_ y17.2.2 y17.2.1).2)]) (gl aB x22.2.2) (((0+a.length)=(0+a.length))∧I15 x22∧μ16 x22 < μ16 y17)))))) False) (∃ c28:(List (aC))×(List (aC)),SlQ (0+a.length) c28.1.length (c9 (fun j=>List.take 2 (List.drop (j * 2) [])) 0 (gl aB a)) (gl aB c28.1) (SlQ a.length c28.2.length (gl aB a) (gl aB c28.2) ((vS c28)∧Br (cR c28) (∃ c31:List (aC),SlQ (0+a.length) c31.length (c9 (fun j=>List.take 2 (List.drop (j * 2) [])) 0 (gl aB a)) (gl aB c31) ((L20 c31)∧f386.ent (fun c32=>(L20 c32)∧f322.ent (fun c33=>(vS c33)∧((cR c33)=(b6 a))∧True) ((aR c31),(aR c32))) a)) ((false=(b6 a))∧True))))))))) a)
def f374.vc (a:List (aC)):Prop:=((¬((b6 ())=true)→((b6 ())=b6 a))∧(¬(¬((b6 ())=true))→(lZ a∧((¬((oQ a)=true)→((b6 ())=b6 a))∧(¬(¬((oQ a)=true))→(0+a.length≤1073741824∧(L20 (([])++a)∧(∃ (I15:(Int×Int×(List (aC)))→Prop) (μ16:(Int×Int×(List (aC)))→Nat),I15 ((List.length (aR (([])++a)):Int),(0:Int),(aR (([])++a)))∧∀ y17:Int×Int×(List (aC)),I15 y17→((y17.2.1 < y17.1→((0:Int)≤y17.2.1∧y17.2.1 < (List.length y17.2.2:Int)∧(-9223372036854775808≤(y17.2.1+(1:Int))∧(y17.2.1+(1:Int))≤9223372036854775807∧(I15 (y17.1,(y17.2.1+(1:Int)),List.set y17.2.2 (Int.toNat y17.2.1) (f374.s0,(at_ y17.2.2 y17.2.1).2))∧μ16 (y17.1,(y17.2.1+(1:Int)),List.set y17.2.2 (Int.toNat y17.2.1) (f374.s0,(at_ y17.2.2 y17.2.1).2)) < μ16 y17))))∧(¬(y17.2.1 < y17.1)→(vS (([])++a,a)∧(((cR (([])++a,a))=true→(L20 (([])++a)∧(L20 a∧(vS ((aR (([])++a)),(aR a))∧((cR ((aR (([])++a)),(aR a)))=b6 a)))))∧(¬((cR (([])++a,a))=true)→(false=b6 a))))))))))))))
theorem f374.of (a:List (aC)) (h:f374.vc a):f374.tree a:=⟨(),⟨trivial,br h (Cnd.not Cnd.b) (fun h2 k51=>⟨(),⟨trivial,⟨k51,trivial⟩⟩⟩) (fun h3 k52=>(f384.ei ⟨k52.1,br k52.2 (Cnd.not Cnd.b) (fun h8 k48=>⟨(),⟨trivial,⟨k48,trivial⟩⟩⟩) (fun h9 k49=>⟨(fY k49.1 (by decide)),⟨([])++a,slQ (Rds.app (enc:=aB) (Rds.nil (enc:=aB)) (rS aB)) (⟨k49.2.1,Exists.elim k49.2.2 (fun I15 h44_=>Exists.elim h44_ (fun μ16 h44=>⟨I15,μ16,⟨((List.length (aR (([])++a)):Int),(0:Int),(aR (([])++a))),SlS.mk  (slQ ⟨rfl,fun _ _=>DEqs.refl _⟩ (⟨(aV (gl aB (aR (([])++a))) (rS aB)),⟨rfl,⟨rfl,slQ (rS aB) (⟨rfl,h44.1⟩)⟩⟩⟩))⟩,fun y17 h46=>br (h44.2 y17 h46) Cnd.dec (fun h18 k42=>chk k42.2.2 Cnd.ix ⟨k42.1,k42.2.1⟩ (fun h20 k27=>⟨rfl,wrapK.i64 k27 (fun h24 h25 k26=>⟨(y17.1,(y17.2.1+(1:Int)),List.set y17.2.2 (Int.toNat y17.2.1) (f374.s0,(at_ y17.2.2 y17.2.1).2)),SlS.mk  (slQ ⟨rfl,fun _ _=>DEqs.refl _⟩ (⟨(aV (gset (gl aB y17.2.2) (Int.toNat y17.2.1) [.str f374.s0,.str ((at_ y17.2.2 y17.2.1).2)]) (Rds.gset (enc:=aB) (rS aB) (DEqs.refl _))),⟨rfl,⟨rfl,slQ (Rds.gset (enc:=aB) (rS aB) (DEqs.refl _)) (⟨rfl,k26⟩)⟩⟩⟩))⟩)⟩)) (fun h19 k43=>⟨(([])++a,a),slQ (Rds.app (enc:=aB) (Rds.nil (enc:=aB)) (rS aB)) (slQ (rS aB) (⟨k43.1,br k43.2 Cnd.b (fun h29 k39=>⟨([])++a,slQ (Rds.app (enc:=aB) (Rds.nil (enc:=aB)) (rS aB)) (⟨k39.1,(f386.ei ⟨k39.2.1,(f322.ei ⟨k39.2.2.1,⟨k39.2.2.2,trivial⟩⟩)⟩)⟩)⟩) (fun h30 k40=>⟨k40,trivial⟩)⟩))⟩)⟩))⟩)⟩⟩)⟩))⟩⟩
theorem f374.eq (a:List (aC)):(f374.af a).gives f374.env (f374.args a) (f374.blks a) (f374.res a) (f374.blks' a)=f374.tree a:=by kernel_rfl
theorem f1385.ok (a:List bK) (h:L20 a):f1385.vc a:=by
 have h:a.length≤1048576:=h
 refine ⟨fun y=>0≤y.1∧y.1≤(a.length:Int)∧y.2.1=c6 (a.take y.1.toNat)∧y.2.2=y.2.1.map Prod.fst,fun y=>a.length - y.1.toNat,⟨by simp only; omega,by simp only; omega,rfl,rfl⟩,fun y hy=>?_⟩
 obtain ⟨i,m,keys⟩:=y
 obtain ⟨g0,g1,g2,g3⟩:=hy
 simp only at g0 g1 g2 g3 ⊢
 subst g3
 refine ⟨fun hlt=>?_,fun hge=>?_⟩
 ·have st:eB m (at_ a i).1 (at_ a i).2=c6 (a.take (i+1).toNat):=by
   rw [show (i+1).toNat=i.toNat+1 from by omega,hO (by omega),iA,← g2]
   rfl
  have hl:=mW (a.take i.toNat)
  rw [← g2,List.length_take] at hl
  refine ⟨g0,hlt,fun c=>⟨by omega,by omega,⟨by omega,by omega,st,?_⟩,by omega⟩,fun c=>⟨?_,by omega,by omega,⟨by omega,by omega,st,?_⟩,by omega⟩⟩
  ·rw [fO,if_pos c]
  ·rw [List.length_map]
   omega
  ·rw [fO,if_neg c]
 ·have e:a.take i.toNat=a:=List.take_of_length_le (by omega)
  rw [e] at g2
  subst g2
  have hl:=mW a
  refine ⟨?_,m4 _,?_⟩
  ·unfold gC
   rw [List.length_map]
   omega
  ·have hS:(cF slt ((c6 a).map Prod.fst)).length=(c6 a).length:=by rw [m4,List.length_map]
   have hin:∀ x∈cF slt ((c6 a).map Prod.fst),fR (c6 a) x=true:=fun x hx=>by
    rw [jI,jJ kI] at hx
    exact (lN _ _).2 hx
   have hK:=rK a
   rw [← jI] at hK
   generalize cF slt ((c6 a).map Prod.fst)=S at hS hin hK ⊢
   refine ⟨fun y=>y.1=S∧y.2.1=(S.length:Int)∧0≤y.2.2.1∧y.2.2.1≤(S.length:Int)∧y.2.2.2.1=c6 a∧y.2.2.2.2=(S.take y.2.2.1.toNat).map fun k=>(k,mat (c6 a) k),fun y=>S.length - y.2.2.1.toNat,⟨rfl,rfl,by simp only; omega,by simp only; omega,rfl,rfl⟩,fun y hy=>?_⟩
   obtain ⟨ks,n,j,m,out⟩:=y
   obtain ⟨e1,e2,e3,e4,e5,e6⟩:=hy
   simp only at e1 e2 e3 e4 e5 e6 ⊢
   subst e1; subst e2; subst e5
   refine ⟨fun hlt=>⟨e3,hlt,fun c=>⟨?_,by omega,by omega,⟨rfl,rfl,by omega,by omega,rfl,?_⟩,by omega⟩,fun c=>absurd (hin _ (yQ e3 hlt)) c⟩,fun hge=>?_⟩
   ·rw [e6,List.length_map,List.length_take]
    omega
   ·rw [show (j+1).toNat=j.toNat+1 from by omega,hO (by omega),List.map_append,← e6]
    rfl
   ·rw [e6,List.take_of_length_le (by omega)]
    exact hK
theorem f374.ok (a:List bK) (h:f374.lpre a):f374.vc a:=by
 obtain ⟨_,hs⟩:=h
 obtain ⟨h1,h2,h3⟩:=zO (l:=a) hs
 have h4:a.length≤1048576:=h3
 have hl:(aR a).length≤a.length:=lL a
 refine ⟨fun _=>rfl,fun _=>⟨h1,fun _=>rfl,fun _=>⟨by omega,h3,?_⟩⟩⟩
 refine ⟨fun y=>0≤y.2.1∧y.2.1≤y.1∧y.1=(y.2.2.length:Int)∧y.2.2.length≤a.length,fun y=>(y.1 - y.2.1).toNat,⟨by simp only; omega,by simp only; omega,rfl,hl⟩,fun y hy=>?_⟩
 obtain ⟨n,i,s⟩:=y
 obtain ⟨e1,e2,e3,e4⟩:=hy
 simp only at e1 e2 e3 e4 ⊢
 refine ⟨fun hlt=>⟨e1,by omega,by omega,by omega,⟨by omega,by omega,?_,?_⟩,by omega⟩,fun _=>?_⟩
 ·rw [List.length_set]
  exact e3
 ·rw [List.length_set]
  exact e4
 ·exact ⟨⟨h3,h3⟩,fun _=>⟨h3,h3,⟨wP h3,wP h3⟩,vV _⟩,fun c=>absurd (vV _) c⟩
end Go.Abs
