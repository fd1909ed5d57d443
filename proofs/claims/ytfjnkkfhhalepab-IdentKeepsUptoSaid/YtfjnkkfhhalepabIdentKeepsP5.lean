/- Functions, and what the code asks of them: PStr. -/
import Derived.KernelRfl
import Derived.Lib.TrimU
import Derived.Test.YtfjnkkfhhalepabIdentKeepsP4
set_option maxRecDepth 100000
set_option maxHeartbeats 4000000
set_option linter.unusedVariables false
set_option linter.unusedSimpArgs false
namespace Go.Abs
open Go
def aFA (s:ByteArray):Prop:=∀ x∈s.data.toList,x.toNat < 128
def ltr (x:UInt8):Bool:=(97≤x&&x≤122) || (48≤x&&x≤57) || x==45
def sgn (r:Int):Bool:=(0≤r&&r < 128)&&ltr r.toNat.toUInt8
def gF (a:ByteArray×Int):Prop:=aFA a.1∧a.1.size≤1073741824∧0≤a.2∧a.2≤1114111
def cA (a:ByteArray×Int):Int:=if 0≤a.2∧a.2 < 128 then ixB a else -1
def nD (a:ByteArray×Int):Bool:=decide (0≤cA a)
def rW (r:Int):Prop:=0≤r∧r≤1114111
def uT (r:Int):Bool:=!sgn r
def eI (s:ByteArray):Prop:=s.size≤1073741824
def pV (l:List UInt8):Int:=match l.findIdx? (fun x=>!ltr x) with
 | some i=>i
 | none=>-1
def fG (a:ByteArray×Bool):Int:=pV a.1.data.toList
def jL (s:ByteArray):Int:=pV s.data.toList
def nZ (s:ByteArray):Bool:=decide (0≤pV s.data.toList)
def mU (a:ByteArray×Bool):Prop:=a.1.size≤1073741824∧a.2=true
def f66.args (a:ByteArray):List D:=[.str a,.fn 67 []]
def f66.blks (a:ByteArray):List (List D):=[]
def f66.res (a:ByteArray):List D:=[.bool (nZ a)]
def f66.blks' (a:ByteArray):List (List D):=[]
def f66.C:aK:=FnC f66.args f66.blks (fun a=>eI a) f66.res f66.blks'
def f70.args (a:ByteArray):List D:=[.str a,.fn 67 []]
def f70.blks (a:ByteArray):List (List D):=[]
def f70.res (a:ByteArray):List D:=[.int .i64 (jL a)]
def f70.blks' (a:ByteArray):List (List D):=[]
def f70.C:aK:=FnC f70.args f70.blks (fun a=>eI a) f70.res f70.blks'
set_option linter.unusedVariables false
def f66.kills (a:ByteArray):List Hint:=[]
def f66.cuts (a:ByteArray):List (Nat×Σ β:Type,β→Tm):=[]
def f66.af (a:ByteArray):AF:=AF.mk (.seq (.region [⟨(some 4),0,.move,[.c (.bool false)],none⟩])
 (.seq (.region [mT 5 1 0,
 mT 6 2 1,
 oT 7 3 (.call false 70) [5,6],
 ⟨(some 8),7,(.bin .geq),[.t 7,.c (.int .i64 (0))],none⟩,
 mT 4 8 8])
 (.ret)))
 [.tmp 4] 0 7
def f66.env:Env:=[(70,f70.C)]
def f66.tree (a:ByteArray):Prop:=∃ c1:ByteArray,(a=c1)∧(DEqs [] [])∧(eI c1)∧((decide ((0:Int)≤(jL c1)))=(nZ a))∧True
def f66.vc (a:ByteArray):Prop:=(eI a∧(decide ((0:Int)≤(jL a))=nZ a))
theorem f66.of (a:ByteArray) (h:f66.vc a):f66.tree a:=⟨a,⟨rfl,⟨(DEqs.refl _),⟨h.1,⟨h.2,trivial⟩⟩⟩⟩⟩
theorem f66.eq (a:ByteArray):(f66.af a).gives f66.env (f66.args a) (f66.blks a) (f66.res a) (f66.blks' a)=f66.tree a:=by kernel_rfl
def f67.args (a:Int):List D:=[.int .i32 a]
def f67.blks (a:Int):List (List D):=[]
def f67.res (a:Int):List D:=[.bool (uT a)]
def f67.blks' (a:Int):List (List D):=[]
def f67.C:aK:=FnC f67.args f67.blks (fun a=>rW a) f67.res f67.blks'
def f71.args (a:ByteArray×Int):List D:=[.str a.1,.int .i32 a.2]
def f71.blks (a:ByteArray×Int):List (List D):=[]
def f71.res (a:ByteArray×Int):List D:=[.bool (nD a)]
def f71.blks' (a:ByteArray×Int):List (List D):=[]
def f71.C:aK:=FnC f71.args f71.blks (fun a=>gF a) f71.res f71.blks'
def f67.s0:ByteArray:=⟨#[97,98,99,100,101,102,103,104,105,106,107,108,109,110,111,112,113,114,115,116,117,118,119,120,121,122,48,49,50,51,52,53,54,55,56,57,45]⟩
def f67.kills (a:Int):List Hint:=[]
def f67.cuts (a:Int):List (Nat×Σ β:Type,β→Tm):=[]
def f67.af (a:Int):AF:=AF.mk (.seq (.region [⟨(some 2),0,.move,[.c (.bool false)],none⟩])
 (.seq (.region [mT 3 1 0,
 ⟨(some 4),2,(.call false 71),[.c (.str f67.s0),.t 3],none⟩,
 oT 5 6 (.un .not) [4],
 mT 2 7 5])
 (.ret)))
 [.tmp 2] 0 5
def f67.env:Env:=[(71,f71.C)]
def f67.tree (a:Int):Prop:=∃ c1:ByteArray×Int,(f67.s0=c1.1)∧(a=c1.2)∧(gF c1)∧((!(nD c1))=(uT a))∧True
def f67.vc (a:Int):Prop:=(gF (f67.s0,a)∧((!(nD (f67.s0,a)))=uT a))
theorem f67.of (a:Int) (h:f67.vc a):f67.tree a:=⟨(f67.s0,a),⟨rfl,⟨rfl,⟨h.1,⟨h.2,trivial⟩⟩⟩⟩⟩
theorem f67.eq (a:Int):(f67.af a).gives f67.env (f67.args a) (f67.blks a) (f67.res a) (f67.blks' a)=f67.tree a:=by kernel_rfl
def f72.args (a:ByteArray×Bool):List D:=[.str a.1,.fn 67 [],.bool a.2]
def f72.blks (a:ByteArray×Bool):List (List D):=[]
def f72.res (a:ByteArray×Bool):List D:=[.int .i64 (fG a)]
def f72.blks' (a:ByteArray×Bool):List (List D):=[]
def f72.C:aK:=FnC f72.args f72.blks (fun a=>mU a) f72.res f72.blks'
def f70.kills (a:ByteArray):List Hint:=[]
def f70.cuts (a:ByteArray):List (Nat×Σ β:Type,β→Tm):=[]
def f70.af (a:ByteArray):AF:=AF.mk (.seq (.region [⟨(some 4),0,.move,[.c (.int .i64 (0))],none⟩])
 (.seq (.region [mT 5 1 0,
 mT 6 2 1,
 ⟨(some 7),3,(.call false 72),[.t 5,.t 6,.c (.bool true)],none⟩,
 mT 4 7 7])
 (.ret)))
 [.tmp 4] 0 6
def f70.env:Env:=[(72,f72.C)]
def f70.tree (a:ByteArray):Prop:=∃ c1:ByteArray×Bool,(a=c1.1)∧(DEqs [] [])∧(true=c1.2)∧(mU c1)∧((fG c1)=(jL a))∧True
def f70.vc (a:ByteArray):Prop:=(mU (a,true)∧((fG (a,true))=jL a))
theorem f70.of (a:ByteArray) (h:f70.vc a):f70.tree a:=⟨(a,true),⟨rfl,⟨(DEqs.refl _),⟨rfl,⟨h.1,⟨h.2,trivial⟩⟩⟩⟩⟩⟩
theorem f70.eq (a:ByteArray):(f70.af a).gives f70.env (f70.args a) (f70.blks a) (f70.res a) (f70.blks' a)=f70.tree a:=by kernel_rfl
def f73.args (a:ByteArray×Int):List D:=[.str a.1,.int .i32 a.2]
def f73.blks (a:ByteArray×Int):List (List D):=[]
def f73.res (a:ByteArray×Int):List D:=[.int .i64 (cA a)]
def f73.blks' (a:ByteArray×Int):List (List D):=[]
def f73.C:aK:=FnC f73.args f73.blks (fun a=>gF a) f73.res f73.blks'
def f71.kills (a:ByteArray×Int):List Hint:=[]
def f71.cuts (a:ByteArray×Int):List (Nat×Σ β:Type,β→Tm):=[]
def f71.af (a:ByteArray×Int):AF:=AF.mk (.seq (.region [⟨(some 4),0,.move,[.c (.bool false)],none⟩])
 (.seq (.region [mT 5 1 0,
 mT 6 2 1,
 oT 7 3 (.call false 73) [5,6],
 ⟨(some 8),7,(.bin .geq),[.t 7,.c (.int .i64 (0))],none⟩,
 mT 4 8 8])
 (.ret)))
 [.tmp 4] 0 7
def f71.env:Env:=[(73,f73.C)]
def f71.tree (a:ByteArray×Int):Prop:=∃ c1:ByteArray×Int,(a.1=c1.1)∧(a.2=c1.2)∧(gF c1)∧((decide ((0:Int)≤(cA c1)))=(nD a))∧True
def f71.vc (a:ByteArray×Int):Prop:=(gF (a.1,a.2)∧(decide ((0:Int)≤(cA (a.1,a.2)))=nD a))
theorem f71.of (a:ByteArray×Int) (h:f71.vc a):f71.tree a:=⟨(a.1,a.2),⟨rfl,⟨rfl,⟨h.1,⟨h.2,trivial⟩⟩⟩⟩⟩
theorem f71.eq (a:ByteArray×Int):(f71.af a).gives f71.env (f71.args a) (f71.blks a) (f71.res a) (f71.blks' a)=f71.tree a:=by kernel_rfl
def f72.S0 (a:ByteArray×Bool) (x:Int):Tm:=⟨[.dead,.fn 67 [],.bool a.2,.dead,.dead,.dead,.dead,.dead,.dead,.dead,.ptr 2 0,.dead,.dead,.dead,.dead,.dead,.dead,.dead,.dead,.dead,.dead],[(2,false,[.dead,.str a.1,.int .i64 x])],[]⟩
def f72.kills (a:ByteArray×Bool):List Hint:=[.tell Int (f72.S0 a)]
def f72.cuts (a:ByteArray×Bool):List (Nat×Σ β:Type,β→Tm):=[]
def f72.af (a:ByteArray×Bool):AF:=AF.mk (.seq (.region [⟨(some 6),0,.move,[.c (.int .i64 (0))],none⟩])
 (.seq (.seq (.region [mT 9 1 0,
 oT 10 2 .iterStr [9]])
 (.block 0 (.loopT Int (f72.S0 a) 3 19 (.seq (.region [oT 11 3 .nextStr [10],
 oT 12 4 (.extract 0) [11]])
 (.seq (.cond (.t 12) (.skip) (.exit 0))
 (.block 1 (.seq (.region [oT 13 5 (.extract 1) [11],
 oT 14 6 (.extract 2) [11],
 mT 7 7 13,
 mT 8 8 14])
 (.seq (.region [mT 15 9 1,
 mT 16 10 8,
 oT 17 11 (.callv false) [15,16],
 mT 18 15 2,
 oT 19 16 (.binB false) [17,18]])
 (.cond (.t 19) (.seq (.region [mT 20 17 7,
 mT 6 18 20])
 (.ret)) (.skip))))))))))
 (.seq (.region [⟨(some 6),19,.move,[.c (.int .i64 (-1))],none⟩])
 (.ret))))
 [.tmp 6] 0 18
def f72.env:Env:=[(67,f67.C)]
def f72.tree (a:ByteArray×Bool):Prop:=∃ (I2:Int→Prop) (μ3:Int→Nat),(∃ x1:Int,(DEqs [] [])∧(a.2=a.2)∧(a.1=a.1)∧((0:Int)=x1)∧I2 x1)∧∀ y4:Int,I2 y4→(Br (decide ((0:Int)≤y4)&&decide (y4 < (a.1.size:Int))) (∃ c7:Int,(((Utf8.decode a.1 (Int.toNat y4)).1:Int)=c7)∧(rW c7)∧Br ((uT c7)==a.2) ((y4=(fG a))∧True) (∃ x11:Int,(DEqs [] [])∧(a.2=a.2)∧(a.1=a.1)∧((y4+((Utf8.decode a.1 (Int.toNat y4)).2:Int))=x11)∧I2 x11∧μ3 x11 < μ3 y4)) (((-1:Int)=(fG a))∧True))
def f72.vc (a:ByteArray×Bool):Prop:=(∃ (I2:Int→Prop) (μ3:Int→Nat),I2 (0:Int)∧∀ y4:Int,I2 y4→(((0:Int)≤y4∧y4 < (a.1.size:Int)→(rW ((Utf8.decode a.1 (Int.toNat y4)).1:Int)∧((((uT ((Utf8.decode a.1 (Int.toNat y4)).1:Int))==a.2)=true→(y4=fG a))∧(¬(((uT ((Utf8.decode a.1 (Int.toNat y4)).1:Int))==a.2)=true)→(I2 (y4+((Utf8.decode a.1 (Int.toNat y4)).2:Int))∧μ3 (y4+((Utf8.decode a.1 (Int.toNat y4)).2:Int)) < μ3 y4)))))∧(¬((0:Int)≤y4∧y4 < (a.1.size:Int))→((-1:Int)=fG a))))
theorem f72.of (a:ByteArray×Bool) (h:f72.vc a):f72.tree a:=Exists.elim h (fun I2 h19_=>Exists.elim h19_ (fun μ3 h19=>⟨I2,μ3,⟨(0:Int),⟨(DEqs.refl _),⟨rfl,⟨rfl,⟨rfl,h19.1⟩⟩⟩⟩⟩,fun y4 h21=>br (h19.2 y4 h21) Cnd.ix (fun h5 k17=>⟨((Utf8.decode a.1 (Int.toNat y4)).1:Int),⟨rfl,⟨k17.1,br k17.2 Cnd.b (fun h8 k13=>⟨k13,trivial⟩) (fun h9 k14=>⟨y4+((Utf8.decode a.1 (Int.toNat y4)).2:Int),⟨(DEqs.refl _),⟨rfl,⟨rfl,⟨rfl,k14⟩⟩⟩⟩⟩)⟩⟩⟩) (fun h6 k18=>⟨k18,trivial⟩)⟩))
theorem f72.eq (a:ByteArray×Bool):(f72.af a).gives f72.env (f72.args a) (f72.blks a) (f72.res a) (f72.blks' a)=f72.tree a:=by kernel_rfl
def f74.args (a:ByteArray×Int):List D:=[.str a.1,.int .u8 a.2]
def f74.blks (a:ByteArray×Int):List (List D):=[]
def f74.res (a:ByteArray×Int):List D:=[.int .i64 (ixB a)]
def f74.blks' (a:ByteArray×Int):List (List D):=[]
def f74.C:aK:=FnC f74.args f74.blks (fun _=>True) f74.res f74.blks'
def f75.args (a:Int):List D:=[.int .i32 a]
def f75.blks (a:Int):List (List D):=[]
def f75.res (a:Int):List D:=[.bool ((fun r:Int=>decide (0≤r∧r < 55296∨57343 < r∧r≤1114111)) a)]
def f75.blks' (a:Int):List (List D):=[]
def f75.C:aK:=FnC f75.args f75.blks (fun _=>True) f75.res f75.blks'
def f73.S0 (a:ByteArray×Int) (x:Int):Tm:=⟨[.dead,.dead,.dead,.dead,.dead,.dead,.dead,.dead,.dead,.dead,.dead,.dead,.dead,.dead,.dead,.dead,.dead,.dead,.dead,.dead,.dead,.dead,.dead,.dead,.dead,.dead,.dead,.dead,.dead,.dead,.dead,.dead,.dead,.dead,.dead,.dead,.dead,.dead,.dead,.dead,.dead,.dead,.dead,.dead,.dead,.dead,.dead,.dead,.dead,.dead,.dead,.dead,.dead,.dead,.dead,.dead,.dead,.dead,.dead,.dead,.dead,.dead,.dead,.dead,.dead,.dead,.dead,.dead,.dead,.dead,.dead,.dead,.dead,.dead,.dead,.dead,.dead,.dead,.dead,.dead,.dead,.dead,.dead,.dead,.dead,.dead,.dead,.dead,.dead,.dead,.dead,.dead,.dead,.dead,.dead,.dead,.dead,.dead,.dead,.dead,.dead,.dead,.dead,.dead,.dead,.dead,.dead,.dead,.dead,.dead,.dead,.dead,.dead,.dead,.dead,.dead,.dead,.dead,.dead,.dead,.dead,.dead,.dead,.dead,.dead,.dead,.dead,.dead,.dead,.dead,.dead,.dead,.dead,.dead,.dead,.dead,.dead,.dead,.dead,.dead,.dead,.dead,.dead,.dead,.dead,.dead,.dead,.dead,.dead,.dead,.dead,.dead,.dead,.dead,.dead,.dead,.dead,.dead,.dead,.dead,.dead,.dead,.dead,.dead,.dead,.dead,.dead,.dead,.dead,.dead,.dead,.dead,.dead,.dead,.dead,.ptr 20 0,.dead,.dead,.dead,.dead,.dead,.dead,.dead,.dead,.dead,.dead,.dead],[(20,false,[.dead,.str a.1,.int .i64 x])],[]⟩
def f73.kills (a:ByteArray×Int):List Hint:=[.tell Int (f73.S0 a),
 .unroll 1 [1,2,3,4,5,6,10,11,12,13,14,15,16,17,18,19,20,21,22,23,24,25,26,27,28,29,30,31,32,33,34,35,36,37,38,39,40,41,42,43,44,45,46,47,48,49,50,51,52,53,54,55,56,57,58,59,60,61,62,63,64,65,66,67,68,69,70,71,72,73,74,75,76,77,78,79,80,81,82,83,84,85,86,87,88,89,90,91,92,93,94,95,96,97,98,99,100,101,102,103,104,105,106,107,108,109,110,111,112,113,114,115,116,117,118,119,120,121,122,123,124,125,126,127,128,129,130,131,132,133,134,135,136,137,138,139,140,141,142,143,144,145,146,147,148,149,150,151,152,153,154,155,156,157,158,159,160,161,162,163,164,165,166,167,168,169,170,171,172,173,174,175,176,177,178,179,180,181,182,183,184,185,186] [] [],
 .unroll 0 [] [] [],
 .unroll 0 [] [] [],
 .unroll 0 [] [] []]
def f73.cuts (a:ByteArray×Int):List (Nat×Σ β:Type,β→Tm):=[(21,⟨Unit,fun x=>⟨[],[],[]⟩⟩)]
def f73.af (a:ByteArray×Int):AF:=AF.mk (.seq (.region [⟨(some 4),0,.move,[.c (.int .i64 (0))],none⟩])
 (.block 0 (.seq (.region [mT 161 1 1,
 ⟨(some 162),2,(.bin .leq),[.c (.int .i32 (0)),.t 161],none⟩,
 mT 163 3 162,
 oG 164 4 .move [1] 163 true,
 ⟨(some 165),5,(.bin .lss),[.t 164,.c (.int .i32 (128))],(some (163,true))⟩,
 ⟨(some 166),6,.pick,[.t 163,.t 165,.c (.bool false)],none⟩,
 mT 160 7 166])
 (.cond (.t 160) (.seq (.region [mT 167 8 0,
 mT 168 9 1,
 oT 169 10 (.conv (.int .u8)) [168],
 oT 170 11 (.call false 74) [167,169],
 mT 4 15 170])
 (.ret)) (.seq (.region [mT 172 16 1,
 ⟨(some 173),17,(.bin .eql),[.t 172,.c (.int .i32 (65533))],none⟩,
 mT 171 18 173])
 (.cond (.t 171) (.seq (.seq (.region [mT 174 19 0,
 oT 175 20 .iterStr [174]])
 (.block 9 (.loopT Int (f73.S0 a) 21 31 (.seq (.region [oT 176 21 .nextStr [175],
 oT 177 22 (.extract 0) [176]])
 (.seq (.cond (.t 177) (.skip) (.exit 9))
 (.block 10 (.seq (.region [oT 178 23 (.extract 1) [176],
 oT 179 24 (.extract 2) [176],
 mT 5 25 178,
 mT 6 26 179])
 (.seq (.region [mT 180 27 6,
 ⟨(some 181),28,(.bin .eql),[.t 180,.c (.int .i32 (65533))],none⟩])
 (.cond (.t 181) (.seq (.region [mT 182 29 5,
 mT 4 30 182])
 (.ret)) (.skip))))))))))
 (.seq (.region [⟨(some 4),31,.move,[.c (.int .i64 (-1))],none⟩])
 (.ret))) (.seq (.region [mT 184 32 1,
 oT 185 33 (.call false 75) [184],
 oT 186 37 (.un .not) [185],
 mT 183 38 186])
 (.cond (.t 183) (.seq (.region [⟨(some 4),39,.move,[.c (.int .i64 (-1))],none⟩])
 (.ret)) (.seq (.region [mT 17 40 1,
 oT 18 41 (.conv .r2s) [17],
 mT 7 42 18])
 (.seq (.region [mT 19 43 7,
 oT 20 44 (.len true) [19],
 ⟨(some 21),45,(.bin .sub),[.t 20,.c (.int .i64 (1))],none⟩,
 mT 8 46 21])
 (.seq (.region [mT 22 47 8,
 mT 9 48 22])
 (.seq (.region [⟨(some 10),49,.move,[.c (.int .i64 (0))],none⟩])
 (.seq (.block 1 (.loop 1 [1,2,3,4,5,6,10,11,12,13,14,15,16,17,18,19,20,21,22,23,24,25,26,27,28,29,30,31,32,33,34,35,36,37,38,39,40,41,42,43,44,45,46,47,48,49,50,51,52,53,54,55,56,57,58,59,60,61,62,63,64,65,66,67,68,69,70,71,72,73,74,75,76,77,78,79,80,81,82,83,84,85,86,87,88,89,90,91,92,93,94,95,96,97,98,99,100,101,102,103,104,105,106,107,108,109,110,111,112,113,114,115,116,117,118,119,120,121,122,123,124,125,126,127,128,129,130,131,132,133,134,135,136,137,138,139,140,141,142,143,144,145,146,147,148,149,150,151,152,153,154,155,156,157,158,159,160,161,162,163,164,165,166,167,168,169,170,171,172,173,174,175,176,177,178,179,180,181,182,183,184,185,186] [] [] 50 140 (.seq (.seq (.region [mT 23 50 9,
 mT 24 51 0,
 oT 25 52 (.len true) [24],
 oT 26 53 (.bin .lss) [23,25]])
 (.cond (.t 26) (.skip) (.exit 1)))
 (.block 2 (.seq (.seq (.region [mT 27 54 0,
 mT 28 55 9,
 oT 29 56 .indexStr [27,28],
 mT 30 57 7,
 mT 31 58 8,
 oT 32 59 .indexStr [30,31],
 oT 33 60 (.bin .neq) [29,32]])
 (.cond (.t 33) (.seq (.region [mT 34 61 0,
 mT 35 62 9,
 ⟨(some 36),63,(.bin .add),[.t 35,.c (.int .i64 (1))],none⟩,
 oT 37 64 (.sliceStr true false) [34,36],
 mT 38 65 7,
 mT 39 66 8,
 oT 40 67 .indexStr [38,39],
 oT 41 68 (.call false 74) [37,40],
 mT 11 72 41])
 (.seq (.seq (.region [mT 42 73 11,
 ⟨(some 43),74,(.bin .lss),[.t 42,.c (.int .i64 (0))],none⟩])
 (.cond (.t 43) (.seq (.region [⟨(some 4),75,.move,[.c (.int .i64 (-1))],none⟩])
 (.ret)) (.skip)))
 (.region [mT 44 76 9,
 mT 45 77 11,
 ⟨(some 46),78,(.bin .add),[.t 45,.c (.int .i64 (1))],none⟩,
 oT 47 79 (.bin .add) [44,46],
 mT 9 80 47]))) (.skip)))
 (.seq (.cut Unit (fun x=>⟨[],[],[]⟩)) (.seq (.seq (.region [⟨(some 12),81,.move,[.c (.int .i64 (1))],none⟩])
 (.block 3 (.loop 0 [] [] [] 82 100 (.seq (.seq (.region [mT 48 82 12,
 mT 49 83 7,
 oT 50 84 (.len true) [49],
 oT 51 85 (.bin .lss) [48,50]])
 (.cond (.t 51) (.skip) (.exit 3)))
 (.seq (.block 4 (.seq (.region [mT 54 86 0,
 mT 55 87 9,
 mT 56 88 12,
 oT 57 89 (.bin .sub) [55,56],
 oT 58 90 .indexStr [54,57],
 mT 59 91 7,
 mT 60 92 8,
 mT 61 93 12,
 oT 62 94 (.bin .sub) [60,61],
 oT 63 95 .indexStr [59,62],
 oT 64 96 (.bin .neq) [58,63]])
 (.cond (.t 64) (.stuck) (.skip))))
 (.region [mT 52 97 12,
 ⟨(some 53),98,(.bin .add),[.t 52,.c (.int .i64 (1))],none⟩,
 mT 12 99 53]))))))
 (.seq (.seq (.region [mT 65 100 9,
 mT 66 101 8,
 oT 67 102 (.bin .sub) [65,66],
 mT 4 103 67])
 (.ret))
 (.seq (.skip)
 (.seq (.region [mT 68 104 10,
 ⟨(some 69),105,(.bin .add),[.t 68,.c (.int .i64 (1))],none⟩,
 mT 10 106 69])
 (.seq (.region [mT 70 107 9,
 ⟨(some 71),108,(.bin .add),[.t 70,.c (.int .i64 (1))],none⟩,
 mT 9 109 71])
 (.seq (.region [⟨(some 72),110,.move,[.c (.bool true)],none⟩,
 oG 73 111 .move [10] 72 true,
 oG 74 112 .move [9] 72 true,
 oG 75 113 (.call false 76) [74] 72 true,
 oG 76 117 (.bin .gtr) [73,75] 72 true,
 ⟨(some 77),118,.pick,[.t 72,.t 76,.c (.bool false)],none⟩,
 mT 78 119 77,
 oG 79 120 .move [9] 78 true,
 oG 80 121 .move [0] 78 true,
 oG 81 122 (.len true) [80] 78 true,
 oG 82 123 (.bin .lss) [79,81] 78 true,
 ⟨(some 83),124,.pick,[.t 78,.t 82,.c (.bool false)],none⟩,
 mT 84 125 83,
 ⟨(some 85),126,.move,[.c (.bool false)],(some (84,false))⟩,
 oG 86 127 .move [10] 85 true,
 oG 87 128 .move [9] 85 true,
 ⟨(some 88),129,(.bin .shr),[.t 87,.c (.int .u64 (4))],(some (85,true))⟩,
 ⟨(some 89),130,(.bin .add),[.c (.int .i64 (4)),.t 88],(some (85,true))⟩,
 oG 90 131 (.bin .geq) [86,89] 85 true,
 ⟨(some 91),132,.pick,[.t 85,.t 90,.c (.bool false)],(some (84,false))⟩,
 oG 92 133 .move [91] 84 false,
 oG 93 134 .move [9] 92 true,
 oG 94 135 .move [0] 92 true,
 oG 95 136 (.len true) [94] 92 true,
 oG 96 137 (.bin .lss) [93,95] 92 true,
 ⟨(some 97),138,.pick,[.t 92,.t 96,.c (.bool false)],(some (84,false))⟩,
 ⟨(some 98),139,.pick,[.t 84,.c (.bool true),.t 97],none⟩])
 (.cond (.t 98) (.stuck) (.skip))))))))))))))
 (.seq (.seq (.region [⟨(some 4),140,.move,[.c (.int .i64 (-1))],none⟩])
 (.ret))
 (.seq (.skip)
 (.seq (.cond (.c (.bool true)) (.seq (.region [mT 99 141 0,
 mT 100 142 9,
 mT 101 143 8,
 oT 102 144 (.bin .sub) [100,101],
 oT 103 145 (.sliceStr true false) [99,102],
 mT 104 146 1,
 oT 105 147 (.conv .r2s) [104],
 oT 106 148 (.call false 77) [103,105],
 mT 13 152 106])
 (.seq (.region [mT 107 153 13,
 ⟨(some 108),154,(.bin .geq),[.t 107,.c (.int .i64 (0))],none⟩])
 (.cond (.t 108) (.seq (.region [mT 109 155 9,
 mT 110 156 13,
 oT 111 157 (.bin .add) [109,110],
 mT 112 158 8,
 oT 113 159 (.bin .sub) [111,112],
 mT 4 160 113])
 (.ret)) (.skip)))) (.seq (.region [mT 114 161 7,
 mT 115 162 8,
 oT 116 163 .indexStr [114,115],
 mT 14 164 116])
 (.seq (.region [mT 117 165 7,
 mT 118 166 8,
 ⟨(some 119),167,(.bin .sub),[.t 118,.c (.int .i64 (1))],none⟩,
 oT 120 168 .indexStr [117,119],
 mT 15 169 120])
 (.seq (.skip)
 (.block 5 (.loop 0 [] [] [] 170 213 (.seq (.seq (.region [mT 121 170 9,
 mT 122 171 0,
 oT 123 172 (.len true) [122],
 oT 124 173 (.bin .lss) [121,123]])
 (.cond (.t 124) (.skip) (.exit 5)))
 (.seq (.block 6 (.seq (.region [mT 127 174 0,
 mT 128 175 9,
 oT 129 176 .indexStr [127,128],
 mT 130 177 14,
 oT 131 178 (.bin .eql) [129,130],
 mT 132 179 131,
 oG 133 180 .move [0] 132 true,
 oG 134 181 .move [9] 132 true,
 ⟨(some 135),182,(.bin .sub),[.t 134,.c (.int .i64 (1))],(some (132,true))⟩,
 oG 136 183 .indexStr [133,135] 132 true,
 oG 137 184 .move [15] 132 true,
 oG 138 185 (.bin .eql) [136,137] 132 true,
 ⟨(some 139),186,.pick,[.t 132,.t 138,.c (.bool false)],none⟩])
 (.cond (.t 139) (.seq (.seq (.region [⟨(some 16),187,.move,[.c (.int .i64 (2))],none⟩])
 (.block 7 (.loop 0 [] [] [] 188 206 (.seq (.seq (.region [mT 140 188 16,
 mT 141 189 7,
 oT 142 190 (.len true) [141],
 oT 143 191 (.bin .lss) [140,142]])
 (.cond (.t 143) (.skip) (.exit 7)))
 (.seq (.block 8 (.seq (.region [mT 146 192 0,
 mT 147 193 9,
 mT 148 194 16,
 oT 149 195 (.bin .sub) [147,148],
 oT 150 196 .indexStr [146,149],
 mT 151 197 7,
 mT 152 198 8,
 mT 153 199 16,
 oT 154 200 (.bin .sub) [152,153],
 oT 155 201 .indexStr [151,154],
 oT 156 202 (.bin .neq) [150,155]])
 (.cond (.t 156) (.exit 6) (.skip))))
 (.region [mT 144 203 16,
 ⟨(some 145),204,(.bin .add),[.t 144,.c (.int .i64 (1))],none⟩,
 mT 16 205 145]))))))
 (.seq (.region [mT 157 206 9,
 mT 158 207 8,
 oT 159 208 (.bin .sub) [157,158],
 mT 4 209 159])
 (.ret))) (.skip))))
 (.region [mT 125 210 9,
 ⟨(some 126),211,(.bin .add),[.t 125,.c (.int .i64 (1))],none⟩,
 mT 9 212 126])))))))))
 (.seq (.region [⟨(some 4),213,.move,[.c (.int .i64 (-1))],none⟩])
 (.ret))))))))))))))))))
 [.tmp 4] 0 185
def f73.env:Env:=[(74,f74.C),(75,f75.C)]
def f73.tree (a:ByteArray×Int):Prop:=Br (decide ((0:Int)≤a.2)) (Br (decide (a.2 < (128:Int))) (∃ c5:ByteArray×Int,(a.1=c5.1)∧((IntKind.u8.wrap a.2)=c5.2)∧True∧((ixB c5)=(cA a))∧True) (Br (a.2==(65533:Int)) (∃ (I11:Int→Prop) (μ12:Int→Nat),(∃ x10:Int,(a.1=a.1)∧((0:Int)=x10)∧I11 x10)∧∀ y13:Int,I11 y13→(Br (decide ((0:Int)≤y13)&&decide (y13 < (a.1.size:Int))) (Br (((Utf8.decode a.1 (Int.toNat y13)).1:Int)==(65533:Int)) ((y13=(cA a))∧True) (∃ x19:Int,(a.1=a.1)∧((y13+((Utf8.decode a.1 (Int.toNat y13)).2:Int))=x19)∧I11 x19∧μ12 x19 < μ12 y13)) (((-1:Int)=(cA a))∧True))) (∃ c29:Int,(a.2=c29)∧True∧Br (!((fun r:Int=>decide (0≤r∧r < 55296∨57343 < r∧r≤1114111)) c29)) (((-1:Int)=(cA a))∧True) (Let (wI (((Utf8.encode a.2).size:Int) - (1:Int))) (fun v33:Int=>Br (decide (v33 < (a.1.size:Int))) (Br (decide ((0:Int)≤v33)&&decide (v33 < (a.1.size:Int))) (Br (decide ((0:Int)≤v33)&&decide (v33 < ((Utf8.encode a.2).size:Int))) (Br ((bAt a.1 v33) != (bAt (Utf8.encode a.2) v33)) (Let (wI (v33+(1:Int))) (fun v40:Int=>Br (decide ((0:Int)≤v40)&&decide (v40≤(a.1.size:Int))&&decide ((a.1.size:Int)≤(a.1.size:Int))) (Br (decide ((0:Int)≤v33)&&decide (v33 < ((Utf8.encode a.2).size:Int))) (∃ c43:ByteArray×Int,((hY a.1 v40 (a.1.size:Int))=c43.1)∧((bAt (Utf8.encode a.2) v33)=c43.2)∧True∧Br (decide ((ixB c43) < (0:Int))) (((-1:Int)=(cA a))∧True) (Let (wI ((ixB c43)+(1:Int))) (fun v47:Int=>Let (wI (v33+v47)) (fun v48:Int=>∃ x:Unit,False)))) False) False)) (∃ x:Unit,False)) False) False) (((-1:Int)=(cA a))∧True)))))) (Br (a.2==(65533:Int)) (∃ (I83:Int→Prop) (μ84:Int→Nat),(∃ x82:Int,(a.1=a.1)∧((0:Int)=x82)∧I83 x82)∧∀ y85:Int,I83 y85→(Br (decide ((0:Int)≤y85)&&decide (y85 < (a.1.size:Int))) (Br (((Utf8.decode a.1 (Int.toNat y85)).1:Int)==(65533:Int)) ((y85=(cA a))∧True) (∃ x91:Int,(a.1=a.1)∧((y85+((Utf8.decode a.1 (Int.toNat y85)).2:Int))=x91)∧I83 x91∧μ84 x91 < μ84 y85)) (((-1:Int)=(cA a))∧True))) (∃ c101:Int,(a.2=c101)∧True∧Br (!((fun r:Int=>decide (0≤r∧r < 55296∨57343 < r∧r≤1114111)) c101)) (((-1:Int)=(cA a))∧True) (Let (wI (((Utf8.encode a.2).size:Int) - (1:Int))) (fun v105:Int=>Br (decide (v105 < (a.1.size:Int))) (Br (decide ((0:Int)≤v105)&&decide (v105 < (a.1.size:Int))) (Br (decide ((0:Int)≤v105)&&decide (v105 < ((Utf8.encode a.2).size:Int))) (Br ((bAt a.1 v105) != (bAt (Utf8.encode a.2) v105)) (Let (wI (v105+(1:Int))) (fun v112:Int=>Br (decide ((0:Int)≤v112)&&decide (v112≤(a.1.size:Int))&&decide ((a.1.size:Int)≤(a.1.size:Int))) (Br (decide ((0:Int)≤v105)&&decide (v105 < ((Utf8.encode a.2).size:Int))) (∃ c115:ByteArray×Int,((hY a.1 v112 (a.1.size:Int))=c115.1)∧((bAt (Utf8.encode a.2) v105)=c115.2)∧True∧Br (decide ((ixB c115) < (0:Int))) (((-1:Int)=(cA a))∧True) (Let (wI ((ixB c115)+(1:Int))) (fun v119:Int=>Let (wI (v105+v119)) (fun v120:Int=>∃ x:Unit,False)))) False) False)) (∃ x:Unit,False)) False) False) (((-1:Int)=(cA a))∧True)))))
def f73.vc (a:ByteArray×Int):Prop:=(((0:Int)≤a.2→((a.2 < (128:Int)→((ixB (a.1,IntKind.u8.wrap a.2))=cA a))∧(¬(a.2 < (128:Int))→((a.2=(65533:Int)→(∃ (I11:Int→Prop) (μ12:Int→Nat),I11 (0:Int)∧∀ y13:Int,I11 y13→(((0:Int)≤y13∧y13 < (a.1.size:Int)→((((Utf8.decode a.1 (Int.toNat y13)).1:Int)=(65533:Int)→(y13=cA a))∧(¬(((Utf8.decode a.1 (Int.toNat y13)).1:Int)=(65533:Int))→(I11 (y13+((Utf8.decode a.1 (Int.toNat y13)).2:Int))∧μ12 (y13+((Utf8.decode a.1 (Int.toNat y13)).2:Int)) < μ12 y13))))∧(¬((0:Int)≤y13∧y13 < (a.1.size:Int))→((-1:Int)=cA a)))))∧(¬(a.2=(65533:Int))→((¬(((fun r:Int=>decide (0≤r∧r < 55296∨57343 < r∧r≤1114111)) (a.2))=true)→((-1:Int)=cA a))∧(¬(¬(((fun r:Int=>decide (0≤r∧r < 55296∨57343 < r∧r≤1114111)) (a.2))=true))→(-9223372036854775808≤(((Utf8.encode a.2).size:Int) - (1:Int))∧(((Utf8.encode a.2).size:Int) - (1:Int))≤9223372036854775807∧(((((Utf8.encode a.2).size:Int) - (1:Int)) < (a.1.size:Int)→((0:Int)≤(((Utf8.encode a.2).size:Int) - (1:Int))∧(((Utf8.encode a.2).size:Int) - (1:Int)) < (a.1.size:Int)∧((0:Int)≤(((Utf8.encode a.2).size:Int) - (1:Int))∧(((Utf8.encode a.2).size:Int) - (1:Int)) < ((Utf8.encode a.2).size:Int)∧((¬(bAt a.1 (((Utf8.encode a.2).size:Int) - (1:Int)))=(bAt (Utf8.encode a.2) (((Utf8.encode a.2).size:Int) - (1:Int)))→(-9223372036854775808≤((((Utf8.encode a.2).size:Int) - (1:Int))+(1:Int))∧((((Utf8.encode a.2).size:Int) - (1:Int))+(1:Int))≤9223372036854775807∧((0:Int)≤((((Utf8.encode a.2).size:Int) - (1:Int))+(1:Int))∧((((Utf8.encode a.2).size:Int) - (1:Int))+(1:Int))≤(a.1.size:Int)∧((0:Int)≤(((Utf8.encode a.2).size:Int) - (1:Int))∧(((Utf8.encode a.2).size:Int) - (1:Int)) < ((Utf8.encode a.2).size:Int)∧(((ixB (hY a.1 ((((Utf8.encode a.2).size:Int) - (1:Int))+(1:Int)) (a.1.size:Int),bAt (Utf8.encode a.2) (((Utf8.encode a.2).size:Int) - (1:Int)))) < (0:Int)→((-1:Int)=cA a))∧(¬((ixB (hY a.1 ((((Utf8.encode a.2).size:Int) - (1:Int))+(1:Int)) (a.1.size:Int),bAt (Utf8.encode a.2) (((Utf8.encode a.2).size:Int) - (1:Int)))) < (0:Int))→(-9223372036854775808≤((ixB (hY a.1 ((((Utf8.encode a.2).size:Int) - (1:Int))+(1:Int)) (a.1.size:Int),bAt (Utf8.encode a.2) (((Utf8.encode a.2).size:Int) - (1:Int))))+(1:Int))∧((ixB (hY a.1 ((((Utf8.encode a.2).size:Int) - (1:Int))+(1:Int)) (a.1.size:Int),bAt (Utf8.encode a.2) (((Utf8.encode a.2).size:Int) - (1:Int))))+(1:Int))≤9223372036854775807∧(-9223372036854775808≤((((Utf8.encode a.2).size:Int) - (1:Int))+((ixB (hY a.1 ((((Utf8.encode a.2).size:Int) - (1:Int))+(1:Int)) (a.1.size:Int),bAt (Utf8.encode a.2) (((Utf8.encode a.2).size:Int) - (1:Int))))+(1:Int)))∧((((Utf8.encode a.2).size:Int) - (1:Int))+((ixB (hY a.1 ((((Utf8.encode a.2).size:Int) - (1:Int))+(1:Int)) (a.1.size:Int),bAt (Utf8.encode a.2) (((Utf8.encode a.2).size:Int) - (1:Int))))+(1:Int)))≤9223372036854775807∧False))))))))∧(¬(¬(bAt a.1 (((Utf8.encode a.2).size:Int) - (1:Int)))=(bAt (Utf8.encode a.2) (((Utf8.encode a.2).size:Int) - (1:Int))))→False)))))∧(¬((((Utf8.encode a.2).size:Int) - (1:Int)) < (a.1.size:Int))→((-1:Int)=cA a)))))))))))∧(¬((0:Int)≤a.2)→((a.2=(65533:Int)→(∃ (I83:Int→Prop) (μ84:Int→Nat),I83 (0:Int)∧∀ y85:Int,I83 y85→(((0:Int)≤y85∧y85 < (a.1.size:Int)→((((Utf8.decode a.1 (Int.toNat y85)).1:Int)=(65533:Int)→(y85=cA a))∧(¬(((Utf8.decode a.1 (Int.toNat y85)).1:Int)=(65533:Int))→(I83 (y85+((Utf8.decode a.1 (Int.toNat y85)).2:Int))∧μ84 (y85+((Utf8.decode a.1 (Int.toNat y85)).2:Int)) < μ84 y85))))∧(¬((0:Int)≤y85∧y85 < (a.1.size:Int))→((-1:Int)=cA a)))))∧(¬(a.2=(65533:Int))→((¬(((fun r:Int=>decide (0≤r∧r < 55296∨57343 < r∧r≤1114111)) (a.2))=true)→((-1:Int)=cA a))∧(¬(¬(((fun r:Int=>decide (0≤r∧r < 55296∨57343 < r∧r≤1114111)) (a.2))=true))→(-9223372036854775808≤(((Utf8.encode a.2).size:Int) - (1:Int))∧(((Utf8.encode a.2).size:Int) - (1:Int))≤9223372036854775807∧(((((Utf8.encode a.2).size:Int) - (1:Int)) < (a.1.size:Int)→((0:Int)≤(((Utf8.encode a.2).size:Int) - (1:Int))∧(((Utf8.encode a.2).size:Int) - (1:Int)) < (a.1.size:Int)∧((0:Int)≤(((Utf8.encode a.2).size:Int) - (1:Int))∧(((Utf8.encode a.2).size:Int) - (1:Int)) < ((Utf8.encode a.2).size:Int)∧((¬(bAt a.1 (((Utf8.encode a.2).size:Int) - (1:Int)))=(bAt (Utf8.encode a.2) (((Utf8.encode a.2).size:Int) - (1:Int)))→(-9223372036854775808≤((((Utf8.encode a.2).size:Int) - (1:Int))+(1:Int))∧((((Utf8.encode a.2).size:Int) - (1:Int))+(1:Int))≤9223372036854775807∧((0:Int)≤((((Utf8.encode a.2).size:Int) - (1:Int))+(1:Int))∧((((Utf8.encode a.2).size:Int) - (1:Int))+(1:Int))≤(a.1.size:Int)∧((0:Int)≤(((Utf8.encode a.2).size:Int) - (1:Int))∧(((Utf8.encode a.2).size:Int) - (1:Int)) < ((Utf8.encode a.2).size:Int)∧(((ixB (hY a.1 ((((Utf8.encode a.2).size:Int) - (1:Int))+(1:Int)) (a.1.size:Int),bAt (Utf8.encode a.2) (((Utf8.encode a.2).size:Int) - (1:Int)))) < (0:Int)→((-1:Int)=cA a))∧(¬((ixB (hY a.1 ((((Utf8.encode a.2).size:Int) - (1:Int))+(1:Int)) (a.1.size:Int),bAt (Utf8.encode a.2) (((Utf8.encode a.2).size:Int) - (1:Int)))) < (0:Int))→(-9223372036854775808≤((ixB (hY a.1 ((((Utf8.encode a.2).size:Int) - (1:Int))+(1:Int)) (a.1.size:Int),bAt (Utf8.encode a.2) (((Utf8.encode a.2).size:Int) - (1:Int))))+(1:Int))∧((ixB (hY a.1 ((((Utf8.encode a.2).size:Int) - (1:Int))+(1:Int)) (a.1.size:Int),bAt (Utf8.encode a.2) (((Utf8.encode a.2).size:Int) - (1:Int))))+(1:Int))≤9223372036854775807∧(-9223372036854775808≤((((Utf8.encode a.2).size:Int) - (1:Int))+((ixB (hY a.1 ((((Utf8.encode a.2).size:Int) - (1:Int))+(1:Int)) (a.1.size:Int),bAt (Utf8.encode a.2) (((Utf8.encode a.2).size:Int) - (1:Int))))+(1:Int)))∧((((Utf8.encode a.2).size:Int) - (1:Int))+((ixB (hY a.1 ((((Utf8.encode a.2).size:Int) - (1:Int))+(1:Int)) (a.1.size:Int),bAt (Utf8.encode a.2) (((Utf8.encode a.2).size:Int) - (1:Int))))+(1:Int)))≤9223372036854775807∧False))))))))∧(¬(¬(bAt a.1 (((Utf8.encode a.2).size:Int) - (1:Int)))=(bAt (Utf8.encode a.2) (((Utf8.encode a.2).size:Int) - (1:Int))))→False)))))∧(¬((((Utf8.encode a.2).size:Int) - (1:Int)) < (a.1.size:Int))→((-1:Int)=cA a))))))))))
theorem f73.of (a:ByteArray×Int) (h:f73.vc a):f73.tree a:=br h Cnd.dec (fun h1 k150=>br k150 Cnd.dec (fun h3 k78=>⟨(a.1,IntKind.u8.wrap a.2),⟨rfl,⟨rfl,⟨trivial,⟨k78,trivial⟩⟩⟩⟩⟩) (fun h4 k79=>br k79 Cnd.eq (fun h8 k76=>Exists.elim k76 (fun I11 h26_=>Exists.elim h26_ (fun μ12 h26=>⟨I11,μ12,⟨(0:Int),⟨rfl,⟨rfl,h26.1⟩⟩⟩,fun y13 h28=>br (h26.2 y13 h28) Cnd.ix (fun h14 k24=>br k24 Cnd.eq (fun h16 k21=>⟨k21,trivial⟩) (fun h17 k22=>⟨y13+((Utf8.decode a.1 (Int.toNat y13)).2:Int),⟨rfl,⟨rfl,k22⟩⟩⟩)) (fun h15 k25=>⟨k25,trivial⟩)⟩))) (fun h9 k77=>⟨a.2,⟨rfl,⟨trivial,br k77 (Cnd.not Cnd.b) (fun h30 k73=>⟨k73,trivial⟩) (fun h31 k74=>wrapK.i64 k74 (fun h70 h71 k72=>br k72 Cnd.dec (fun h34 k68=>chk k68.2.2 Cnd.ix ⟨k68.1,k68.2.1⟩ (fun h36 k66=>chk k66.2.2 Cnd.ix ⟨k66.1,k66.2.1⟩ (fun h37 k65=>br k65 Cnd.ne (fun h38 k63=>wrapK.i64 k63 (fun h60 h61 k62=>chk k62.2.2 Cnd.ss ⟨k62.1,k62.2.1,(Int.le_refl _)⟩ (fun h41 k59=>chk k59.2.2 Cnd.ix ⟨k59.1,k59.2.1⟩ (fun h42 k58=>⟨(hY a.1 ((((Utf8.encode a.2).size:Int) - (1:Int))+(1:Int)) (a.1.size:Int),bAt (Utf8.encode a.2) (((Utf8.encode a.2).size:Int) - (1:Int))),⟨rfl,⟨rfl,⟨trivial,br k58 Cnd.dec (fun h44 k55=>⟨k55,trivial⟩) (fun h45 k56=>wrapK.i64 k56 (fun h52 h53 k54=>wrapK.i64 k54 (fun h49 h50 k51=>False.elim (k51))))⟩⟩⟩⟩)))) (fun h39 k64=>False.elim (k64))))) (fun h35 k69=>⟨k69,trivial⟩)))⟩⟩⟩))) (fun h2 k151=>br k151 Cnd.eq (fun h80 k148=>Exists.elim k148 (fun I83 h98_=>Exists.elim h98_ (fun μ84 h98=>⟨I83,μ84,⟨(0:Int),⟨rfl,⟨rfl,h98.1⟩⟩⟩,fun y85 h100=>br (h98.2 y85 h100) Cnd.ix (fun h86 k96=>br k96 Cnd.eq (fun h88 k93=>⟨k93,trivial⟩) (fun h89 k94=>⟨y85+((Utf8.decode a.1 (Int.toNat y85)).2:Int),⟨rfl,⟨rfl,k94⟩⟩⟩)) (fun h87 k97=>⟨k97,trivial⟩)⟩))) (fun h81 k149=>⟨a.2,⟨rfl,⟨trivial,br k149 (Cnd.not Cnd.b) (fun h102 k145=>⟨k145,trivial⟩) (fun h103 k146=>wrapK.i64 k146 (fun h142 h143 k144=>br k144 Cnd.dec (fun h106 k140=>chk k140.2.2 Cnd.ix ⟨k140.1,k140.2.1⟩ (fun h108 k138=>chk k138.2.2 Cnd.ix ⟨k138.1,k138.2.1⟩ (fun h109 k137=>br k137 Cnd.ne (fun h110 k135=>wrapK.i64 k135 (fun h132 h133 k134=>chk k134.2.2 Cnd.ss ⟨k134.1,k134.2.1,(Int.le_refl _)⟩ (fun h113 k131=>chk k131.2.2 Cnd.ix ⟨k131.1,k131.2.1⟩ (fun h114 k130=>⟨(hY a.1 ((((Utf8.encode a.2).size:Int) - (1:Int))+(1:Int)) (a.1.size:Int),bAt (Utf8.encode a.2) (((Utf8.encode a.2).size:Int) - (1:Int))),⟨rfl,⟨rfl,⟨trivial,br k130 Cnd.dec (fun h116 k127=>⟨k127,trivial⟩) (fun h117 k128=>wrapK.i64 k128 (fun h124 h125 k126=>wrapK.i64 k126 (fun h121 h122 k123=>False.elim (k123))))⟩⟩⟩⟩)))) (fun h111 k136=>False.elim (k136))))) (fun h107 k141=>⟨k141,trivial⟩)))⟩⟩⟩))
theorem f73.eq (a:ByteArray×Int):(f73.af a).gives f73.env (f73.args a) (f73.blks a) (f73.res a) (f73.blks' a)=f73.tree a:=by kernel_rfl
def f78.args (a:ByteArray×Int):List D:=[.str a.1,.int .u8 a.2]
def f78.blks (a:ByteArray×Int):List (List D):=[]
def f78.res (a:ByteArray×Int):List D:=[.int .i64 (ixB a)]
def f78.blks' (a:ByteArray×Int):List (List D):=[]
def f78.C:aK:=FnC f78.args f78.blks (fun _=>True) f78.res f78.blks'
def f74.kills (a:ByteArray×Int):List Hint:=[]
def f74.cuts (a:ByteArray×Int):List (Nat×Σ β:Type,β→Tm):=[]
def f74.af (a:ByteArray×Int):AF:=AF.mk (.seq (.region [⟨(some 4),0,.move,[.c (.int .i64 (0))],none⟩])
 (.seq (.region [mT 5 1 0,
 mT 6 2 1,
 oT 7 3 (.call false 78) [5,6],
 mT 4 7 7])
 (.ret)))
 [.tmp 4] 0 6
def f74.env:Env:=[(78,f78.C)]
def f74.tree (a:ByteArray×Int):Prop:=∃ c1:ByteArray×Int,(a.1=c1.1)∧(a.2=c1.2)∧True∧((ixB c1)=(ixB a))∧True
def f74.vc (a:ByteArray×Int):Prop:=((ixB (a.1,a.2))=ixB a)
theorem f74.of (a:ByteArray×Int) (h:f74.vc a):f74.tree a:=⟨(a.1,a.2),⟨rfl,⟨rfl,⟨trivial,⟨h,trivial⟩⟩⟩⟩⟩
theorem f74.eq (a:ByteArray×Int):(f74.af a).gives f74.env (f74.args a) (f74.blks a) (f74.res a) (f74.blks' a)=f74.tree a:=by kernel_rfl
def f75.kills (a:Int):List Hint:=[]
def f75.cuts (a:Int):List (Nat×Σ β:Type,β→Tm):=[]
def f75.af (a:Int):AF:=AF.mk (.seq (.region [⟨(some 2),0,.move,[.c (.bool false)],none⟩])
 (.seq (.block 0 (.seq (.region [mT 4 1 0,
 ⟨(some 5),2,(.bin .leq),[.c (.int .i32 (0)),.t 4],none⟩,
 mT 6 3 5,
 oG 7 4 .move [0] 6 true,
 ⟨(some 8),5,(.bin .lss),[.t 7,.c (.int .i32 (55296))],(some (6,true))⟩,
 ⟨(some 9),6,.pick,[.t 6,.t 8,.c (.bool false)],none⟩,
 mT 3 7 9])
 (.cond (.t 3) (.seq (.region [⟨(some 2),8,.move,[.c (.bool true)],none⟩])
 (.ret)) (.seq (.region [mT 11 9 0,
 ⟨(some 12),10,(.bin .lss),[.c (.int .i32 (57343)),.t 11],none⟩,
 mT 13 11 12,
 oG 14 12 .move [0] 13 true,
 ⟨(some 15),13,(.bin .leq),[.t 14,.c (.int .i32 (1114111))],(some (13,true))⟩,
 ⟨(some 16),14,.pick,[.t 13,.t 15,.c (.bool false)],none⟩,
 mT 10 15 16])
 (.cond (.t 10) (.seq (.region [⟨(some 2),16,.move,[.c (.bool true)],none⟩])
 (.ret)) (.skip))))))
 (.seq (.region [⟨(some 2),17,.move,[.c (.bool false)],none⟩])
 (.ret))))
 [.tmp 2] 0 16
def f75.env:Env:=[]
def f75.tree (a:Int):Prop:=Br (decide ((0:Int)≤a)) (Br (decide (a < (55296:Int))) ((true=((fun r:Int=>decide (0≤r∧r < 55296∨57343 < r∧r≤1114111)) a))∧True) (Br (decide ((57343:Int) < a)) (Br (decide (a≤(1114111:Int))) ((true=((fun r:Int=>decide (0≤r∧r < 55296∨57343 < r∧r≤1114111)) a))∧True) ((false=((fun r:Int=>decide (0≤r∧r < 55296∨57343 < r∧r≤1114111)) a))∧True)) ((false=((fun r:Int=>decide (0≤r∧r < 55296∨57343 < r∧r≤1114111)) a))∧True))) (Br (decide ((57343:Int) < a)) (Br (decide (a≤(1114111:Int))) ((true=((fun r:Int=>decide (0≤r∧r < 55296∨57343 < r∧r≤1114111)) a))∧True) ((false=((fun r:Int=>decide (0≤r∧r < 55296∨57343 < r∧r≤1114111)) a))∧True)) ((false=((fun r:Int=>decide (0≤r∧r < 55296∨57343 < r∧r≤1114111)) a))∧True))
def f75.vc (a:Int):Prop:=(((0:Int)≤a→((a < (55296:Int)→(true=(fun r:Int=>decide (0≤r∧r < 55296∨57343 < r∧r≤1114111)) a))∧(¬(a < (55296:Int))→(((57343:Int) < a→((a≤(1114111:Int)→(true=(fun r:Int=>decide (0≤r∧r < 55296∨57343 < r∧r≤1114111)) a))∧(¬(a≤(1114111:Int))→(false=(fun r:Int=>decide (0≤r∧r < 55296∨57343 < r∧r≤1114111)) a))))∧(¬((57343:Int) < a)→(false=(fun r:Int=>decide (0≤r∧r < 55296∨57343 < r∧r≤1114111)) a))))))∧(¬((0:Int)≤a)→(((57343:Int) < a→((a≤(1114111:Int)→(true=(fun r:Int=>decide (0≤r∧r < 55296∨57343 < r∧r≤1114111)) a))∧(¬(a≤(1114111:Int))→(false=(fun r:Int=>decide (0≤r∧r < 55296∨57343 < r∧r≤1114111)) a))))∧(¬((57343:Int) < a)→(false=(fun r:Int=>decide (0≤r∧r < 55296∨57343 < r∧r≤1114111)) a)))))
theorem f75.of (a:Int) (h:f75.vc a):f75.tree a:=br h Cnd.dec (fun h1 k30=>br k30 Cnd.dec (fun h3 k17=>⟨k17,trivial⟩) (fun h4 k18=>br k18 Cnd.dec (fun h6 k15=>br k15 Cnd.dec (fun h8 k12=>⟨k12,trivial⟩) (fun h9 k13=>⟨k13,trivial⟩)) (fun h7 k16=>⟨k16,trivial⟩))) (fun h2 k31=>br k31 Cnd.dec (fun h19 k28=>br k28 Cnd.dec (fun h21 k25=>⟨k25,trivial⟩) (fun h22 k26=>⟨k26,trivial⟩)) (fun h20 k29=>⟨k29,trivial⟩))
theorem f75.eq (a:Int):(f75.af a).gives f75.env (f75.args a) (f75.blks a) (f75.res a) (f75.blks' a)=f75.tree a:=by kernel_rfl
def f79.args (a:ByteArray×Int):List D:=[.str a.1,.int .u8 a.2]
def f79.blks (a:ByteArray×Int):List (List D):=[]
def f79.res (a:ByteArray×Int):List D:=[.int .i64 (ixB a)]
def f79.blks' (a:ByteArray×Int):List (List D):=[]
def f79.C:aK:=FnC f79.args f79.blks (fun _=>True) f79.res f79.blks'
def f78.kills (a:ByteArray×Int):List Hint:=[]
def f78.cuts (a:ByteArray×Int):List (Nat×Σ β:Type,β→Tm):=[]
def f78.af (a:ByteArray×Int):AF:=AF.mk (.seq (.region [⟨(some 4),0,.move,[.c (.int .i64 (0))],none⟩])
 (.seq (.region [mT 5 1 0,
 mT 6 2 1,
 oT 7 3 (.call false 79) [5,6],
 mT 4 7 7])
 (.ret)))
 [.tmp 4] 0 6
def f78.env:Env:=[(79,f79.C)]
def f78.tree (a:ByteArray×Int):Prop:=∃ c1:ByteArray×Int,(a.1=c1.1)∧(a.2=c1.2)∧True∧((ixB c1)=(ixB a))∧True
def f78.vc (a:ByteArray×Int):Prop:=((ixB (a.1,a.2))=ixB a)
theorem f78.of (a:ByteArray×Int) (h:f78.vc a):f78.tree a:=⟨(a.1,a.2),⟨rfl,⟨rfl,⟨trivial,⟨h,trivial⟩⟩⟩⟩⟩
theorem f78.eq (a:ByteArray×Int):(f78.af a).gives f78.env (f78.args a) (f78.blks a) (f78.res a) (f78.blks' a)=f78.tree a:=by kernel_rfl
theorem aIC {c:Int} (h0:0≤c) (h1:c≤255):IntKind.u8.wrap c=c:=fJ (by simpa [IntKind.signed] using h0) (by simp [IntKind.signed,IntKind.bits]; omega)
theorem aID {l:List UInt8} {c:UInt8} (h:∀ x∈l,x≠c):Lib.indexByte l c=-1:=by
 induction l with
 | nil=>rfl
 | cons b l ih =>
  have hb:(b==c)=false:=by simpa using h b (by simp)
  simp [Lib.indexByte,hb,ih (fun x hx=>h x (List.mem_cons_of_mem _ hx))]
theorem aG4 {l:List UInt8} {c:UInt8}:0≤Lib.indexByte l c↔c∈l:=by
 induction l with
 | nil=>simp [Lib.indexByte]
 | cons b l ih =>
  have:=Lib.indexByte_ge l c
  unfold Lib.indexByte
  by_cases hb:b=c
  ·subst hb; simp
  ·have:(b==c)=false:=by simpa using hb
   rw [this]
   simp only [Bool.false_eq_true,if_false,List.mem_cons,← ih]
   split
   ·rename_i h1
    have h1:Lib.indexByte l c=-1:=by simpa using h1
    constructor
    ·intro h; omega
    ·rintro (h | h)
     ·exact absurd h.symm hb
     ·omega
   ·rename_i h1
    have h1:¬Lib.indexByte l c=-1:=by simpa using h1
    constructor
    ·intro _; right; omega
    ·intro _; omega
theorem aG3 {s:ByteArray} {i:Int} (h0:0≤i) (h1:i < (s.size:Int)):∃ x∈s.data.toList,bAt s i=(x.toNat:Int):=by
 have h2:i.toNat < s.data.toList.length:=by rw [Array.length_toList]; show i.toNat < s.size; omega
 exact ⟨s.data.toList[i.toNat],List.getElem_mem h2,by unfold bAt; rw [cP _ _ h2]⟩
theorem aDG {s:ByteArray} {p:Nat} (h:p < s.size):((s[p]'h).toNat:Int)=bAt s (p:Int):=by
 have h2:p < s.data.toList.length:=by rw [Array.length_toList]; exact h
 unfold bAt
 rw [Int.toNat_natCast,cP _ _ h2]
 rfl
theorem aFI {r:Int} (h:128≤r) (hv:Utf8.valid r=true):1≤(Utf8.encode r).size∧(Utf8.encode r).size≤4∧128≤bAt (Utf8.encode r) (((Utf8.encode r).size:Int) - 1):=by
 have hn:¬r.toNat < 128:=by omega
 unfold Utf8.encode
 simp only [hv,if_true,hn,if_false]
 split
 ·refine ⟨Nat.le_of_ble_eq_true rfl,Nat.le_of_ble_eq_true rfl,?_⟩
  show (128:Int)≤((UInt8.ofNat (0x80+r.toNat % 64)).toNat:Int)
  simp only [UInt8.toNat_ofNat']
  omega
 ·split
  ·refine ⟨Nat.le_of_ble_eq_true rfl,Nat.le_of_ble_eq_true rfl,?_⟩
   show (128:Int)≤((UInt8.ofNat (0x80+r.toNat % 64)).toNat:Int)
   simp only [UInt8.toNat_ofNat']
   omega
  ·refine ⟨Nat.le_of_ble_eq_true rfl,Nat.le_of_ble_eq_true rfl,?_⟩
   show (128:Int)≤((UInt8.ofNat (0x80+r.toNat % 64)).toNat:Int)
   simp only [UInt8.toNat_ofNat']
   omega
theorem f74.ok (a:ByteArray×Int) (_:True):f74.vc a:=by
 exact rfl
theorem f78.ok (a:ByteArray×Int) (_:True):f78.vc a:=by
 exact rfl
theorem f75.ok (a:Int) (_:True):f75.vc a:=by
 unfold f75.vc
 refine ⟨fun h0=>⟨fun h1=>?_,fun h1=>⟨fun h2=>⟨fun h3=>?_,fun h3=>?_⟩,fun h2=>?_⟩⟩,fun h0=>⟨fun h2=>⟨fun h3=>?_,fun h3=>?_⟩,fun h2=>?_⟩⟩
 all_goals first | (symm; rw [decide_eq_true_eq]; omega) | (symm; rw [decide_eq_false_iff_not]; omega)
theorem aBL {s:ByteArray} (h:aFA s) {i:Int} (h0:0≤i) (h1:i < (s.size:Int)):bAt s i < 128:=by
 obtain ⟨x,hx,e⟩:=aG3 h0 h1
 have:=h x hx
 omega
theorem f73.ok (a:ByteArray×Int) (h:gF a):f73.vc a:=by
 obtain ⟨s,r⟩:=a
 obtain ⟨ha,hs,h0,h1⟩:=h
 simp only at ha hs h0 h1
 have hi:=u8b s
 unfold f73.vc
 simp only
 refine ⟨fun _=>⟨fun h2=>?_,fun h2=>?_⟩,fun h=>absurd h0 h⟩
 ·unfold cA
  rw [if_pos ⟨h0,h2⟩,aIC h0 (by omega)]
 ·have hr:cA (s,r)=-1:=by
   unfold cA
   rw [if_neg (by simp only; omega)]
  rw [hr]
  refine ⟨fun h3=>?_,fun h3=>⟨fun _=>rfl,fun hv=>?_⟩⟩
  ·refine ⟨fun y=>0≤y∧y≤(s.size:Int),fun y=>(s.size - y.toNat),⟨by omega,by omega⟩,fun y hy=>⟨fun hlt=>?_,fun _=>rfl⟩⟩
   have hp:y.toNat < s.size:=by omega
   have hd:=decode_ascii s y.toNat hp (by
    have:=aBL ha hlt.1 hlt.2
    rw [show y=((y.toNat:Nat):Int) from by omega,← aDG hp] at this
    omega)
   have hb:((s[y.toNat]'hp).toNat:Int) < 128:=by
    have:=aBL ha hlt.1 hlt.2
    rw [show y=((y.toNat:Nat):Int) from by omega,← aDG hp] at this
    exact this
   rw [hd]
   simp only
   refine ⟨fun h=>by omega,fun _=>⟨⟨by omega,by omega⟩,by omega⟩⟩
  ·have hval:Utf8.valid r=true:=by
    have hv:=Classical.not_not.1 hv
    rw [decide_eq_true_eq] at hv
    unfold Utf8.valid
    simp only [Bool.or_eq_true,Bool.and_eq_true,decide_eq_true_eq]
    omega
   obtain ⟨e1,e2,e3⟩:=aFI (by omega) hval
   have e4:=u8b (Utf8.encode r) (((Utf8.encode r).size:Int) - 1)
   generalize hE:Utf8.encode r=E at *
   have hno:∀ l:List UInt8,(∀ x∈l,x.toNat < 128)→Lib.indexByte l (bAt E ((E.size:Int) - 1)).toNat.toUInt8=-1:=fun l hl=>aID fun x hx e=>by
    have h5:=hl x hx
    rw [e] at h5
    simp only [Nat.toUInt8_eq,UInt8.toNat_ofNat'] at h5
    omega
   refine ⟨by omega,by omega,fun hlt=>⟨by omega,hlt,by omega,by omega,fun hne=>⟨by omega,by omega,by omega,by omega,by omega,by omega,fun _=>rfl,fun hix=>?_⟩,fun heq=>?_⟩,fun _=>rfl⟩
   ·refine absurd ?_ hix
    have:ixB (hY s ((E.size:Int) - 1+1) (s.size:Int),bAt E ((E.size:Int) - 1))=-1:=hno _ fun x hx=>ha x (by
     simp only [hY,ByteArray.data_extract,Array.toList_extract] at hx
     exact List.mem_of_mem_drop (List.mem_of_mem_take hx))
    omega
   ·have heq:=Classical.not_not.1 heq
    have:=aBL ha (i:=(E.size:Int) - 1) (by omega) hlt
    omega
theorem f71.ok (a:ByteArray×Int) (h:gF a):f71.vc a:=⟨h,rfl⟩
theorem aBS:∀ x:Fin 256,(nth f67.s0.data.toList 0 0=nth f67.s0.data.toList 0 0)∧(UInt8.ofNat x.1∈f67.s0.data.toList↔ltr (UInt8.ofNat x.1)=true):=by decide +kernel
theorem vE:aFA f67.s0:=by
 intro x hx
 have:∀ x∈f67.s0.data.toList,x.toNat < 128:=by decide +kernel
 exact this x hx
theorem f67.ok (a:Int) (h:rW a):f67.vc a:=by
 obtain ⟨h0,h1⟩:=h
 refine ⟨⟨vE,Nat.le_of_ble_eq_true rfl,h0,h1⟩,?_⟩
 unfold uT nD cA sgn
 congr 1
 by_cases h2:a < 128
 ·rw [if_pos ⟨h0,h2⟩]
  have e:((0≤a&&a < 128:Bool))=true:=by simp [h0,h2]
  rw [e,Bool.true_and]
  have:=(aBS ⟨a.toNat,by omega⟩).2
  have e2:UInt8.ofNat a.toNat=a.toNat.toUInt8:=rfl
  simp only at this
  rw [e2] at this
  unfold ixB
  simp only
  rw [Bool.eq_iff_iff,decide_eq_true_eq,aG4,this]
 ·rw [if_neg (by simp only; omega)]
  have e:((0≤a&&a < 128:Bool))=false:=by simp; omega
  rw [e,Bool.false_and]
  rfl
theorem aFG {s:ByteArray} {p:Nat} (h:p < s.size):uT ((Utf8.decode s p).1:Int)=!ltr (s[p]'h)∧(ltr (s[p]'h)=true→(Utf8.decode s p).2=1):=by
 by_cases ha:(s[p]'h).toNat < 128
 ·rw [decode_ascii s p h ha]
  refine ⟨?_,fun _=>rfl⟩
  unfold uT sgn
  have e:((0≤((s[p]'h).toNat:Int)&&((s[p]'h).toNat:Int) < 128:Bool))=true:=by simp; omega
  rw [e]
  simp
 ·obtain ⟨h1,_⟩:=decode_high s p h (by omega)
  have hl:ltr (s[p]'h)=false:=by
   cases hh:ltr (s[p]'h) with
   | false=>rfl
   | true =>
    unfold ltr at hh
    simp only [Bool.or_eq_true,Bool.and_eq_true,decide_eq_true_eq,beq_iff_eq,UInt8.le_iff_toNat_le] at hh
    rcases hh with (⟨_,hh⟩ | ⟨_,hh⟩) | hh
    ·simp at hh; omega
    ·simp at hh; omega
    ·rw [hh] at ha; simp at ha
  rw [hl]
  refine ⟨?_,fun h=>by cases h⟩
  unfold uT sgn
  have e:((0≤((Utf8.decode s p).1:Int)&&((Utf8.decode s p).1:Int) < 128:Bool))=false:=by simp; omega
  rw [e]
  rfl
theorem aBR {l:List UInt8} (h:∀ (i:Nat) (x:UInt8),l[i]? = some x→ltr x=true):pV l=-1:=by
 unfold pV
 rw [List.findIdx?_eq_none_iff.2 fun x hx=>by
  obtain ⟨i,hi⟩:=List.getElem?_of_mem hx
  simp [h i x hi]]
theorem aCF {l:List UInt8} {p:Nat} {y:UInt8} (h:∀ (i:Nat) (x:UInt8),i < p→l[i]? = some x→ltr x=true) (hy:l[p]? = some y) (hp:ltr y=false):pV l=(p:Int):=by
 have hlt:p < l.length:=(List.getElem?_eq_some_iff.1 hy).1
 unfold pV
 have:l.findIdx? (fun x=>!ltr x)=some p:=by
  rw [List.findIdx?_eq_some_iff_getElem]
  refine ⟨hlt,?_,fun j hj=>?_⟩
  ·rw [(List.getElem?_eq_some_iff.1 hy).2,hp]; rfl
  ·rw [h j _ hj (List.getElem?_eq_getElem (by omega))]; simp
 rw [this]
theorem f72.ok (a:ByteArray×Bool) (h:mU a):f72.vc a:=by
 obtain ⟨s,b⟩:=a
 obtain ⟨hs,hb⟩:=h
 simp only at hs hb
 subst hb
 have hlen:s.data.toList.length=s.size:=by rw [Array.length_toList]; rfl
 refine ⟨fun y=>0≤y∧y≤(s.size:Int)∧∀ (i:Nat) (x:UInt8),i < y.toNat→s.data.toList[i]? = some x→ltr x=true,fun y=>s.size - y.toNat,⟨by omega,by omega,fun i x hi=>by simp at hi⟩,fun y hy=>?_⟩
 obtain ⟨h0,h1,h2⟩:=hy
 refine ⟨fun hlt=>⟨⟨by omega,?_⟩,fun ho=>?_,fun ho=>?_⟩,fun hge=>?_⟩
 ·have:=Lib.rune_le s y.toNat
  simp only
  omega
 all_goals try (have hp:y.toNat < s.size:=by simp only at hlt; omega)
 ·obtain ⟨h3,_⟩:=aFG hp
  simp only [h3] at ho
  have ho:ltr (s[y.toNat]'hp)=false:=by simpa using ho
  unfold fG
  simp only
  rw [aCF h2 (y:=s[y.toNat]'hp) (by rw [List.getElem?_eq_getElem (by omega)]; rfl) ho]
  omega
 ·obtain ⟨h3,h4⟩:=aFG hp
  simp only [h3] at ho
  have ho:ltr (s[y.toNat]'hp)=true:=by simpa using ho
  simp only
  rw [h4 ho]
  refine ⟨⟨by omega,by simp only at hlt; omega,fun i x hi hx=>?_⟩,by omega⟩
  by_cases he:i=y.toNat
  ·subst he
   rw [List.getElem?_eq_getElem (by omega)] at hx
   cases hx
   exact ho
  ·exact h2 i x (by omega) hx
 ·unfold fG
  simp only
  rw [aBR fun i x hx=>h2 i x (by
   have:=(List.getElem?_eq_some_iff.1 hx).1
   simp only at hge
   omega) hx]
theorem f70.ok (a:ByteArray) (h:eI a):f70.vc a:=⟨⟨h,rfl⟩,rfl⟩
theorem f66.ok (a:ByteArray) (h:eI a):f66.vc a:=⟨h,rfl⟩
end Go.Abs
