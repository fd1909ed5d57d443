/- The law WheelSets: for every input it returns true, and the input reads as it did; where the input is of bulk at most 1048576. -/
import Derived.Test.YtfjnkkfhhalepaaRows
import Derived.JoinedCond
import Derived.KernelRfl
import Derived.Test.YtfjnkkfhhalepaaWheelSetsP4
import Derived.Test.YtfjnkkfhhalepaaWheelSetsP5
import Derived.Test.YtfjnkkfhhalepaaWheelSetsP6
import Derived.Test.YtfjnkkfhhalepaaWheelSetsP7
import Derived.Test.YtfjnkkfhhalepaaWheelSetsP8
import Derived.Test.YtfjnkkfhhalepaaWheelSetsP9
import Derived.Test.YtfjnkkfhhalepaaWheelSetsP10
import Derived.Test.YtfjnkkfhhalepaaWheelSetsP11
import Derived.Test.YtfjnkkfhhalepaaWheelSetsP12
import Derived.Test.YtfjnkkfhhalepaaWheelSetsP13
import Derived.Test.YtfjnkkfhhalepaaWheelSetsP14
import Derived.Test.YtfjnkkfhhalepaaWheelSetsP15
import Derived.Test.YtfjnkkfhhalepaaWheelSetsP16
import Derived.Test.YtfjnkkfhhalepaaWheelSetsP17
import Derived.Test.YtfjnkkfhhalepaaWheelSetsP18
import Derived.Test.YtfjnkkfhhalepaaWheelSetsP19
import Derived.Test.YtfjnkkfhhalepaaWheelSetsP20
import Derived.Test.YtfjnkkfhhalepaaWheelSetsP21
import Derived.Test.YtfjnkkfhhalepaaWheelSetsP22
import Derived.Test.YtfjnkkfhhalepaaWheelSetsP23
import Derived.Test.YtfjnkkfhhalepaaWheelSetsP24
import Derived.Test.YtfjnkkfhhalepaaWheelSetsP25
namespace Go.Proofs.Ytfjnkkfhhalepaa.wheelSets
open Go Go.Abs Go.RowKit Go.ChangeShapes
set_option linter.unusedVariables false
def ft:FT:=[(3, 269), (4, 270), (5, 271), (6, 272), (7, 273), (8, 274), (9, 329), (10, 330), (11, 333), (12, 334), (13, 335), (14, 336), (15, 293), (16, 294), (17, 295), (18, 296), (19, 297), (20, 298), (21, 299), (22, 300), (23, 301), (24, 150), (25, 302), (26, 303), (27, 304), (28, 305), (29, 306), (30, 143), (31, 145), (32, 307), (33, 163), (34, 308), (35, 192), (36, 309), (37, 148), (38, 310), (39, 261), (40, 343), (41, 344), (42, 144), (43, 146), (44, 345), (45, 165), (46, 346), (47, 149), (48, 347), (49, 262), (50, 348), (51, 328), (52, 167), (53, 164), (54, 34), (55, 131), (56, 166), (57, 168), (58, 169), (59, 170), (60, 360), (61, 193), (62, 194), (63, 45), (64, 195), (65, 196), (66, 211), (67, 212), (68, 213), (69, 214), (70, 215), (71, 216), (72, 217), (73, 218), (74, 219), (75, 220), (76, 221), (77, 228), (78, 229), (79, 230), (80, 231), (81, 232), (82, 200), (83, 247)]
def rt:List (Nat×Nat):=[(269, 3), (270, 4), (271, 5), (272, 6), (273, 7), (274, 8), (329, 9), (330, 10), (333, 11), (334, 12), (335, 13), (336, 14), (293, 15), (294, 16), (295, 17), (296, 18), (297, 19), (298, 20), (299, 21), (300, 22), (301, 23), (150, 24), (302, 25), (303, 26), (304, 27), (305, 28), (306, 29), (143, 30), (145, 31), (307, 32), (163, 33), (308, 34), (192, 35), (309, 36), (148, 37), (310, 38), (261, 39), (343, 40), (344, 41), (144, 42), (146, 43), (345, 44), (165, 45), (346, 46), (149, 47), (347, 48), (262, 49), (348, 50), (328, 51), (167, 52), (164, 53), (34, 54), (131, 55), (166, 56), (168, 57), (169, 58), (170, 59), (360, 60), (193, 61), (194, 62), (45, 63), (195, 64), (196, 65), (211, 66), (212, 67), (213, 68), (214, 69), (215, 70), (216, 71), (217, 72), (218, 73), (219, 74), (220, 75), (221, 76), (228, 77), (229, 78), (230, 79), (231, 80), (232, 81), (200, 82), (247, 83)]
def F (g:Nat):FuncId:=(ag rt (g % 1000)).getD 0
theorem hF (j q:Nat):F (j+1000 * q)=F j:=by unfold F; rw [Nat.add_mul_mod_self_left]
theorem hft:∀ f j, ag ft f=some j→F j=f:=aL6 (by kernel_rfl)
theorem hmix:Try.prog.follows .mixedOrders=true:=by kernel_rfl
theorem aLU:bU Try.prog F (F 295) f295.C:=dK (E:=f295.env) (ft:=ft) (np:=0) (fn:=Try.f17) (kills:=f295.kills) (cuts:=f295.cuts) (af:=f295.af) (bY hF) hft hmix (by kernel_rfl) (by kernel_rfl) (fun a=>by kernel_rfl) (fun _=>by kernel_rfl) (fun _=>by kernel_rfl) (fun a h=>Gv.of (f295.eq a) (f295.of a (f295.ok a h)))
theorem aLW:bU Try.prog F (F 300) f300.C:=dK (E:=f300.env) (ft:=ft) (np:=1) (fn:=Try.f22) (kills:=f300.kills) (cuts:=f300.cuts) (af:=f300.af) (bY hF) hft hmix (by kernel_rfl) (by kernel_rfl) (fun a=>by kernel_rfl) (fun _=>by kernel_rfl) (fun _=>by kernel_rfl) (fun a h=>Gv.of (f300.eq a) (f300.of a (f300.ok a h)))
theorem aLT:bU Try.prog F (F 328) f328.C:=dK (E:=f328.env) (ft:=ft) (np:=0) (fn:=Try.f51) (kills:=f328.kills) (cuts:=f328.cuts) (af:=f328.af) (bY hF) hft hmix (by kernel_rfl) (by kernel_rfl) (fun a=>by kernel_rfl) (fun _=>by kernel_rfl) (fun _=>by kernel_rfl) (fun a h=>Gv.of (f328.eq a) (f328.of a (f328.ok a h)))
theorem aLK:bU Try.prog F (F 298) f298.C:=dK (E:=f298.env) (ft:=ft) (np:=1) (fn:=Try.f20) (kills:=f298.kills) (cuts:=f298.cuts) (af:=f298.af) (aR aLW (aR aLT (bY hF))) hft hmix (by kernel_rfl) (by kernel_rfl) (fun a=>by kernel_rfl) (fun _=>by kernel_rfl) (fun _=>by kernel_rfl) (fun a h=>Gv.of (f298.eq a) (f298.of a (f298.ok a h)))
theorem aLY:bU Try.prog F (F 296) f296.C:=dK (E:=f296.env) (ft:=ft) (np:=1) (fn:=Try.f18) (kills:=f296.kills) (cuts:=f296.cuts) (af:=f296.af) (aR aLK (aR aLT (bY hF))) hft hmix (by kernel_rfl) (by kernel_rfl) (fun a=>by kernel_rfl) (fun _=>by kernel_rfl) (fun _=>by kernel_rfl) (fun a h=>Gv.of (f296.eq a) (f296.of a (f296.ok a h)))
theorem c45:bU Try.prog F (F 45) f45.C:=dK (E:=f45.env) (ft:=ft) (np:=0) (fn:=Try.f63) (kills:=f45.kills) (cuts:=f45.cuts) (af:=f45.af) (bY hF) hft hmix (by kernel_rfl) (by kernel_rfl) (fun a=>by kernel_rfl) (fun _=>by kernel_rfl) (fun _=>by kernel_rfl) (fun a h=>Gv.of (f45.eq a) (f45.of a (f45.ok a h)))
theorem aLX:bU Try.prog F (F 194) f194.C:=dK (E:=f194.env) (ft:=ft) (np:=0) (fn:=Try.f62) (kills:=f194.kills) (cuts:=f194.cuts) (af:=f194.af) (aR c45 (bY hF)) hft hmix (by kernel_rfl) (by kernel_rfl) (fun a=>by kernel_rfl) (fun _=>by kernel_rfl) (fun _=>by kernel_rfl) (fun a h=>Gv.of (f194.eq a) (f194.of a (f194.ok a h)))
theorem aMF:bU Try.prog F (F 200) f200.C:=dK (E:=f200.env) (ft:=ft) (np:=0) (fn:=Try.f82) (kills:=f200.kills) (cuts:=f200.cuts) (af:=f200.af) (bY hF) hft hmix (by kernel_rfl) (by kernel_rfl) (fun a=>by kernel_rfl) (fun _=>by kernel_rfl) (fun _=>by kernel_rfl) (fun a h=>Gv.of (f200.eq a) (f200.of a (f200.ok a h)))
theorem aEJ:bU Try.prog F (F 217) f217.C:=dK (E:=f217.env) (ft:=ft) (np:=0) (fn:=Try.f72) (kills:=f217.kills) (cuts:=f217.cuts) (af:=f217.af) (aR aMF (bY hF)) hft hmix (by kernel_rfl) (by kernel_rfl) (fun a=>by kernel_rfl) (fun _=>by kernel_rfl) (fun _=>by kernel_rfl) (fun a h=>Gv.of (f217.eq a) (f217.of a (f217.ok a h)))
theorem aMK:bU Try.prog F (F 211) f211.C:=dK (E:=f211.env) (ft:=ft) (np:=1) (fn:=Try.f66) (kills:=f211.kills) (cuts:=f211.cuts) (af:=f211.af) (aR aEJ (bY hF)) hft hmix (by kernel_rfl) (by kernel_rfl) (fun a=>by kernel_rfl) (fun _=>by kernel_rfl) (fun _=>by kernel_rfl) (fun a h=>Gv.of (f211.eq a) (f211.of a (f211.ok a h)))
theorem aMM:bU Try.prog F (F 228) f228.C:=dK (E:=f228.env) (ft:=ft) (np:=1) (fn:=Try.f77) (kills:=f228.kills) (cuts:=f228.cuts) (af:=f228.af) (aR aEJ (bY hF)) hft hmix (by kernel_rfl) (by kernel_rfl) (fun a=>by kernel_rfl) (fun _=>by kernel_rfl) (fun _=>by kernel_rfl) (fun a h=>Gv.of (f228.eq a) (f228.of a (f228.ok a h)))
theorem aMH:bU Try.prog F (F 212) f212.C:=dK (E:=f212.env) (ft:=ft) (np:=1) (fn:=Try.f67) (kills:=f212.kills) (cuts:=f212.cuts) (af:=f212.af) (aR aMM (bY hF)) hft hmix (by kernel_rfl) (by kernel_rfl) (fun a=>by kernel_rfl) (fun _=>by kernel_rfl) (fun _=>by kernel_rfl) (fun a h=>Gv.of (f212.eq a) (f212.of a (f212.ok a h)))
theorem aMT:bU Try.prog F (F 229) f229.C:=dK (E:=f229.env) (ft:=ft) (np:=0) (fn:=Try.f78) (kills:=f229.kills) (cuts:=f229.cuts) (af:=f229.af) (aR aLX (bY hF)) hft hmix (by kernel_rfl) (by kernel_rfl) (fun a=>by kernel_rfl) (fun _=>by kernel_rfl) (fun _=>by kernel_rfl) (fun a h=>Gv.of (f229.eq a) (f229.of a (f229.ok a h)))
theorem aM1:bU Try.prog F (F 230) f230.C:=dK (E:=f230.env) (ft:=ft) (np:=1) (fn:=Try.f79) (kills:=f230.kills) (cuts:=f230.cuts) (af:=f230.af) (bY hF) hft hmix (by kernel_rfl) (by kernel_rfl) (fun a=>by kernel_rfl) (fun _=>by kernel_rfl) (fun _=>by kernel_rfl) (fun a h=>Gv.of (f230.eq a) (f230.of a (f230.ok a h)))
theorem aM6:bU Try.prog F (F 213) f213.C:=dK (E:=f213.env) (ft:=ft) (np:=1) (fn:=Try.f68) (kills:=f213.kills) (cuts:=f213.cuts) (af:=f213.af) (aR aMT (aR aM1 (bY hF))) hft hmix (by kernel_rfl) (by kernel_rfl) (fun a=>by kernel_rfl) (fun _=>by kernel_rfl) (fun _=>by kernel_rfl) (fun a h=>Gv.of (f213.eq a) (f213.of a (f213.ok a h)))
theorem aM5:bU Try.prog F (F 247) f247.C:=dK (E:=f247.env) (ft:=ft) (np:=2) (fn:=Try.f83) (kills:=f247.kills) (cuts:=f247.cuts) (af:=f247.af) (aR aEJ (bY hF)) hft hmix (by kernel_rfl) (by kernel_rfl) (fun a=>by kernel_rfl) (fun _=>by kernel_rfl) (fun _=>by kernel_rfl) (fun a h=>Gv.of (f247.eq a) (f247.of a (f247.ok a h)))
theorem aL4:bU Try.prog F (F 232) f232.C:=dK (E:=f232.env) (ft:=ft) (np:=2) (fn:=Try.f81) (kills:=f232.kills) (cuts:=f232.cuts) (af:=f232.af) (aR aM5 (bY hF)) hft hmix (by kernel_rfl) (by kernel_rfl) (fun a=>by kernel_rfl) (fun _=>by kernel_rfl) (fun _=>by kernel_rfl) (fun a h=>Gv.of (f232.eq a) (f232.of a (f232.ok a h)))
theorem aML:bU Try.prog F (F 231) f231.C:=dK (E:=f231.env) (ft:=ft) (np:=2) (fn:=Try.f80) (kills:=f231.kills) (cuts:=f231.cuts) (af:=f231.af) (aR aL4 (bY hF)) hft hmix (by kernel_rfl) (by kernel_rfl) (fun a=>by kernel_rfl) (fun _=>by kernel_rfl) (fun _=>by kernel_rfl) (fun a h=>Gv.of (f231.eq a) (f231.of a (f231.ok a h)))
theorem aMG:bU Try.prog F (F 214) f214.C:=dK (E:=f214.env) (ft:=ft) (np:=1) (fn:=Try.f69) (kills:=f214.kills) (cuts:=f214.cuts) (af:=f214.af) (aR aML (aR aL4 (bY hF))) hft hmix (by kernel_rfl) (by kernel_rfl) (fun a=>by kernel_rfl) (fun _=>by kernel_rfl) (fun _=>by kernel_rfl) (fun a h=>Gv.of (f214.eq a) (f214.of a (f214.ok a h)))
theorem aMR:bU Try.prog F (F 215) f215.C:=dK (E:=f215.env) (ft:=ft) (np:=1) (fn:=Try.f70) (kills:=f215.kills) (cuts:=f215.cuts) (af:=f215.af) (bY hF) hft hmix (by kernel_rfl) (by kernel_rfl) (fun a=>by kernel_rfl) (fun _=>by kernel_rfl) (fun _=>by kernel_rfl) (fun a h=>Gv.of (f215.eq a) (f215.of a (f215.ok a h)))
theorem aM3:bU Try.prog F (F 216) f216.C:=dK (E:=f216.env) (ft:=ft) (np:=1) (fn:=Try.f71) (kills:=f216.kills) (cuts:=f216.cuts) (af:=f216.af) (aR aEJ (bY hF)) hft hmix (by kernel_rfl) (by kernel_rfl) (fun a=>by kernel_rfl) (fun _=>by kernel_rfl) (fun _=>by kernel_rfl) (fun a h=>Gv.of (f216.eq a) (f216.of a (f216.ok a h)))
theorem aMN:bU Try.prog F (F 218) f218.C:=dK (E:=f218.env) (ft:=ft) (np:=1) (fn:=Try.f73) (kills:=f218.kills) (cuts:=f218.cuts) (af:=f218.af) (aR aEJ (bY hF)) hft hmix (by kernel_rfl) (by kernel_rfl) (fun a=>by kernel_rfl) (fun _=>by kernel_rfl) (fun _=>by kernel_rfl) (fun a h=>Gv.of (f218.eq a) (f218.of a (f218.ok a h)))
theorem aMJ:bU Try.prog F (F 219) f219.C:=dK (E:=f219.env) (ft:=ft) (np:=1) (fn:=Try.f74) (kills:=f219.kills) (cuts:=f219.cuts) (af:=f219.af) (aR aEJ (bY hF)) hft hmix (by kernel_rfl) (by kernel_rfl) (fun a=>by kernel_rfl) (fun _=>by kernel_rfl) (fun _=>by kernel_rfl) (fun a h=>Gv.of (f219.eq a) (f219.of a (f219.ok a h)))
theorem aMW:bU Try.prog F (F 193) f193.C:=aLP (ft:=ft) (np:=1) (fn:=Try.f61) (kills:=f193.kills) (cuts:=f193.cuts) (af:=f193.af) (aR aMK (aR aMH (aR aM6 (aR aMG (aR aMR (aR aM3 (aR aEJ (aR aMN (aR aMJ (bY hF)))))))))) hft hmix (by kernel_rfl) (by kernel_rfl) (fun a=>by kernel_rfl) aEM (fun _=>by kernel_rfl) (fun _=>by kernel_rfl) (En:=f193.env) (fun _=>rfl) (fun n a h hn=>Gv.of (f193.eq a n) (f193.of a n (f193.ok a h n hn)))
theorem aM0:bU Try.prog F (F 167) f167.C:=dK (E:=f167.env) (ft:=ft) (np:=1) (fn:=Try.f52) (kills:=f167.kills) (cuts:=f167.cuts) (af:=f167.af) (aR aLX (aR aMW (bY hF))) hft hmix (by kernel_rfl) (by kernel_rfl) (fun a=>by kernel_rfl) (fun _=>by kernel_rfl) (fun _=>by kernel_rfl) (fun a h=>Gv.of (f167.eq a) (f167.of a (f167.ok a h)))
theorem aL3:bU Try.prog F (F 302) f302.C:=dK (E:=f302.env) (ft:=ft) (np:=1) (fn:=Try.f25) (kills:=f302.kills) (cuts:=f302.cuts) (af:=f302.af) (aR aM0 (aR aLK (bY hF))) hft hmix (by kernel_rfl) (by kernel_rfl) (fun a=>by kernel_rfl) (fun _=>by kernel_rfl) (fun _=>by kernel_rfl) (fun a h=>Gv.of (f302.eq a) (f302.of a (f302.ok a h)))
theorem aMZ:bU Try.prog F (F 304) f304.C:=dK (E:=f304.env) (ft:=ft) (np:=1) (fn:=Try.f27) (kills:=f304.kills) (cuts:=f304.cuts) (af:=f304.af) (bY hF) hft hmix (by kernel_rfl) (by kernel_rfl) (fun a=>by kernel_rfl) (fun _=>by kernel_rfl) (fun _=>by kernel_rfl) (fun a h=>Gv.of (f304.eq a) (f304.of a (f304.ok a h)))
theorem aMX:bU Try.prog F (F 293) f293.C:=dK (E:=f293.env) (ft:=ft) (np:=0) (fn:=Try.f15) (kills:=f293.kills) (cuts:=f293.cuts) (af:=f293.af) (aR aLU (aR aLY (aR aL3 (aR aMZ (bY hF))))) hft hmix (by kernel_rfl) (by kernel_rfl) (fun a=>by kernel_rfl) (fun _=>by kernel_rfl) (fun _=>by kernel_rfl) (fun a h=>Gv.of (f293.eq a) (f293.of a (f293.ok a h)))
theorem aMY:bU Try.prog F (F 294) f294.C:=dK (E:=f294.env) (ft:=ft) (np:=0) (fn:=Try.f16) (kills:=f294.kills) (cuts:=f294.cuts) (af:=f294.af) (bY hF) hft hmix (by kernel_rfl) (by kernel_rfl) (fun a=>by kernel_rfl) (fun _=>by kernel_rfl) (fun _=>by kernel_rfl) (fun a h=>Gv.of (f294.eq a) (f294.of a (f294.ok a h)))
theorem aM2:bU Try.prog F (F 271) f271.C:=dK (E:=f271.env) (ft:=ft) (np:=0) (fn:=Try.f5) (kills:=f271.kills) (cuts:=f271.cuts) (af:=f271.af) (aR aMX (aR aMY (aR aLU (aR aLY (aR aLW (aR aL3 (aR aLK (bY hF)))))))) hft hmix (by kernel_rfl) (by kernel_rfl) (fun a=>by kernel_rfl) (fun _=>by kernel_rfl) (fun _=>by kernel_rfl) (fun a h=>Gv.of (f271.eq a) (f271.of a (f271.ok a h)))
theorem rd3:iC Try.prog 3 jX:=aF3 (by kernel_rfl) (by kernel_rfl)
theorem rd9:iC Try.prog 9 q7:=aGZ (by kernel_rfl) (by kernel_rfl)
theorem aMI:yB Try.prog [(3, 0), (3, 1), (9, 2)] 0 (hG jX (hG jX q7)):=vK rd3 (vK rd3 (aHA rd9))
theorem aM4:iC Try.prog 38 cU:=zR (fs:=(match Try.prog.underlying 38 with | some (.struct fs)=>fs | _=>#[])) (by kernel_rfl) (by kernel_rfl) (cast (by kernel_rfl) aMI)
theorem aMS:iC Try.prog 22 cH:=aC6 (e:=38) (by kernel_rfl) (by kernel_rfl) aM4 (by decide)
theorem args:aGG Try.prog Try.f5.params.toList f271.args f271.wf f271.size:=cast (by kernel_rfl) (nU (g:=false) (by kernel_rfl) aMS (.inr rfl) (nU (g:=false) (by kernel_rfl) rd9 (.inr rfl) (nU (g:=false) (by kernel_rfl) rd3 (.inr rfl) (aIG (g:=false) (by kernel_rfl) rd3 (.inr rfl)))))
theorem cz:bU Try.prog F 5 f271.C:=cast (by kernel_rfl) aM2
def bk (H:Type):aGE H:=⟨Rows.uptoBulk, Rows.uptoBulkAll, fun _=>by simp [Rows.uptoBulk], fun d=>by
 cases d with
 | lit l=>cases l <;> simp [Rows.uptoBulk]
 | _=>simp [Rows.uptoBulk], fun _ _=>by simp [Rows.uptoBulk], fun _=>by simp [Rows.uptoBulk], by simp [Rows.uptoBulkAll], fun _ _=>by simp [Rows.uptoBulkAll]⟩
theorem allowed:∀ t∈Try.f5.params.toList, Try.prog.readableRec t=true∧t < Try.prog.types.size:=by
 have h:(Try.f5.params.toList.all fun t=>Try.prog.readableRec t&&decide (t < Try.prog.types.size))=true:=by kernel_rfl
 intro t ht
 have:=List.all_eq_true.1 h t ht
 rw [Bool.and_eq_true, decide_eq_true_eq] at this
 exact this
set_option maxRecDepth 100000 in
theorem contract (H:Type) (enc:TypeId×Value→H) (W:World) (base:Nat) (args_:Array Value) (ds gs:List (DataW H)) (before:List MemPlace)
  (hval:∀ (j:Nat) t v, Try.f5.params[j]? = some t→args_[j]? = some v→Value.okWide Try.prog W .any base t v)
  (hW:DataW.Whole enc Try.prog Try.f5.params.toList Rows.wheelSetsSpec.vars false W args_.toList ds gs before) (hk:Rows.uptoSmall H (ds++gs)=true) :
  Calls Try.prog 5 args_ W fun e W'=>∃ v, e=.returned v∧Rows.wheelSetsSpec.post enc Try.prog Try.f5 false true false false W args_ v W' :=
 aA1 (N:=1048576) (rt:=4) (fn:=Try.f5) (bk H) cz args (fun a h1 h2=>⟨h1, h2⟩) (by kernel_rfl) (fun t ht=>allowed t ht) (by kernel_rfl) (by kernel_rfl) rfl (fun ds h=>by
  match ds, h with
  | [d0, d1, d2, d3], _=>rfl) hval hW (show Rows.uptoBulkAll (ds++gs)≤1048576 from of_decide_eq_true hk)
theorem own:ownKnob Try.prog.godebug=none:=by kernel_rfl
set_option maxRecDepth 100000 in
theorem lifted (os:Os) (started:os.Started) (H:Type) (enc:TypeId×Value→H) (Fi:Stop.Interp) :
  ReturnsInHanded {} Try.checked os 5 .any ((Rows.OpenSpec.upto Rows.wheelSetsSpec).pre6 enc Try.prog Try.f5 Rows.wheelSetsUptoRow.domain false) (((Rows.OpenSpec.upto Rows.wheelSetsSpec).at Fi).post enc Try.prog Try.f5 false true false false):=by
 refine returnsInHanded_of_cond (C:=Try.checked) (s:=Rows.OpenSpec.upto Rows.wheelSetsSpec) (k:=Rows.uptoSmall) rfl own started (by kernel_rfl) Try.func5
  (OpenSpec.witness (enc:=enc) (C:=Try.checked) (s:=Rows.OpenSpec.upto Rows.wheelSetsSpec) (k:=Rows.uptoSmall) rfl false ⟨#[], #[.slice none 0 0, .string .empty, .int .i64 0, .int .i64 0], []⟩ 12 (by kernel_rfl) (by kernel_rfl) (by kernel_rfl)
   (x:=([.nil, .lit (.string []), .lit (.int .i64 0), .lit (.int .i64 0)], [], [])) (by kernel_rfl) rfl (by kernel_rfl)) ?_
 intro W base args ds gs before hval hW _ hk _
 exact contract H enc W base args ds gs before hval hW hk
theorem and_i {a b:Bool} (h:a=true) (k:b=true):(a&&b)=true:=by rw [h, k]; rfl
set_option maxHeartbeats 12800000 in
theorem facts:joinedFacts Try.checked.prog 5 Try.f5 (Rows.OpenSpec.upto Rows.wheelSetsSpec).bare Rows.wheelSetsUptoRow=true:=by
 unfold joinedFacts
 repeat' with_reducible refine and_i ?_ ?_
 all_goals as_aux_lemma=>kernel_rfl
theorem proved:Rows.WheelSetsUptoSaid :=
 OpenClaim.holds_of_cond 5 Try.f5 rfl rfl rfl rfl rfl rfl rfl ⟨rfl, rfl, rfl, rfl, rfl⟩ rfl rfl rfl rfl rfl (by kernel_rfl) Try.func5 facts
  (of_decide_eq_true (by kernel_rfl)) (by unfold Func.isWrapper; first | (rw [if_pos (by decide +kernel)]; kernel_rfl) | (rw [if_neg (by decide +kernel)]; exact ⟨rfl, rfl⟩))
  (fun os started H enc _ Fi=>lifted os started H enc Fi)
end Go.Proofs.Ytfjnkkfhhalepaa.wheelSets
