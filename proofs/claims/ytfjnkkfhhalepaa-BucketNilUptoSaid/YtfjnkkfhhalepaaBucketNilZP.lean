/- The law BucketNil: for every input it returns true, and the input reads as it did; where the input is of bulk at most 1048576. -/
import Derived.Test.YtfjnkkfhhalepaaRows
import Derived.JoinedCond
import Derived.KernelRfl
import Derived.Test.YtfjnkkfhhalepaaBucketNilP4
import Derived.Test.YtfjnkkfhhalepaaBucketNilP5
import Derived.Test.YtfjnkkfhhalepaaBucketNilP6
import Derived.Test.YtfjnkkfhhalepaaBucketNilP7
import Derived.Test.YtfjnkkfhhalepaaBucketNilP8
import Derived.Test.YtfjnkkfhhalepaaBucketNilP9
import Derived.Test.YtfjnkkfhhalepaaBucketNilP10
import Derived.Test.YtfjnkkfhhalepaaBucketNilP11
import Derived.Test.YtfjnkkfhhalepaaBucketNilP12
import Derived.Test.YtfjnkkfhhalepaaBucketNilP13
import Derived.Test.YtfjnkkfhhalepaaBucketNilP14
import Derived.Test.YtfjnkkfhhalepaaBucketNilP15
import Derived.Test.YtfjnkkfhhalepaaBucketNilP16
import Derived.Test.YtfjnkkfhhalepaaBucketNilP17
import Derived.Test.YtfjnkkfhhalepaaBucketNilP18
import Derived.Test.YtfjnkkfhhalepaaBucketNilP19
import Derived.Test.YtfjnkkfhhalepaaBucketNilP20
import Derived.Test.YtfjnkkfhhalepaaBucketNilP21
import Derived.Test.YtfjnkkfhhalepaaBucketNilP22
import Derived.Test.YtfjnkkfhhalepaaBucketNilP23
import Derived.Test.YtfjnkkfhhalepaaBucketNilP24
namespace Go.Proofs.Ytfjnkkfhhalepaa.bucketNil
open Go Go.Abs Go.RowKit Go.ChangeShapes
set_option linter.unusedVariables false
def ft:FT:=[(3, 269), (4, 270), (5, 271), (6, 272), (7, 273), (8, 274), (9, 329), (10, 330), (11, 333), (12, 334), (13, 335), (14, 336), (15, 293), (16, 294), (17, 295), (18, 296), (19, 297), (20, 298), (21, 299), (22, 300), (23, 301), (24, 150), (25, 302), (26, 303), (27, 304), (28, 305), (29, 306), (30, 143), (31, 145), (32, 307), (33, 163), (34, 308), (35, 192), (36, 309), (37, 148), (38, 310), (39, 261), (40, 343), (41, 344), (42, 144), (43, 146), (44, 345), (45, 165), (46, 346), (47, 149), (48, 347), (49, 262), (50, 348), (51, 328), (52, 167), (53, 164), (54, 34), (55, 131), (56, 166), (57, 168), (58, 169), (59, 170), (60, 360), (61, 193), (62, 194), (63, 45), (64, 195), (65, 196), (66, 211), (67, 212), (68, 213), (69, 214), (70, 215), (71, 216), (72, 217), (73, 218), (74, 219), (75, 220), (76, 221), (77, 228), (78, 229), (79, 230), (80, 231), (81, 232), (82, 200), (83, 247)]
def rt:List (Nat×Nat):=[(269, 3), (270, 4), (271, 5), (272, 6), (273, 7), (274, 8), (329, 9), (330, 10), (333, 11), (334, 12), (335, 13), (336, 14), (293, 15), (294, 16), (295, 17), (296, 18), (297, 19), (298, 20), (299, 21), (300, 22), (301, 23), (150, 24), (302, 25), (303, 26), (304, 27), (305, 28), (306, 29), (143, 30), (145, 31), (307, 32), (163, 33), (308, 34), (192, 35), (309, 36), (148, 37), (310, 38), (261, 39), (343, 40), (344, 41), (144, 42), (146, 43), (345, 44), (165, 45), (346, 46), (149, 47), (347, 48), (262, 49), (348, 50), (328, 51), (167, 52), (164, 53), (34, 54), (131, 55), (166, 56), (168, 57), (169, 58), (170, 59), (360, 60), (193, 61), (194, 62), (45, 63), (195, 64), (196, 65), (211, 66), (212, 67), (213, 68), (214, 69), (215, 70), (216, 71), (217, 72), (218, 73), (219, 74), (220, 75), (221, 76), (228, 77), (229, 78), (230, 79), (231, 80), (232, 81), (200, 82), (247, 83)]
def F (g:Nat):FuncId:=(ag rt (g % 1000)).getD 0
theorem hF (j q:Nat):F (j+1000 * q)=F j:=by unfold F; rw [Nat.add_mul_mod_self_left]
theorem hft:∀ f j, ag ft f=some j→F j=f:=aLR (by kernel_rfl)
theorem hmix:Try.prog.follows .mixedOrders=true:=by kernel_rfl
theorem aME:bK Try.prog F (F 143) f143.C:=cT (E:=f143.env) (ft:=ft) (np:=0) (fn:=Try.f30) (kills:=f143.kills) (cuts:=f143.cuts) (af:=f143.af) (bJ hF) hft hmix (by kernel_rfl) (by kernel_rfl) (fun a=>by kernel_rfl) (fun _=>by kernel_rfl) (fun _=>by kernel_rfl) (fun a h=>Gv.of (f143.eq a) (f143.of a (f143.ok a h)))
theorem aM0:bK Try.prog F (F 192) f192.C:=cT (E:=f192.env) (ft:=ft) (np:=1) (fn:=Try.f35) (kills:=f192.kills) (cuts:=f192.cuts) (af:=f192.af) (bJ hF) hft hmix (by kernel_rfl) (by kernel_rfl) (fun a=>by kernel_rfl) (fun _=>by kernel_rfl) (fun _=>by kernel_rfl) (fun a h=>Gv.of (f192.eq a) (f192.of a (f192.ok a h)))
theorem c45:bK Try.prog F (F 45) f45.C:=cT (E:=f45.env) (ft:=ft) (np:=0) (fn:=Try.f63) (kills:=f45.kills) (cuts:=f45.cuts) (af:=f45.af) (bJ hF) hft hmix (by kernel_rfl) (by kernel_rfl) (fun a=>by kernel_rfl) (fun _=>by kernel_rfl) (fun _=>by kernel_rfl) (fun a h=>Gv.of (f45.eq a) (f45.of a (f45.ok a h)))
theorem aLC:bK Try.prog F (F 164) f164.C:=cT (E:=f164.env) (ft:=ft) (np:=0) (fn:=Try.f53) (kills:=f164.kills) (cuts:=f164.cuts) (af:=f164.af) (aQ c45 (bJ hF)) hft hmix (by kernel_rfl) (by kernel_rfl) (fun a=>by kernel_rfl) (fun _=>by kernel_rfl) (fun _=>by kernel_rfl) (fun a h=>Gv.of (f164.eq a) (f164.of a (f164.ok a h)))
theorem aL7:bK Try.prog F (F 163) f163.C:=cT (E:=f163.env) (ft:=ft) (np:=1) (fn:=Try.f33) (kills:=f163.kills) (cuts:=f163.cuts) (af:=f163.af) (aQ aM0 (aQ aLC (bJ hF))) hft hmix (by kernel_rfl) (by kernel_rfl) (fun a=>by kernel_rfl) (fun _=>by kernel_rfl) (fun _=>by kernel_rfl) (fun a h=>Gv.of (f163.eq a) (f163.of a (f163.ok a h)))
theorem aL2:bK Try.prog F (F 145) f145.C:=cT (E:=f145.env) (ft:=ft) (np:=1) (fn:=Try.f31) (kills:=f145.kills) (cuts:=f145.cuts) (af:=f145.af) (aQ aL7 (aQ aLC (bJ hF))) hft hmix (by kernel_rfl) (by kernel_rfl) (fun a=>by kernel_rfl) (fun _=>by kernel_rfl) (fun _=>by kernel_rfl) (fun a h=>Gv.of (f145.eq a) (f145.of a (f145.ok a h)))
theorem c34:bK Try.prog F (F 34) f34.C:=cT (E:=f34.env) (ft:=ft) (np:=0) (fn:=Try.f54) (kills:=f34.kills) (cuts:=f34.cuts) (af:=f34.af) (bJ hF) hft hmix (by kernel_rfl) (by kernel_rfl) (fun a=>by kernel_rfl) (fun _=>by kernel_rfl) (fun _=>by kernel_rfl) (fun a h=>Gv.of (f34.eq a) (f34.of a (f34.ok a h)))
theorem aLM:bK Try.prog F (F 194) f194.C:=cT (E:=f194.env) (ft:=ft) (np:=0) (fn:=Try.f62) (kills:=f194.kills) (cuts:=f194.cuts) (af:=f194.af) (aQ c45 (bJ hF)) hft hmix (by kernel_rfl) (by kernel_rfl) (fun a=>by kernel_rfl) (fun _=>by kernel_rfl) (fun _=>by kernel_rfl) (fun a h=>Gv.of (f194.eq a) (f194.of a (f194.ok a h)))
theorem aMY:bK Try.prog F (F 200) f200.C:=cT (E:=f200.env) (ft:=ft) (np:=0) (fn:=Try.f82) (kills:=f200.kills) (cuts:=f200.cuts) (af:=f200.af) (bJ hF) hft hmix (by kernel_rfl) (by kernel_rfl) (fun a=>by kernel_rfl) (fun _=>by kernel_rfl) (fun _=>by kernel_rfl) (fun a h=>Gv.of (f200.eq a) (f200.of a (f200.ok a h)))
theorem aD6:bK Try.prog F (F 217) f217.C:=cT (E:=f217.env) (ft:=ft) (np:=0) (fn:=Try.f72) (kills:=f217.kills) (cuts:=f217.cuts) (af:=f217.af) (aQ aMY (bJ hF)) hft hmix (by kernel_rfl) (by kernel_rfl) (fun a=>by kernel_rfl) (fun _=>by kernel_rfl) (fun _=>by kernel_rfl) (fun a h=>Gv.of (f217.eq a) (f217.of a (f217.ok a h)))
theorem aMC:bK Try.prog F (F 211) f211.C:=cT (E:=f211.env) (ft:=ft) (np:=1) (fn:=Try.f66) (kills:=f211.kills) (cuts:=f211.cuts) (af:=f211.af) (aQ aD6 (bJ hF)) hft hmix (by kernel_rfl) (by kernel_rfl) (fun a=>by kernel_rfl) (fun _=>by kernel_rfl) (fun _=>by kernel_rfl) (fun a h=>Gv.of (f211.eq a) (f211.of a (f211.ok a h)))
theorem aMQ:bK Try.prog F (F 228) f228.C:=cT (E:=f228.env) (ft:=ft) (np:=1) (fn:=Try.f77) (kills:=f228.kills) (cuts:=f228.cuts) (af:=f228.af) (aQ aD6 (bJ hF)) hft hmix (by kernel_rfl) (by kernel_rfl) (fun a=>by kernel_rfl) (fun _=>by kernel_rfl) (fun _=>by kernel_rfl) (fun a h=>Gv.of (f228.eq a) (f228.of a (f228.ok a h)))
theorem aL5:bK Try.prog F (F 212) f212.C:=cT (E:=f212.env) (ft:=ft) (np:=1) (fn:=Try.f67) (kills:=f212.kills) (cuts:=f212.cuts) (af:=f212.af) (aQ aMQ (bJ hF)) hft hmix (by kernel_rfl) (by kernel_rfl) (fun a=>by kernel_rfl) (fun _=>by kernel_rfl) (fun _=>by kernel_rfl) (fun a h=>Gv.of (f212.eq a) (f212.of a (f212.ok a h)))
theorem aMM:bK Try.prog F (F 229) f229.C:=cT (E:=f229.env) (ft:=ft) (np:=0) (fn:=Try.f78) (kills:=f229.kills) (cuts:=f229.cuts) (af:=f229.af) (aQ aLM (bJ hF)) hft hmix (by kernel_rfl) (by kernel_rfl) (fun a=>by kernel_rfl) (fun _=>by kernel_rfl) (fun _=>by kernel_rfl) (fun a h=>Gv.of (f229.eq a) (f229.of a (f229.ok a h)))
theorem aMR:bK Try.prog F (F 230) f230.C:=cT (E:=f230.env) (ft:=ft) (np:=1) (fn:=Try.f79) (kills:=f230.kills) (cuts:=f230.cuts) (af:=f230.af) (bJ hF) hft hmix (by kernel_rfl) (by kernel_rfl) (fun a=>by kernel_rfl) (fun _=>by kernel_rfl) (fun _=>by kernel_rfl) (fun a h=>Gv.of (f230.eq a) (f230.of a (f230.ok a h)))
theorem aMJ:bK Try.prog F (F 213) f213.C:=cT (E:=f213.env) (ft:=ft) (np:=1) (fn:=Try.f68) (kills:=f213.kills) (cuts:=f213.cuts) (af:=f213.af) (aQ aMM (aQ aMR (bJ hF))) hft hmix (by kernel_rfl) (by kernel_rfl) (fun a=>by kernel_rfl) (fun _=>by kernel_rfl) (fun _=>by kernel_rfl) (fun a h=>Gv.of (f213.eq a) (f213.of a (f213.ok a h)))
theorem aMX:bK Try.prog F (F 247) f247.C:=cT (E:=f247.env) (ft:=ft) (np:=2) (fn:=Try.f83) (kills:=f247.kills) (cuts:=f247.cuts) (af:=f247.af) (aQ aD6 (bJ hF)) hft hmix (by kernel_rfl) (by kernel_rfl) (fun a=>by kernel_rfl) (fun _=>by kernel_rfl) (fun _=>by kernel_rfl) (fun a h=>Gv.of (f247.eq a) (f247.of a (f247.ok a h)))
theorem aLW:bK Try.prog F (F 232) f232.C:=cT (E:=f232.env) (ft:=ft) (np:=2) (fn:=Try.f81) (kills:=f232.kills) (cuts:=f232.cuts) (af:=f232.af) (aQ aMX (bJ hF)) hft hmix (by kernel_rfl) (by kernel_rfl) (fun a=>by kernel_rfl) (fun _=>by kernel_rfl) (fun _=>by kernel_rfl) (fun a h=>Gv.of (f232.eq a) (f232.of a (f232.ok a h)))
theorem aMH:bK Try.prog F (F 231) f231.C:=cT (E:=f231.env) (ft:=ft) (np:=2) (fn:=Try.f80) (kills:=f231.kills) (cuts:=f231.cuts) (af:=f231.af) (aQ aLW (bJ hF)) hft hmix (by kernel_rfl) (by kernel_rfl) (fun a=>by kernel_rfl) (fun _=>by kernel_rfl) (fun _=>by kernel_rfl) (fun a h=>Gv.of (f231.eq a) (f231.of a (f231.ok a h)))
theorem aL9:bK Try.prog F (F 214) f214.C:=cT (E:=f214.env) (ft:=ft) (np:=1) (fn:=Try.f69) (kills:=f214.kills) (cuts:=f214.cuts) (af:=f214.af) (aQ aMH (aQ aLW (bJ hF))) hft hmix (by kernel_rfl) (by kernel_rfl) (fun a=>by kernel_rfl) (fun _=>by kernel_rfl) (fun _=>by kernel_rfl) (fun a h=>Gv.of (f214.eq a) (f214.of a (f214.ok a h)))
theorem aL4:bK Try.prog F (F 215) f215.C:=cT (E:=f215.env) (ft:=ft) (np:=1) (fn:=Try.f70) (kills:=f215.kills) (cuts:=f215.cuts) (af:=f215.af) (bJ hF) hft hmix (by kernel_rfl) (by kernel_rfl) (fun a=>by kernel_rfl) (fun _=>by kernel_rfl) (fun _=>by kernel_rfl) (fun a h=>Gv.of (f215.eq a) (f215.of a (f215.ok a h)))
theorem aL8:bK Try.prog F (F 216) f216.C:=cT (E:=f216.env) (ft:=ft) (np:=1) (fn:=Try.f71) (kills:=f216.kills) (cuts:=f216.cuts) (af:=f216.af) (aQ aD6 (bJ hF)) hft hmix (by kernel_rfl) (by kernel_rfl) (fun a=>by kernel_rfl) (fun _=>by kernel_rfl) (fun _=>by kernel_rfl) (fun a h=>Gv.of (f216.eq a) (f216.of a (f216.ok a h)))
theorem aMK:bK Try.prog F (F 218) f218.C:=cT (E:=f218.env) (ft:=ft) (np:=1) (fn:=Try.f73) (kills:=f218.kills) (cuts:=f218.cuts) (af:=f218.af) (aQ aD6 (bJ hF)) hft hmix (by kernel_rfl) (by kernel_rfl) (fun a=>by kernel_rfl) (fun _=>by kernel_rfl) (fun _=>by kernel_rfl) (fun a h=>Gv.of (f218.eq a) (f218.of a (f218.ok a h)))
theorem aM1:bK Try.prog F (F 219) f219.C:=cT (E:=f219.env) (ft:=ft) (np:=1) (fn:=Try.f74) (kills:=f219.kills) (cuts:=f219.cuts) (af:=f219.af) (aQ aD6 (bJ hF)) hft hmix (by kernel_rfl) (by kernel_rfl) (fun a=>by kernel_rfl) (fun _=>by kernel_rfl) (fun _=>by kernel_rfl) (fun a h=>Gv.of (f219.eq a) (f219.of a (f219.ok a h)))
theorem aMW:bK Try.prog F (F 193) f193.C:=aK6 (ft:=ft) (np:=1) (fn:=Try.f61) (kills:=f193.kills) (cuts:=f193.cuts) (af:=f193.af) (aQ aMC (aQ aL5 (aQ aMJ (aQ aL9 (aQ aL4 (aQ aL8 (aQ aD6 (aQ aMK (aQ aM1 (bJ hF)))))))))) hft hmix (by kernel_rfl) (by kernel_rfl) (fun a=>by kernel_rfl) aEO (fun _=>by kernel_rfl) (fun _=>by kernel_rfl) (En:=f193.env) (fun _=>rfl) (fun n a h hn=>Gv.of (f193.eq a n) (f193.of a n (f193.ok a h n hn)))
theorem aMS:bK Try.prog F (F 167) f167.C:=cT (E:=f167.env) (ft:=ft) (np:=1) (fn:=Try.f52) (kills:=f167.kills) (cuts:=f167.cuts) (af:=f167.af) (aQ aLM (aQ aMW (bJ hF))) hft hmix (by kernel_rfl) (by kernel_rfl) (fun a=>by kernel_rfl) (fun _=>by kernel_rfl) (fun _=>by kernel_rfl) (fun a h=>Gv.of (f167.eq a) (f167.of a (f167.ok a h)))
theorem aMA:bK Try.prog F (F 148) f148.C:=cT (E:=f148.env) (ft:=ft) (np:=1) (fn:=Try.f37) (kills:=f148.kills) (cuts:=f148.cuts) (af:=f148.af) (aQ aLC (aQ c34 (aQ aMS (bJ hF)))) hft hmix (by kernel_rfl) (by kernel_rfl) (fun a=>by kernel_rfl) (fun _=>by kernel_rfl) (fun _=>by kernel_rfl) (fun a h=>Gv.of (f148.eq a) (f148.of a (f148.ok a h)))
theorem aM2:bK Try.prog F (F 261) f261.C:=cT (E:=f261.env) (ft:=ft) (np:=1) (fn:=Try.f39) (kills:=f261.kills) (cuts:=f261.cuts) (af:=f261.af) (bJ hF) hft hmix (by kernel_rfl) (by kernel_rfl) (fun a=>by kernel_rfl) (fun _=>by kernel_rfl) (fun _=>by kernel_rfl) (fun a h=>Gv.of (f261.eq a) (f261.of a (f261.ok a h)))
theorem aMO:bK Try.prog F (F 305) f305.C:=cT (E:=f305.env) (ft:=ft) (np:=0) (fn:=Try.f28) (kills:=f305.kills) (cuts:=f305.cuts) (af:=f305.af) (aQ aME (aQ aL2 (aQ aMA (aQ aM2 (bJ hF))))) hft hmix (by kernel_rfl) (by kernel_rfl) (fun a=>by kernel_rfl) (fun _=>by kernel_rfl) (fun _=>by kernel_rfl) (fun a h=>Gv.of (f305.eq a) (f305.of a (f305.ok a h)))
theorem aMI:bK Try.prog F (F 306) f306.C:=cT (E:=f306.env) (ft:=ft) (np:=0) (fn:=Try.f29) (kills:=f306.kills) (cuts:=f306.cuts) (af:=f306.af) (bJ hF) hft hmix (by kernel_rfl) (by kernel_rfl) (fun a=>by kernel_rfl) (fun _=>by kernel_rfl) (fun _=>by kernel_rfl) (fun a h=>Gv.of (f306.eq a) (f306.of a (f306.ok a h)))
theorem aLP:bK Try.prog F (F 145) f1145.C:=cT (E:=f1145.env) (ft:=ft) (np:=0) (fn:=Try.f31) (kills:=f1145.kills) (cuts:=f1145.cuts) (af:=f1145.af) (bJ hF) hft hmix (by kernel_rfl) (by kernel_rfl) (fun a=>by kernel_rfl) (fun _=>by kernel_rfl) (fun _=>by kernel_rfl) (fun a h=>Gv.of (f1145.eq a) (f1145.of a (f1145.ok a h)))
theorem aKW:bK Try.prog F (F 192) f1192.C:=cT (E:=f1192.env) (ft:=ft) (np:=0) (fn:=Try.f35) (kills:=f1192.kills) (cuts:=f1192.cuts) (af:=f1192.af) (bJ hF) hft hmix (by kernel_rfl) (by kernel_rfl) (fun a=>by kernel_rfl) (fun _=>by kernel_rfl) (fun _=>by kernel_rfl) (fun a h=>Gv.of (f1192.eq a) (f1192.of a (f1192.ok a h)))
theorem aLU:bK Try.prog F (F 163) f1163.C:=cT (E:=f1163.env) (ft:=ft) (np:=0) (fn:=Try.f33) (kills:=f1163.kills) (cuts:=f1163.cuts) (af:=f1163.af) (aQ aKW (bJ hF)) hft hmix (by kernel_rfl) (by kernel_rfl) (fun a=>by kernel_rfl) (fun _=>by kernel_rfl) (fun _=>by kernel_rfl) (fun a h=>Gv.of (f1163.eq a) (f1163.of a (f1163.ok a h)))
theorem aLV:bK Try.prog F (F 261) f1261.C:=cT (E:=f1261.env) (ft:=ft) (np:=0) (fn:=Try.f39) (kills:=f1261.kills) (cuts:=f1261.cuts) (af:=f1261.af) (bJ hF) hft hmix (by kernel_rfl) (by kernel_rfl) (fun a=>by kernel_rfl) (fun _=>by kernel_rfl) (fun _=>by kernel_rfl) (fun a h=>Gv.of (f1261.eq a) (f1261.of a (f1261.ok a h)))
theorem aLL:bK Try.prog F (F 148) f1148.C:=cT (E:=f1148.env) (ft:=ft) (np:=0) (fn:=Try.f37) (kills:=f1148.kills) (cuts:=f1148.cuts) (af:=f1148.af) (bJ hF) hft hmix (by kernel_rfl) (by kernel_rfl) (fun a=>by kernel_rfl) (fun _=>by kernel_rfl) (fun _=>by kernel_rfl) (fun a h=>Gv.of (f1148.eq a) (f1148.of a (f1148.ok a h)))
theorem aML:bK Try.prog F (F 330) f330.C:=cT (E:=f330.env) (ft:=ft) (np:=0) (fn:=Try.f10) (kills:=f330.kills) (cuts:=f330.cuts) (af:=f330.af) (aQ aMO (aQ aMI (aQ aLP (aQ aKW (aQ aLU (aQ aLV (aQ aLL (bJ hF)))))))) hft hmix (by kernel_rfl) (by kernel_rfl) (fun a=>by kernel_rfl) (fun _=>by kernel_rfl) (fun _=>by kernel_rfl) (fun a h=>Gv.of (f330.eq a) (f330.of a (f330.ok a h)))
theorem rd3:iB Try.prog 3 l8:=aGB (by kernel_rfl) (by kernel_rfl)
theorem rd9:iB Try.prog 9 uF:=aFY (by kernel_rfl) (by kernel_rfl)
theorem aL6:vK Try.prog [(3, 0), (3, 1), (3, 2)] 0 (fW l8 (fW l8 l8)):=lQ rd3 (lQ rd3 (yN rd3))
theorem aMG:iB Try.prog 63 nR:=aDM (m:=3) (e:=3) (by kernel_rfl) (by kernel_rfl) (cast (by kernel_rfl) aL6)
theorem aMU:vK Try.prog [(3, 0), (9, 1), (63, 2)] 0 (fW l8 (fW uF nR)):=lQ rd3 (lQ rd9 (yN aMG))
theorem aMZ:iB Try.prog 65 dK:=aAQ (fs:=(match Try.prog.underlying 65 with | some (.struct fs)=>fs | _=>#[])) (by kernel_rfl) (by kernel_rfl) (cast (by kernel_rfl) aMU)
theorem args:aGJ Try.prog Try.f10.params.toList f330.args f330.wf f330.size:=cast (by kernel_rfl) (aIK (g:=true) (by kernel_rfl) aMZ (.inl rfl))
theorem cz:bK Try.prog F 10 f330.C:=cast (by kernel_rfl) aML
def bk (H:Type):aG6 H:=⟨Rows.uptoBulk, Rows.uptoBulkAll, fun _=>by simp [Rows.uptoBulk], fun d=>by
 cases d with
 | lit l=>cases l <;> simp [Rows.uptoBulk]
 | _=>simp [Rows.uptoBulk], fun _ _=>by simp [Rows.uptoBulk], fun _=>by simp [Rows.uptoBulk], by simp [Rows.uptoBulkAll], fun _ _=>by simp [Rows.uptoBulkAll]⟩
theorem allowed:∀ t∈Try.f10.params.toList, Try.prog.readableRec t=true∧t < Try.prog.types.size:=by
 have h:(Try.f10.params.toList.all fun t=>Try.prog.readableRec t&&decide (t < Try.prog.types.size))=true:=by kernel_rfl
 intro t ht
 have:=List.all_eq_true.1 h t ht
 rw [Bool.and_eq_true, decide_eq_true_eq] at this
 exact this
set_option maxRecDepth 100000 in
theorem contract (H:Type) (enc:TypeId×Value→H) (W:World) (base:Nat) (args_:Array Value) (ds gs:List (DataW H)) (before:List MemPlace)
  (hval:∀ (j:Nat) t v, Try.f10.params[j]? = some t→args_[j]? = some v→Value.okWide Try.prog W .any base t v)
  (hW:DataW.Whole enc Try.prog Try.f10.params.toList Rows.bucketNilSpec.vars false W args_.toList ds gs before) (hk:Rows.uptoSmall H (ds++gs)=true) :
  Calls Try.prog 10 args_ W fun e W'=>∃ v, e=.returned v∧Rows.bucketNilSpec.post enc Try.prog Try.f10 false true false false W args_ v W' :=
 zU (N:=1048576) (rt:=4) (fn:=Try.f10) (bk H) cz args (fun a h1 h2=>⟨h1, h2⟩) (by kernel_rfl) (fun t ht=>allowed t ht) (by kernel_rfl) (by kernel_rfl) rfl (fun ds h=>by
  match ds, h with
  | [d0], _=>rfl) hval hW (show Rows.uptoBulkAll (ds++gs)≤1048576 from of_decide_eq_true hk)
theorem own:ownKnob Try.prog.godebug=none:=by kernel_rfl
set_option maxRecDepth 100000 in
theorem lifted (os:Os) (started:os.Started) (H:Type) (enc:TypeId×Value→H) (Fi:Stop.Interp) :
  ReturnsInHanded {} Try.checked os 10 .any ((Rows.OpenSpec.upto Rows.bucketNilSpec).pre6 enc Try.prog Try.f10 Rows.bucketNilUptoRow.domain false) (((Rows.OpenSpec.upto Rows.bucketNilSpec).at Fi).post enc Try.prog Try.f10 false true false false):=by
 refine returnsInHanded_of_cond (C:=Try.checked) (s:=Rows.OpenSpec.upto Rows.bucketNilSpec) (k:=Rows.uptoSmall) rfl own started (by kernel_rfl) Try.func10
  (OpenSpec.witness (enc:=enc) (C:=Try.checked) (s:=Rows.OpenSpec.upto Rows.bucketNilSpec) (k:=Rows.uptoSmall) rfl false ⟨#[], #[.agg #[.int .i64 0, .string .empty, .int .i64 0, .int .i64 0, .int .i64 0]], []⟩ 12 (by kernel_rfl) (by kernel_rfl) (by kernel_rfl)
   (x:=([.agg [.lit (.int .i64 0), .lit (.string []), .agg [.lit (.int .i64 0), .lit (.int .i64 0), .lit (.int .i64 0)]]], [], [])) (by kernel_rfl) rfl (by kernel_rfl)) ?_
 intro W base args ds gs before hval hW _ hk _
 exact contract H enc W base args ds gs before hval hW hk
theorem and_i {a b:Bool} (h:a=true) (k:b=true):(a&&b)=true:=by rw [h, k]; rfl
set_option maxHeartbeats 12800000 in
theorem facts:joinedFacts Try.checked.prog 10 Try.f10 (Rows.OpenSpec.upto Rows.bucketNilSpec).bare Rows.bucketNilUptoRow=true:=by
 unfold joinedFacts
 repeat' with_reducible refine and_i ?_ ?_
 all_goals as_aux_lemma=>kernel_rfl
theorem proved:Rows.BucketNilUptoSaid :=
 OpenClaim.holds_of_cond 10 Try.f10 rfl rfl rfl rfl rfl rfl rfl ⟨rfl, rfl, rfl, rfl, rfl⟩ rfl rfl rfl rfl rfl (by kernel_rfl) Try.func10 facts
  (of_decide_eq_true (by kernel_rfl)) (by unfold Func.isWrapper; first | (rw [if_pos (by decide +kernel)]; kernel_rfl) | (rw [if_neg (by decide +kernel)]; exact ⟨rfl, rfl⟩))
  (fun os started H enc _ Fi=>lifted os started H enc Fi)
end Go.Proofs.Ytfjnkkfhhalepaa.bucketNil
