/- The law BucketOrder: for every input it returns true, and the input reads as it did; where the input is of bulk at most 1048576. -/
import Derived.Test.YtcmjinkfgbadoaaRows
import Derived.JoinedCond
import Derived.KernelRfl
import Derived.Test.YtcmjinkfgbadoaaBucketOrderP4
import Derived.Test.YtcmjinkfgbadoaaBucketOrderP5
import Derived.Test.YtcmjinkfgbadoaaBucketOrderP6
import Derived.Test.YtcmjinkfgbadoaaBucketOrderP7
import Derived.Test.YtcmjinkfgbadoaaBucketOrderP8
import Derived.Test.YtcmjinkfgbadoaaBucketOrderP9
import Derived.Test.YtcmjinkfgbadoaaBucketOrderP10
import Derived.Test.YtcmjinkfgbadoaaBucketOrderP11
import Derived.Test.YtcmjinkfgbadoaaBucketOrderP12
import Derived.Test.YtcmjinkfgbadoaaBucketOrderP13
import Derived.Test.YtcmjinkfgbadoaaBucketOrderP14
import Derived.Test.YtcmjinkfgbadoaaBucketOrderP15
import Derived.Test.YtcmjinkfgbadoaaBucketOrderP16
import Derived.Test.YtcmjinkfgbadoaaBucketOrderP17
import Derived.Test.YtcmjinkfgbadoaaBucketOrderP18
import Derived.Test.YtcmjinkfgbadoaaBucketOrderP19
import Derived.Test.YtcmjinkfgbadoaaBucketOrderP20
import Derived.Test.YtcmjinkfgbadoaaBucketOrderP21
import Derived.Test.YtcmjinkfgbadoaaBucketOrderP22
import Derived.Test.YtcmjinkfgbadoaaBucketOrderP23
import Derived.Test.YtcmjinkfgbadoaaBucketOrderP24
import Derived.Test.YtcmjinkfgbadoaaBucketOrderP25
namespace Go.Proofs.Ytcmjinkfgbadoaa.bucketOrder
open Go Go.Abs Go.RowKit Go.ChangeShapes
set_option linter.unusedVariables false
def ft:FT:=[(3, 273), (4, 274), (5, 329), (6, 81), (7, 88), (8, 305), (9, 306), (10, 143), (11, 145), (12, 307), (13, 163), (14, 308), (15, 192), (16, 309), (17, 150), (18, 148), (19, 310), (20, 261), (21, 91), (22, 92), (23, 93), (24, 94), (25, 98), (26, 100), (27, 102), (28, 103), (29, 107), (30, 106), (31, 101), (32, 105), (33, 164), (34, 34), (35, 167), (36, 131), (37, 33), (38, 114), (39, 115), (40, 116), (41, 117), (42, 99), (43, 108), (44, 121), (45, 45), (46, 193), (47, 194), (48, 128), (49, 129), (50, 130), (51, 120), (52, 48), (53, 49), (54, 52), (55, 211), (56, 212), (57, 213), (58, 214), (59, 215), (60, 216), (61, 217), (62, 218), (63, 219), (64, 220), (65, 133), (66, 134), (67, 135), (68, 66), (69, 67), (70, 54), (71, 228), (72, 229), (73, 230), (74, 231), (75, 232), (76, 200), (77, 137), (78, 70), (79, 71), (80, 69), (81, 247), (82, 138), (83, 72), (84, 73), (85, 74), (86, 75), (87, 76), (88, 77), (89, 78), (90, 79)]
def rt:List (Nat×Nat):=[(273, 3), (274, 4), (329, 5), (81, 6), (88, 7), (305, 8), (306, 9), (143, 10), (145, 11), (307, 12), (163, 13), (308, 14), (192, 15), (309, 16), (150, 17), (148, 18), (310, 19), (261, 20), (91, 21), (92, 22), (93, 23), (94, 24), (98, 25), (100, 26), (102, 27), (103, 28), (107, 29), (106, 30), (101, 31), (105, 32), (164, 33), (34, 34), (167, 35), (131, 36), (33, 37), (114, 38), (115, 39), (116, 40), (117, 41), (99, 42), (108, 43), (121, 44), (45, 45), (193, 46), (194, 47), (128, 48), (129, 49), (130, 50), (120, 51), (48, 52), (49, 53), (52, 54), (211, 55), (212, 56), (213, 57), (214, 58), (215, 59), (216, 60), (217, 61), (218, 62), (219, 63), (220, 64), (133, 65), (134, 66), (135, 67), (66, 68), (67, 69), (54, 70), (228, 71), (229, 72), (230, 73), (231, 74), (232, 75), (200, 76), (137, 77), (70, 78), (71, 79), (69, 80), (247, 81), (138, 82), (72, 83), (73, 84), (74, 85), (75, 86), (76, 87), (77, 88), (78, 89), (79, 90)]
def F (g:Nat):FuncId:=(ag rt (g % 1000)).getD 0
theorem hF (j q:Nat):F (j+1000 * q)=F j:=by unfold F; rw [Nat.add_mul_mod_self_left]
theorem hft:∀ f j, ag ft f=some j→F j=f:=aMQ (by kernel_rfl)
theorem hmix:Try.prog.follows .mixedOrders=true:=by kernel_rfl
theorem aMK:bS Try.prog F (F 143) f143.C:=dF (E:=f143.env) (ft:=ft) (np:=0) (fn:=Try.f10) (kills:=f143.kills) (cuts:=f143.cuts) (af:=f143.af) (bU hF) hft hmix (by kernel_rfl) (by kernel_rfl) (fun a=>by kernel_rfl) (fun _=>by kernel_rfl) (fun _=>by kernel_rfl) (fun a h=>Gv.of (f143.eq a) (f143.of a (f143.ok a h)))
theorem aMZ:bS Try.prog F (F 192) f192.C:=dF (E:=f192.env) (ft:=ft) (np:=1) (fn:=Try.f15) (kills:=f192.kills) (cuts:=f192.cuts) (af:=f192.af) (bU hF) hft hmix (by kernel_rfl) (by kernel_rfl) (fun a=>by kernel_rfl) (fun _=>by kernel_rfl) (fun _=>by kernel_rfl) (fun a h=>Gv.of (f192.eq a) (f192.of a (f192.ok a h)))
theorem c45:bS Try.prog F (F 45) f45.C:=dF (E:=f45.env) (ft:=ft) (np:=0) (fn:=Try.f45) (kills:=f45.kills) (cuts:=f45.cuts) (af:=f45.af) (bU hF) hft hmix (by kernel_rfl) (by kernel_rfl) (fun a=>by kernel_rfl) (fun _=>by kernel_rfl) (fun _=>by kernel_rfl) (fun a h=>Gv.of (f45.eq a) (f45.of a (f45.ok a h)))
theorem aME:bS Try.prog F (F 164) f164.C:=dF (E:=f164.env) (ft:=ft) (np:=0) (fn:=Try.f33) (kills:=f164.kills) (cuts:=f164.cuts) (af:=f164.af) (aQ c45 (bU hF)) hft hmix (by kernel_rfl) (by kernel_rfl) (fun a=>by kernel_rfl) (fun _=>by kernel_rfl) (fun _=>by kernel_rfl) (fun a h=>Gv.of (f164.eq a) (f164.of a (f164.ok a h)))
theorem aM6:bS Try.prog F (F 163) f163.C:=dF (E:=f163.env) (ft:=ft) (np:=1) (fn:=Try.f13) (kills:=f163.kills) (cuts:=f163.cuts) (af:=f163.af) (aQ aMZ (aQ aME (bU hF))) hft hmix (by kernel_rfl) (by kernel_rfl) (fun a=>by kernel_rfl) (fun _=>by kernel_rfl) (fun _=>by kernel_rfl) (fun a h=>Gv.of (f163.eq a) (f163.of a (f163.ok a h)))
theorem aMX:bS Try.prog F (F 145) f145.C:=dF (E:=f145.env) (ft:=ft) (np:=1) (fn:=Try.f11) (kills:=f145.kills) (cuts:=f145.cuts) (af:=f145.af) (aQ aM6 (aQ aME (bU hF))) hft hmix (by kernel_rfl) (by kernel_rfl) (fun a=>by kernel_rfl) (fun _=>by kernel_rfl) (fun _=>by kernel_rfl) (fun a h=>Gv.of (f145.eq a) (f145.of a (f145.ok a h)))
theorem c34:bS Try.prog F (F 34) f34.C:=dF (E:=f34.env) (ft:=ft) (np:=0) (fn:=Try.f34) (kills:=f34.kills) (cuts:=f34.cuts) (af:=f34.af) (bU hF) hft hmix (by kernel_rfl) (by kernel_rfl) (fun a=>by kernel_rfl) (fun _=>by kernel_rfl) (fun _=>by kernel_rfl) (fun a h=>Gv.of (f34.eq a) (f34.of a (f34.ok a h)))
theorem aMP:bS Try.prog F (F 194) f194.C:=dF (E:=f194.env) (ft:=ft) (np:=0) (fn:=Try.f47) (kills:=f194.kills) (cuts:=f194.cuts) (af:=f194.af) (aQ c45 (bU hF)) hft hmix (by kernel_rfl) (by kernel_rfl) (fun a=>by kernel_rfl) (fun _=>by kernel_rfl) (fun _=>by kernel_rfl) (fun a h=>Gv.of (f194.eq a) (f194.of a (f194.ok a h)))
theorem aND:bS Try.prog F (F 200) f200.C:=dF (E:=f200.env) (ft:=ft) (np:=0) (fn:=Try.f76) (kills:=f200.kills) (cuts:=f200.cuts) (af:=f200.af) (bU hF) hft hmix (by kernel_rfl) (by kernel_rfl) (fun a=>by kernel_rfl) (fun _=>by kernel_rfl) (fun _=>by kernel_rfl) (fun a h=>Gv.of (f200.eq a) (f200.of a (f200.ok a h)))
theorem aE2:bS Try.prog F (F 217) f217.C:=dF (E:=f217.env) (ft:=ft) (np:=0) (fn:=Try.f61) (kills:=f217.kills) (cuts:=f217.cuts) (af:=f217.af) (aQ aND (bU hF)) hft hmix (by kernel_rfl) (by kernel_rfl) (fun a=>by kernel_rfl) (fun _=>by kernel_rfl) (fun _=>by kernel_rfl) (fun a h=>Gv.of (f217.eq a) (f217.of a (f217.ok a h)))
theorem aNH:bS Try.prog F (F 211) f211.C:=dF (E:=f211.env) (ft:=ft) (np:=1) (fn:=Try.f55) (kills:=f211.kills) (cuts:=f211.cuts) (af:=f211.af) (aQ aE2 (bU hF)) hft hmix (by kernel_rfl) (by kernel_rfl) (fun a=>by kernel_rfl) (fun _=>by kernel_rfl) (fun _=>by kernel_rfl) (fun a h=>Gv.of (f211.eq a) (f211.of a (f211.ok a h)))
theorem aNX:bS Try.prog F (F 228) f228.C:=dF (E:=f228.env) (ft:=ft) (np:=1) (fn:=Try.f71) (kills:=f228.kills) (cuts:=f228.cuts) (af:=f228.af) (aQ aE2 (bU hF)) hft hmix (by kernel_rfl) (by kernel_rfl) (fun a=>by kernel_rfl) (fun _=>by kernel_rfl) (fun _=>by kernel_rfl) (fun a h=>Gv.of (f228.eq a) (f228.of a (f228.ok a h)))
theorem aNI:bS Try.prog F (F 212) f212.C:=dF (E:=f212.env) (ft:=ft) (np:=1) (fn:=Try.f56) (kills:=f212.kills) (cuts:=f212.cuts) (af:=f212.af) (aQ aNX (bU hF)) hft hmix (by kernel_rfl) (by kernel_rfl) (fun a=>by kernel_rfl) (fun _=>by kernel_rfl) (fun _=>by kernel_rfl) (fun a h=>Gv.of (f212.eq a) (f212.of a (f212.ok a h)))
theorem aNP:bS Try.prog F (F 229) f229.C:=dF (E:=f229.env) (ft:=ft) (np:=0) (fn:=Try.f72) (kills:=f229.kills) (cuts:=f229.cuts) (af:=f229.af) (aQ aMP (bU hF)) hft hmix (by kernel_rfl) (by kernel_rfl) (fun a=>by kernel_rfl) (fun _=>by kernel_rfl) (fun _=>by kernel_rfl) (fun a h=>Gv.of (f229.eq a) (f229.of a (f229.ok a h)))
theorem aNV:bS Try.prog F (F 230) f230.C:=dF (E:=f230.env) (ft:=ft) (np:=1) (fn:=Try.f73) (kills:=f230.kills) (cuts:=f230.cuts) (af:=f230.af) (bU hF) hft hmix (by kernel_rfl) (by kernel_rfl) (fun a=>by kernel_rfl) (fun _=>by kernel_rfl) (fun _=>by kernel_rfl) (fun a h=>Gv.of (f230.eq a) (f230.of a (f230.ok a h)))
theorem aNG:bS Try.prog F (F 213) f213.C:=dF (E:=f213.env) (ft:=ft) (np:=1) (fn:=Try.f57) (kills:=f213.kills) (cuts:=f213.cuts) (af:=f213.af) (aQ aNP (aQ aNV (bU hF))) hft hmix (by kernel_rfl) (by kernel_rfl) (fun a=>by kernel_rfl) (fun _=>by kernel_rfl) (fun _=>by kernel_rfl) (fun a h=>Gv.of (f213.eq a) (f213.of a (f213.ok a h)))
theorem aM8:bS Try.prog F (F 247) f247.C:=dF (E:=f247.env) (ft:=ft) (np:=2) (fn:=Try.f81) (kills:=f247.kills) (cuts:=f247.cuts) (af:=f247.af) (aQ aE2 (bU hF)) hft hmix (by kernel_rfl) (by kernel_rfl) (fun a=>by kernel_rfl) (fun _=>by kernel_rfl) (fun _=>by kernel_rfl) (fun a h=>Gv.of (f247.eq a) (f247.of a (f247.ok a h)))
theorem aM0:bS Try.prog F (F 232) f232.C:=dF (E:=f232.env) (ft:=ft) (np:=2) (fn:=Try.f75) (kills:=f232.kills) (cuts:=f232.cuts) (af:=f232.af) (aQ aM8 (bU hF)) hft hmix (by kernel_rfl) (by kernel_rfl) (fun a=>by kernel_rfl) (fun _=>by kernel_rfl) (fun _=>by kernel_rfl) (fun a h=>Gv.of (f232.eq a) (f232.of a (f232.ok a h)))
theorem aNQ:bS Try.prog F (F 231) f231.C:=dF (E:=f231.env) (ft:=ft) (np:=2) (fn:=Try.f74) (kills:=f231.kills) (cuts:=f231.cuts) (af:=f231.af) (aQ aM0 (bU hF)) hft hmix (by kernel_rfl) (by kernel_rfl) (fun a=>by kernel_rfl) (fun _=>by kernel_rfl) (fun _=>by kernel_rfl) (fun a h=>Gv.of (f231.eq a) (f231.of a (f231.ok a h)))
theorem aNN:bS Try.prog F (F 214) f214.C:=dF (E:=f214.env) (ft:=ft) (np:=1) (fn:=Try.f58) (kills:=f214.kills) (cuts:=f214.cuts) (af:=f214.af) (aQ aNQ (aQ aM0 (bU hF))) hft hmix (by kernel_rfl) (by kernel_rfl) (fun a=>by kernel_rfl) (fun _=>by kernel_rfl) (fun _=>by kernel_rfl) (fun a h=>Gv.of (f214.eq a) (f214.of a (f214.ok a h)))
theorem aNT:bS Try.prog F (F 215) f215.C:=dF (E:=f215.env) (ft:=ft) (np:=1) (fn:=Try.f59) (kills:=f215.kills) (cuts:=f215.cuts) (af:=f215.af) (bU hF) hft hmix (by kernel_rfl) (by kernel_rfl) (fun a=>by kernel_rfl) (fun _=>by kernel_rfl) (fun _=>by kernel_rfl) (fun a h=>Gv.of (f215.eq a) (f215.of a (f215.ok a h)))
theorem aNF:bS Try.prog F (F 216) f216.C:=dF (E:=f216.env) (ft:=ft) (np:=1) (fn:=Try.f60) (kills:=f216.kills) (cuts:=f216.cuts) (af:=f216.af) (aQ aE2 (bU hF)) hft hmix (by kernel_rfl) (by kernel_rfl) (fun a=>by kernel_rfl) (fun _=>by kernel_rfl) (fun _=>by kernel_rfl) (fun a h=>Gv.of (f216.eq a) (f216.of a (f216.ok a h)))
theorem aNS:bS Try.prog F (F 218) f218.C:=dF (E:=f218.env) (ft:=ft) (np:=1) (fn:=Try.f62) (kills:=f218.kills) (cuts:=f218.cuts) (af:=f218.af) (aQ aE2 (bU hF)) hft hmix (by kernel_rfl) (by kernel_rfl) (fun a=>by kernel_rfl) (fun _=>by kernel_rfl) (fun _=>by kernel_rfl) (fun a h=>Gv.of (f218.eq a) (f218.of a (f218.ok a h)))
theorem aNE:bS Try.prog F (F 219) f219.C:=dF (E:=f219.env) (ft:=ft) (np:=1) (fn:=Try.f63) (kills:=f219.kills) (cuts:=f219.cuts) (af:=f219.af) (aQ aE2 (bU hF)) hft hmix (by kernel_rfl) (by kernel_rfl) (fun a=>by kernel_rfl) (fun _=>by kernel_rfl) (fun _=>by kernel_rfl) (fun a h=>Gv.of (f219.eq a) (f219.of a (f219.ok a h)))
theorem aNO:bS Try.prog F (F 193) f193.C:=aL4 (ft:=ft) (np:=1) (fn:=Try.f46) (kills:=f193.kills) (cuts:=f193.cuts) (af:=f193.af) (aQ aNH (aQ aNI (aQ aNG (aQ aNN (aQ aNT (aQ aNF (aQ aE2 (aQ aNS (aQ aNE (bU hF)))))))))) hft hmix (by kernel_rfl) (by kernel_rfl) (fun a=>by kernel_rfl) aFB (fun _=>by kernel_rfl) (fun _=>by kernel_rfl) (En:=f193.env) (fun _=>rfl) (fun n a h hn=>Gv.of (f193.eq a n) (f193.of a n (f193.ok a h n hn)))
theorem aNR:bS Try.prog F (F 167) f167.C:=dF (E:=f167.env) (ft:=ft) (np:=1) (fn:=Try.f35) (kills:=f167.kills) (cuts:=f167.cuts) (af:=f167.af) (aQ aMP (aQ aNO (bU hF))) hft hmix (by kernel_rfl) (by kernel_rfl) (fun a=>by kernel_rfl) (fun _=>by kernel_rfl) (fun _=>by kernel_rfl) (fun a h=>Gv.of (f167.eq a) (f167.of a (f167.ok a h)))
theorem aM2:bS Try.prog F (F 148) f148.C:=dF (E:=f148.env) (ft:=ft) (np:=1) (fn:=Try.f18) (kills:=f148.kills) (cuts:=f148.cuts) (af:=f148.af) (aQ aME (aQ c34 (aQ aNR (bU hF)))) hft hmix (by kernel_rfl) (by kernel_rfl) (fun a=>by kernel_rfl) (fun _=>by kernel_rfl) (fun _=>by kernel_rfl) (fun a h=>Gv.of (f148.eq a) (f148.of a (f148.ok a h)))
theorem aMY:bS Try.prog F (F 261) f261.C:=dF (E:=f261.env) (ft:=ft) (np:=1) (fn:=Try.f20) (kills:=f261.kills) (cuts:=f261.cuts) (af:=f261.af) (bU hF) hft hmix (by kernel_rfl) (by kernel_rfl) (fun a=>by kernel_rfl) (fun _=>by kernel_rfl) (fun _=>by kernel_rfl) (fun a h=>Gv.of (f261.eq a) (f261.of a (f261.ok a h)))
theorem aNA:bS Try.prog F (F 305) f305.C:=dF (E:=f305.env) (ft:=ft) (np:=0) (fn:=Try.f8) (kills:=f305.kills) (cuts:=f305.cuts) (af:=f305.af) (aQ aMK (aQ aMX (aQ aM2 (aQ aMY (bU hF))))) hft hmix (by kernel_rfl) (by kernel_rfl) (fun a=>by kernel_rfl) (fun _=>by kernel_rfl) (fun _=>by kernel_rfl) (fun a h=>Gv.of (f305.eq a) (f305.of a (f305.ok a h)))
theorem aM7:bS Try.prog F (F 306) f306.C:=dF (E:=f306.env) (ft:=ft) (np:=0) (fn:=Try.f9) (kills:=f306.kills) (cuts:=f306.cuts) (af:=f306.af) (bU hF) hft hmix (by kernel_rfl) (by kernel_rfl) (fun a=>by kernel_rfl) (fun _=>by kernel_rfl) (fun _=>by kernel_rfl) (fun a h=>Gv.of (f306.eq a) (f306.of a (f306.ok a h)))
theorem aNC:bS Try.prog F (F 150) f150.C:=dF (E:=f150.env) (ft:=ft) (np:=0) (fn:=Try.f17) (kills:=f150.kills) (cuts:=f150.cuts) (af:=f150.af) (bU hF) hft hmix (by kernel_rfl) (by kernel_rfl) (fun a=>by kernel_rfl) (fun _=>by kernel_rfl) (fun _=>by kernel_rfl) (fun a h=>Gv.of (f150.eq a) (f150.of a (f150.ok a h)))
theorem aNJ:bS Try.prog F (F 274) f274.C:=dF (E:=f274.env) (ft:=ft) (np:=0) (fn:=Try.f4) (kills:=f274.kills) (cuts:=f274.cuts) (af:=f274.af) (aQ aNA (aQ aM7 (aQ aMK (aQ aMX (aQ aMZ (aQ aM2 (aQ aNC (aQ aMY (bU hF))))))))) hft hmix (by kernel_rfl) (by kernel_rfl) (fun a=>by kernel_rfl) (fun _=>by kernel_rfl) (fun _=>by kernel_rfl) (fun a h=>Gv.of (f274.eq a) (f274.of a (f274.ok a h)))
theorem rd3:hU Try.prog 3 gB:=aHT (by kernel_rfl) (by kernel_rfl)
theorem rd9:hU Try.prog 9 iA:=aG6 (by kernel_rfl) (by kernel_rfl)
theorem aNW:wB Try.prog [(3, 0), (3, 1), (3, 2)] 0 (cN gB (cN gB gB)):=lZ rd3 (lZ rd3 (yM rd3))
theorem aMR:hU Try.prog 38 cX:=aDH (m:=3) (e:=3) (by kernel_rfl) (by kernel_rfl) (cast (by kernel_rfl) aNW)
theorem aNU:wB Try.prog [(3, 0), (9, 1), (38, 2)] 0 (cN gB (cN iA cX)):=lZ rd3 (lZ rd9 (yM aMR))
theorem aNZ:hU Try.prog 40 cW:=aBI (fs:=(match Try.prog.underlying 40 with | some (.struct fs)=>fs | _=>#[])) (by kernel_rfl) (by kernel_rfl) (cast (by kernel_rfl) aNU)
theorem aNK:hU Try.prog 22 b6:=aDK (e:=40) (by kernel_rfl) (by kernel_rfl) aNZ (by decide)
theorem args:aH0 Try.prog Try.f4.params.toList f274.args f274.wf f274.size:=cast (by kernel_rfl) (zX (g:=false) (by kernel_rfl) aNK (.inr rfl) (aJ2 (g:=true) (by kernel_rfl) aMR (.inl rfl)))
theorem cz:bS Try.prog F 4 f274.C:=cast (by kernel_rfl) aNJ
def bk (H:Type):aGV H:=⟨Rows.uptoBulk, Rows.uptoBulkAll, fun _=>by simp [Rows.uptoBulk], fun d=>by
 cases d with
 | lit l=>cases l <;> simp [Rows.uptoBulk]
 | _=>simp [Rows.uptoBulk], fun _ _=>by simp [Rows.uptoBulk], fun _=>by simp [Rows.uptoBulk], by simp [Rows.uptoBulkAll], fun _ _=>by simp [Rows.uptoBulkAll]⟩
theorem allowed:∀ t∈Try.f4.params.toList, Try.prog.readableRec t=true∧t < Try.prog.types.size:=by
 have h:(Try.f4.params.toList.all fun t=>Try.prog.readableRec t&&decide (t < Try.prog.types.size))=true:=by kernel_rfl
 intro t ht
 have:=List.all_eq_true.1 h t ht
 rw [Bool.and_eq_true, decide_eq_true_eq] at this
 exact this
set_option maxRecDepth 100000 in
theorem contract (H:Type) (enc:TypeId×Value→H) (W:World) (base:Nat) (args_:Array Value) (ds gs:List (DataW H)) (before:List MemPlace)
  (hval:∀ (j:Nat) t v, Try.f4.params[j]? = some t→args_[j]? = some v→Value.okWide Try.prog W .any base t v)
  (hW:DataW.Whole enc Try.prog Try.f4.params.toList Rows.bucketOrderSpec.vars false W args_.toList ds gs before) (hk:Rows.uptoSmall H (ds++gs)=true) :
  Calls Try.prog 4 args_ W fun e W'=>∃ v, e=.returned v∧Rows.bucketOrderSpec.post enc Try.prog Try.f4 false true false false W args_ v W' :=
 aAK (N:=1048576) (rt:=4) (fn:=Try.f4) (bk H) cz args (fun a h1 h2=>⟨h1, h2⟩) (by kernel_rfl) (fun t ht=>allowed t ht) (by kernel_rfl) (by kernel_rfl) rfl (fun ds h=>by
  match ds, h with
  | [d0, d1], _=>rfl) hval hW (show Rows.uptoBulkAll (ds++gs)≤1048576 from of_decide_eq_true hk)
theorem own:ownKnob Try.prog.godebug=none:=by kernel_rfl
set_option maxRecDepth 100000 in
theorem lifted (os:Os) (started:os.Started) (H:Type) (enc:TypeId×Value→H) (Fi:Stop.Interp) :
  ReturnsInHanded {} Try.checked os 4 .any ((Rows.OpenSpec.upto Rows.bucketOrderSpec).pre6 enc Try.prog Try.f4 Rows.bucketOrderUptoRow.domain false) (((Rows.OpenSpec.upto Rows.bucketOrderSpec).at Fi).post enc Try.prog Try.f4 false true false false):=by
 refine returnsInHanded_of_cond (C:=Try.checked) (s:=Rows.OpenSpec.upto Rows.bucketOrderSpec) (k:=Rows.uptoSmall) rfl own started (by kernel_rfl) Try.func4
  (OpenSpec.witness (enc:=enc) (C:=Try.checked) (s:=Rows.OpenSpec.upto Rows.bucketOrderSpec) (k:=Rows.uptoSmall) rfl false ⟨#[], #[.slice none 0 0, .agg #[.int .i64 0, .int .i64 0, .int .i64 0]], []⟩ 12 (by kernel_rfl) (by kernel_rfl) (by kernel_rfl)
   (x:=([.nil, .agg [.lit (.int .i64 0), .lit (.int .i64 0), .lit (.int .i64 0)]], [], [])) (by kernel_rfl) rfl (by kernel_rfl)) ?_
 intro W base args ds gs before hval hW _ hk _
 exact contract H enc W base args ds gs before hval hW hk
theorem and_i {a b:Bool} (h:a=true) (k:b=true):(a&&b)=true:=by rw [h, k]; rfl
set_option maxHeartbeats 12800000 in
theorem facts:joinedFacts Try.checked.prog 4 Try.f4 (Rows.OpenSpec.upto Rows.bucketOrderSpec).bare Rows.bucketOrderUptoRow=true:=by
 unfold joinedFacts
 repeat' with_reducible refine and_i ?_ ?_
 all_goals as_aux_lemma=>kernel_rfl
theorem proved:Rows.BucketOrderUptoSaid :=
 OpenClaim.holds_of_cond 4 Try.f4 rfl rfl rfl rfl rfl rfl rfl ⟨rfl, rfl, rfl, rfl, rfl⟩ rfl rfl rfl rfl rfl (by kernel_rfl) Try.func4 facts
  (of_decide_eq_true (by kernel_rfl)) (by unfold Func.isWrapper; first | (rw [if_pos (by decide +kernel)]; kernel_rfl) | (rw [if_neg (by decide +kernel)]; exact ⟨rfl, rfl⟩))
  (fun os started H enc _ Fi=>lifted os started H enc Fi)
end Go.Proofs.Ytcmjinkfgbadoaa.bucketOrder
