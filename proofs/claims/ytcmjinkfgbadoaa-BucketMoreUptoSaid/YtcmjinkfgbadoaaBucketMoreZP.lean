/- The law BucketMore: for every input it returns true, and the input reads as it did; where the input is of bulk at most 1048576. -/
import Derived.Test.YtcmjinkfgbadoaaRows
import Derived.JoinedCond
import Derived.KernelRfl
import Derived.Test.YtcmjinkfgbadoaaBucketMoreP4
import Derived.Test.YtcmjinkfgbadoaaBucketMoreP5
import Derived.Test.YtcmjinkfgbadoaaBucketMoreP6
import Derived.Test.YtcmjinkfgbadoaaBucketMoreP7
import Derived.Test.YtcmjinkfgbadoaaBucketMoreP8
import Derived.Test.YtcmjinkfgbadoaaBucketMoreP9
import Derived.Test.YtcmjinkfgbadoaaBucketMoreP10
import Derived.Test.YtcmjinkfgbadoaaBucketMoreP11
import Derived.Test.YtcmjinkfgbadoaaBucketMoreP12
import Derived.Test.YtcmjinkfgbadoaaBucketMoreP13
import Derived.Test.YtcmjinkfgbadoaaBucketMoreP14
import Derived.Test.YtcmjinkfgbadoaaBucketMoreP15
import Derived.Test.YtcmjinkfgbadoaaBucketMoreP16
import Derived.Test.YtcmjinkfgbadoaaBucketMoreP17
import Derived.Test.YtcmjinkfgbadoaaBucketMoreP18
import Derived.Test.YtcmjinkfgbadoaaBucketMoreP19
import Derived.Test.YtcmjinkfgbadoaaBucketMoreP20
import Derived.Test.YtcmjinkfgbadoaaBucketMoreP21
import Derived.Test.YtcmjinkfgbadoaaBucketMoreP22
import Derived.Test.YtcmjinkfgbadoaaBucketMoreP23
import Derived.Test.YtcmjinkfgbadoaaBucketMoreP24
import Derived.Test.YtcmjinkfgbadoaaBucketMoreP25
namespace Go.Proofs.Ytcmjinkfgbadoaa.bucketMore
open Go Go.Abs Go.RowKit Go.ChangeShapes
set_option linter.unusedVariables false
def ft:FT:=[(3, 273), (4, 274), (5, 329), (6, 81), (7, 88), (8, 305), (9, 306), (10, 143), (11, 145), (12, 307), (13, 163), (14, 308), (15, 192), (16, 309), (17, 150), (18, 148), (19, 310), (20, 261), (21, 91), (22, 92), (23, 93), (24, 94), (25, 98), (26, 100), (27, 102), (28, 103), (29, 107), (30, 106), (31, 101), (32, 105), (33, 164), (34, 34), (35, 167), (36, 131), (37, 33), (38, 114), (39, 115), (40, 116), (41, 117), (42, 99), (43, 108), (44, 121), (45, 45), (46, 193), (47, 194), (48, 128), (49, 129), (50, 130), (51, 120), (52, 48), (53, 49), (54, 52), (55, 211), (56, 212), (57, 213), (58, 214), (59, 215), (60, 216), (61, 217), (62, 218), (63, 219), (64, 220), (65, 133), (66, 134), (67, 135), (68, 66), (69, 67), (70, 54), (71, 228), (72, 229), (73, 230), (74, 231), (75, 232), (76, 200), (77, 137), (78, 70), (79, 71), (80, 69), (81, 247), (82, 138), (83, 72), (84, 73), (85, 74), (86, 75), (87, 76), (88, 77), (89, 78), (90, 79)]
def rt:List (Nat×Nat):=[(273, 3), (274, 4), (329, 5), (81, 6), (88, 7), (305, 8), (306, 9), (143, 10), (145, 11), (307, 12), (163, 13), (308, 14), (192, 15), (309, 16), (150, 17), (148, 18), (310, 19), (261, 20), (91, 21), (92, 22), (93, 23), (94, 24), (98, 25), (100, 26), (102, 27), (103, 28), (107, 29), (106, 30), (101, 31), (105, 32), (164, 33), (34, 34), (167, 35), (131, 36), (33, 37), (114, 38), (115, 39), (116, 40), (117, 41), (99, 42), (108, 43), (121, 44), (45, 45), (193, 46), (194, 47), (128, 48), (129, 49), (130, 50), (120, 51), (48, 52), (49, 53), (52, 54), (211, 55), (212, 56), (213, 57), (214, 58), (215, 59), (216, 60), (217, 61), (218, 62), (219, 63), (220, 64), (133, 65), (134, 66), (135, 67), (66, 68), (67, 69), (54, 70), (228, 71), (229, 72), (230, 73), (231, 74), (232, 75), (200, 76), (137, 77), (70, 78), (71, 79), (69, 80), (247, 81), (138, 82), (72, 83), (73, 84), (74, 85), (75, 86), (76, 87), (77, 88), (78, 89), (79, 90)]
def F (g:Nat):FuncId:=(ag rt (g % 1000)).getD 0
theorem hF (j q:Nat):F (j+1000 * q)=F j:=by unfold F; rw [Nat.add_mul_mod_self_left]
theorem hft:∀ f j, ag ft f=some j→F j=f:=aMR (by kernel_rfl)
theorem hmix:Try.prog.follows .mixedOrders=true:=by kernel_rfl
theorem aM0:bT Try.prog F (F 143) f143.C:=dJ (E:=f143.env) (ft:=ft) (np:=0) (fn:=Try.f10) (kills:=f143.kills) (cuts:=f143.cuts) (af:=f143.af) (bV hF) hft hmix (by kernel_rfl) (by kernel_rfl) (fun a=>by kernel_rfl) (fun _=>by kernel_rfl) (fun _=>by kernel_rfl) (fun a h=>Gv.of (f143.eq a) (f143.of a (f143.ok a h)))
theorem aM4:bT Try.prog F (F 192) f192.C:=dJ (E:=f192.env) (ft:=ft) (np:=1) (fn:=Try.f15) (kills:=f192.kills) (cuts:=f192.cuts) (af:=f192.af) (bV hF) hft hmix (by kernel_rfl) (by kernel_rfl) (fun a=>by kernel_rfl) (fun _=>by kernel_rfl) (fun _=>by kernel_rfl) (fun a h=>Gv.of (f192.eq a) (f192.of a (f192.ok a h)))
theorem c45:bT Try.prog F (F 45) f45.C:=dJ (E:=f45.env) (ft:=ft) (np:=0) (fn:=Try.f45) (kills:=f45.kills) (cuts:=f45.cuts) (af:=f45.af) (bV hF) hft hmix (by kernel_rfl) (by kernel_rfl) (fun a=>by kernel_rfl) (fun _=>by kernel_rfl) (fun _=>by kernel_rfl) (fun a h=>Gv.of (f45.eq a) (f45.of a (f45.ok a h)))
theorem aMK:bT Try.prog F (F 164) f164.C:=dJ (E:=f164.env) (ft:=ft) (np:=0) (fn:=Try.f33) (kills:=f164.kills) (cuts:=f164.cuts) (af:=f164.af) (aR c45 (bV hF)) hft hmix (by kernel_rfl) (by kernel_rfl) (fun a=>by kernel_rfl) (fun _=>by kernel_rfl) (fun _=>by kernel_rfl) (fun a h=>Gv.of (f164.eq a) (f164.of a (f164.ok a h)))
theorem aND:bT Try.prog F (F 163) f163.C:=dJ (E:=f163.env) (ft:=ft) (np:=1) (fn:=Try.f13) (kills:=f163.kills) (cuts:=f163.cuts) (af:=f163.af) (aR aM4 (aR aMK (bV hF))) hft hmix (by kernel_rfl) (by kernel_rfl) (fun a=>by kernel_rfl) (fun _=>by kernel_rfl) (fun _=>by kernel_rfl) (fun a h=>Gv.of (f163.eq a) (f163.of a (f163.ok a h)))
theorem aMV:bT Try.prog F (F 145) f145.C:=dJ (E:=f145.env) (ft:=ft) (np:=1) (fn:=Try.f11) (kills:=f145.kills) (cuts:=f145.cuts) (af:=f145.af) (aR aND (aR aMK (bV hF))) hft hmix (by kernel_rfl) (by kernel_rfl) (fun a=>by kernel_rfl) (fun _=>by kernel_rfl) (fun _=>by kernel_rfl) (fun a h=>Gv.of (f145.eq a) (f145.of a (f145.ok a h)))
theorem c34:bT Try.prog F (F 34) f34.C:=dJ (E:=f34.env) (ft:=ft) (np:=0) (fn:=Try.f34) (kills:=f34.kills) (cuts:=f34.cuts) (af:=f34.af) (bV hF) hft hmix (by kernel_rfl) (by kernel_rfl) (fun a=>by kernel_rfl) (fun _=>by kernel_rfl) (fun _=>by kernel_rfl) (fun a h=>Gv.of (f34.eq a) (f34.of a (f34.ok a h)))
theorem aMP:bT Try.prog F (F 194) f194.C:=dJ (E:=f194.env) (ft:=ft) (np:=0) (fn:=Try.f47) (kills:=f194.kills) (cuts:=f194.cuts) (af:=f194.af) (aR c45 (bV hF)) hft hmix (by kernel_rfl) (by kernel_rfl) (fun a=>by kernel_rfl) (fun _=>by kernel_rfl) (fun _=>by kernel_rfl) (fun a h=>Gv.of (f194.eq a) (f194.of a (f194.ok a h)))
theorem aNR:bT Try.prog F (F 200) f200.C:=dJ (E:=f200.env) (ft:=ft) (np:=0) (fn:=Try.f76) (kills:=f200.kills) (cuts:=f200.cuts) (af:=f200.af) (bV hF) hft hmix (by kernel_rfl) (by kernel_rfl) (fun a=>by kernel_rfl) (fun _=>by kernel_rfl) (fun _=>by kernel_rfl) (fun a h=>Gv.of (f200.eq a) (f200.of a (f200.ok a h)))
theorem aFL:bT Try.prog F (F 217) f217.C:=dJ (E:=f217.env) (ft:=ft) (np:=0) (fn:=Try.f61) (kills:=f217.kills) (cuts:=f217.cuts) (af:=f217.af) (aR aNR (bV hF)) hft hmix (by kernel_rfl) (by kernel_rfl) (fun a=>by kernel_rfl) (fun _=>by kernel_rfl) (fun _=>by kernel_rfl) (fun a h=>Gv.of (f217.eq a) (f217.of a (f217.ok a h)))
theorem aNL:bT Try.prog F (F 211) f211.C:=dJ (E:=f211.env) (ft:=ft) (np:=1) (fn:=Try.f55) (kills:=f211.kills) (cuts:=f211.cuts) (af:=f211.af) (aR aFL (bV hF)) hft hmix (by kernel_rfl) (by kernel_rfl) (fun a=>by kernel_rfl) (fun _=>by kernel_rfl) (fun _=>by kernel_rfl) (fun a h=>Gv.of (f211.eq a) (f211.of a (f211.ok a h)))
theorem aNG:bT Try.prog F (F 228) f228.C:=dJ (E:=f228.env) (ft:=ft) (np:=1) (fn:=Try.f71) (kills:=f228.kills) (cuts:=f228.cuts) (af:=f228.af) (aR aFL (bV hF)) hft hmix (by kernel_rfl) (by kernel_rfl) (fun a=>by kernel_rfl) (fun _=>by kernel_rfl) (fun _=>by kernel_rfl) (fun a h=>Gv.of (f228.eq a) (f228.of a (f228.ok a h)))
theorem aNP:bT Try.prog F (F 212) f212.C:=dJ (E:=f212.env) (ft:=ft) (np:=1) (fn:=Try.f56) (kills:=f212.kills) (cuts:=f212.cuts) (af:=f212.af) (aR aNG (bV hF)) hft hmix (by kernel_rfl) (by kernel_rfl) (fun a=>by kernel_rfl) (fun _=>by kernel_rfl) (fun _=>by kernel_rfl) (fun a h=>Gv.of (f212.eq a) (f212.of a (f212.ok a h)))
theorem aM2:bT Try.prog F (F 229) f229.C:=dJ (E:=f229.env) (ft:=ft) (np:=0) (fn:=Try.f72) (kills:=f229.kills) (cuts:=f229.cuts) (af:=f229.af) (aR aMP (bV hF)) hft hmix (by kernel_rfl) (by kernel_rfl) (fun a=>by kernel_rfl) (fun _=>by kernel_rfl) (fun _=>by kernel_rfl) (fun a h=>Gv.of (f229.eq a) (f229.of a (f229.ok a h)))
theorem aNU:bT Try.prog F (F 230) f230.C:=dJ (E:=f230.env) (ft:=ft) (np:=1) (fn:=Try.f73) (kills:=f230.kills) (cuts:=f230.cuts) (af:=f230.af) (bV hF) hft hmix (by kernel_rfl) (by kernel_rfl) (fun a=>by kernel_rfl) (fun _=>by kernel_rfl) (fun _=>by kernel_rfl) (fun a h=>Gv.of (f230.eq a) (f230.of a (f230.ok a h)))
theorem aM6:bT Try.prog F (F 213) f213.C:=dJ (E:=f213.env) (ft:=ft) (np:=1) (fn:=Try.f57) (kills:=f213.kills) (cuts:=f213.cuts) (af:=f213.af) (aR aM2 (aR aNU (bV hF))) hft hmix (by kernel_rfl) (by kernel_rfl) (fun a=>by kernel_rfl) (fun _=>by kernel_rfl) (fun _=>by kernel_rfl) (fun a h=>Gv.of (f213.eq a) (f213.of a (f213.ok a h)))
theorem aNV:bT Try.prog F (F 247) f247.C:=dJ (E:=f247.env) (ft:=ft) (np:=2) (fn:=Try.f81) (kills:=f247.kills) (cuts:=f247.cuts) (af:=f247.af) (aR aFL (bV hF)) hft hmix (by kernel_rfl) (by kernel_rfl) (fun a=>by kernel_rfl) (fun _=>by kernel_rfl) (fun _=>by kernel_rfl) (fun a h=>Gv.of (f247.eq a) (f247.of a (f247.ok a h)))
theorem aMN:bT Try.prog F (F 232) f232.C:=dJ (E:=f232.env) (ft:=ft) (np:=2) (fn:=Try.f75) (kills:=f232.kills) (cuts:=f232.cuts) (af:=f232.af) (aR aNV (bV hF)) hft hmix (by kernel_rfl) (by kernel_rfl) (fun a=>by kernel_rfl) (fun _=>by kernel_rfl) (fun _=>by kernel_rfl) (fun a h=>Gv.of (f232.eq a) (f232.of a (f232.ok a h)))
theorem aNN:bT Try.prog F (F 231) f231.C:=dJ (E:=f231.env) (ft:=ft) (np:=2) (fn:=Try.f74) (kills:=f231.kills) (cuts:=f231.cuts) (af:=f231.af) (aR aMN (bV hF)) hft hmix (by kernel_rfl) (by kernel_rfl) (fun a=>by kernel_rfl) (fun _=>by kernel_rfl) (fun _=>by kernel_rfl) (fun a h=>Gv.of (f231.eq a) (f231.of a (f231.ok a h)))
theorem aNA:bT Try.prog F (F 214) f214.C:=dJ (E:=f214.env) (ft:=ft) (np:=1) (fn:=Try.f58) (kills:=f214.kills) (cuts:=f214.cuts) (af:=f214.af) (aR aNN (aR aMN (bV hF))) hft hmix (by kernel_rfl) (by kernel_rfl) (fun a=>by kernel_rfl) (fun _=>by kernel_rfl) (fun _=>by kernel_rfl) (fun a h=>Gv.of (f214.eq a) (f214.of a (f214.ok a h)))
theorem aNW:bT Try.prog F (F 215) f215.C:=dJ (E:=f215.env) (ft:=ft) (np:=1) (fn:=Try.f59) (kills:=f215.kills) (cuts:=f215.cuts) (af:=f215.af) (bV hF) hft hmix (by kernel_rfl) (by kernel_rfl) (fun a=>by kernel_rfl) (fun _=>by kernel_rfl) (fun _=>by kernel_rfl) (fun a h=>Gv.of (f215.eq a) (f215.of a (f215.ok a h)))
theorem aNO:bT Try.prog F (F 216) f216.C:=dJ (E:=f216.env) (ft:=ft) (np:=1) (fn:=Try.f60) (kills:=f216.kills) (cuts:=f216.cuts) (af:=f216.af) (aR aFL (bV hF)) hft hmix (by kernel_rfl) (by kernel_rfl) (fun a=>by kernel_rfl) (fun _=>by kernel_rfl) (fun _=>by kernel_rfl) (fun a h=>Gv.of (f216.eq a) (f216.of a (f216.ok a h)))
theorem aM3:bT Try.prog F (F 218) f218.C:=dJ (E:=f218.env) (ft:=ft) (np:=1) (fn:=Try.f62) (kills:=f218.kills) (cuts:=f218.cuts) (af:=f218.af) (aR aFL (bV hF)) hft hmix (by kernel_rfl) (by kernel_rfl) (fun a=>by kernel_rfl) (fun _=>by kernel_rfl) (fun _=>by kernel_rfl) (fun a h=>Gv.of (f218.eq a) (f218.of a (f218.ok a h)))
theorem aNH:bT Try.prog F (F 219) f219.C:=dJ (E:=f219.env) (ft:=ft) (np:=1) (fn:=Try.f63) (kills:=f219.kills) (cuts:=f219.cuts) (af:=f219.af) (aR aFL (bV hF)) hft hmix (by kernel_rfl) (by kernel_rfl) (fun a=>by kernel_rfl) (fun _=>by kernel_rfl) (fun _=>by kernel_rfl) (fun a h=>Gv.of (f219.eq a) (f219.of a (f219.ok a h)))
theorem aNC:bT Try.prog F (F 193) f193.C:=aMC (ft:=ft) (np:=1) (fn:=Try.f46) (kills:=f193.kills) (cuts:=f193.cuts) (af:=f193.af) (aR aNL (aR aNP (aR aM6 (aR aNA (aR aNW (aR aNO (aR aFL (aR aM3 (aR aNH (bV hF)))))))))) hft hmix (by kernel_rfl) (by kernel_rfl) (fun a=>by kernel_rfl) aFN (fun _=>by kernel_rfl) (fun _=>by kernel_rfl) (En:=f193.env) (fun _=>rfl) (fun n a h hn=>Gv.of (f193.eq a n) (f193.of a n (f193.ok a h n hn)))
theorem aNX:bT Try.prog F (F 167) f167.C:=dJ (E:=f167.env) (ft:=ft) (np:=1) (fn:=Try.f35) (kills:=f167.kills) (cuts:=f167.cuts) (af:=f167.af) (aR aMP (aR aNC (bV hF))) hft hmix (by kernel_rfl) (by kernel_rfl) (fun a=>by kernel_rfl) (fun _=>by kernel_rfl) (fun _=>by kernel_rfl) (fun a h=>Gv.of (f167.eq a) (f167.of a (f167.ok a h)))
theorem aMZ:bT Try.prog F (F 148) f148.C:=dJ (E:=f148.env) (ft:=ft) (np:=1) (fn:=Try.f18) (kills:=f148.kills) (cuts:=f148.cuts) (af:=f148.af) (aR aMK (aR c34 (aR aNX (bV hF)))) hft hmix (by kernel_rfl) (by kernel_rfl) (fun a=>by kernel_rfl) (fun _=>by kernel_rfl) (fun _=>by kernel_rfl) (fun a h=>Gv.of (f148.eq a) (f148.of a (f148.ok a h)))
theorem aNY:bT Try.prog F (F 261) f261.C:=dJ (E:=f261.env) (ft:=ft) (np:=1) (fn:=Try.f20) (kills:=f261.kills) (cuts:=f261.cuts) (af:=f261.af) (bV hF) hft hmix (by kernel_rfl) (by kernel_rfl) (fun a=>by kernel_rfl) (fun _=>by kernel_rfl) (fun _=>by kernel_rfl) (fun a h=>Gv.of (f261.eq a) (f261.of a (f261.ok a h)))
theorem aM9:bT Try.prog F (F 305) f305.C:=dJ (E:=f305.env) (ft:=ft) (np:=0) (fn:=Try.f8) (kills:=f305.kills) (cuts:=f305.cuts) (af:=f305.af) (aR aM0 (aR aMV (aR aMZ (aR aNY (bV hF))))) hft hmix (by kernel_rfl) (by kernel_rfl) (fun a=>by kernel_rfl) (fun _=>by kernel_rfl) (fun _=>by kernel_rfl) (fun a h=>Gv.of (f305.eq a) (f305.of a (f305.ok a h)))
theorem aNJ:bT Try.prog F (F 306) f306.C:=dJ (E:=f306.env) (ft:=ft) (np:=0) (fn:=Try.f9) (kills:=f306.kills) (cuts:=f306.cuts) (af:=f306.af) (bV hF) hft hmix (by kernel_rfl) (by kernel_rfl) (fun a=>by kernel_rfl) (fun _=>by kernel_rfl) (fun _=>by kernel_rfl) (fun a h=>Gv.of (f306.eq a) (f306.of a (f306.ok a h)))
theorem aNK:bT Try.prog F (F 329) f329.C:=dJ (E:=f329.env) (ft:=ft) (np:=0) (fn:=Try.f5) (kills:=f329.kills) (cuts:=f329.cuts) (af:=f329.af) (aR aM9 (aR aNJ (aR aM0 (aR aMV (aR aMZ (bV hF)))))) hft hmix (by kernel_rfl) (by kernel_rfl) (fun a=>by kernel_rfl) (fun _=>by kernel_rfl) (fun _=>by kernel_rfl) (fun a h=>Gv.of (f329.eq a) (f329.of a (f329.ok a h)))
theorem rd3:gZ Try.prog 3 gC:=aHT (by kernel_rfl) (by kernel_rfl)
theorem rd9:gZ Try.prog 9 hQ:=aH0 (by kernel_rfl) (by kernel_rfl)
theorem aNS:xK Try.prog [(3, 0), (3, 1), (3, 2)] 0 (cO gC (cO gC gC)):=lX rd3 (lX rd3 (zU rd3))
theorem aL6:gZ Try.prog 38 cP:=aCV (m:=3) (e:=3) (by kernel_rfl) (by kernel_rfl) (cast (by kernel_rfl) aNS)
theorem aNB:xK Try.prog [(3, 0), (9, 1), (38, 2)] 0 (cO gC (cO hQ cP)):=lX rd3 (lX rd9 (zU aL6))
theorem aNE:gZ Try.prog 40 cX:=aBK (fs:=(match Try.prog.underlying 40 with | some (.struct fs)=>fs | _=>#[])) (by kernel_rfl) (by kernel_rfl) (cast (by kernel_rfl) aNB)
theorem aM7:gZ Try.prog 22 bZ:=aC2 (e:=40) (by kernel_rfl) (by kernel_rfl) aNE (by decide)
theorem args:aHH Try.prog Try.f5.params.toList f329.args f329.wf f329.size:=cast (by kernel_rfl) (sK (g:=false) (by kernel_rfl) aM7 (.inr rfl) (sK (g:=true) (by kernel_rfl) aL6 (.inl rfl) (aH9 (g:=true) (by kernel_rfl) aL6 (.inl rfl))))
theorem cz:bT Try.prog F 5 f329.C:=cast (by kernel_rfl) aNK
def bk (H:Type):aHV H:=⟨Rows.uptoBulk, Rows.uptoBulkAll, fun _=>by simp [Rows.uptoBulk], fun d=>by
 cases d with
 | lit l=>cases l <;> simp [Rows.uptoBulk]
 | _=>simp [Rows.uptoBulk], fun _ _=>by simp [Rows.uptoBulk], fun _=>by simp [Rows.uptoBulk], by simp [Rows.uptoBulkAll], fun _ _=>by simp [Rows.uptoBulkAll]⟩
theorem allowed:∀ t∈Try.f5.params.toList, Try.prog.readableRec t=true∧t < Try.prog.types.size:=by
 have h:(Try.f5.params.toList.all fun t=>Try.prog.readableRec t&&decide (t < Try.prog.types.size))=true:=by kernel_rfl
 intro t ht
 have:=List.all_eq_true.1 h t ht
 rw [Bool.and_eq_true, decide_eq_true_eq] at this
 exact this
set_option maxRecDepth 100000 in
theorem contract (H:Type) (enc:TypeId×Value→H) (W:World) (base:Nat) (args_:Array Value) (ds gs:List (DataW H)) (before:List MemPlace)
  (hval:∀ (j:Nat) t v, Try.f5.params[j]? = some t→args_[j]? = some v→Value.okWide Try.prog W .any base t v)
  (hW:DataW.Whole enc Try.prog Try.f5.params.toList Rows.bucketMoreSpec.vars false W args_.toList ds gs before) (hk:Rows.uptoSmall H (ds++gs)=true) :
  Calls Try.prog 5 args_ W fun e W'=>∃ v, e=.returned v∧Rows.bucketMoreSpec.post enc Try.prog Try.f5 false true false false W args_ v W' :=
 aA4 (N:=1048576) (rt:=4) (fn:=Try.f5) (bk H) cz args (fun a h1 h2=>⟨h1, h2⟩) (by kernel_rfl) (fun t ht=>allowed t ht) (by kernel_rfl) (by kernel_rfl) rfl (fun ds h=>by
  match ds, h with
  | [d0, d1, d2], _=>rfl) hval hW (show Rows.uptoBulkAll (ds++gs)≤1048576 from of_decide_eq_true hk)
theorem own:ownKnob Try.prog.godebug=none:=by kernel_rfl
set_option maxRecDepth 100000 in
theorem lifted (os:Os) (started:os.Started) (H:Type) (enc:TypeId×Value→H) (Fi:Stop.Interp) :
  ReturnsInHanded {} Try.checked os 5 .any ((Rows.OpenSpec.upto Rows.bucketMoreSpec).pre6 enc Try.prog Try.f5 Rows.bucketMoreUptoRow.domain false) (((Rows.OpenSpec.upto Rows.bucketMoreSpec).at Fi).post enc Try.prog Try.f5 false true false false):=by
 refine returnsInHanded_of_cond (C:=Try.checked) (s:=Rows.OpenSpec.upto Rows.bucketMoreSpec) (k:=Rows.uptoSmall) rfl own started (by kernel_rfl) Try.func5
  (OpenSpec.witness (enc:=enc) (C:=Try.checked) (s:=Rows.OpenSpec.upto Rows.bucketMoreSpec) (k:=Rows.uptoSmall) rfl false ⟨#[], #[.slice none 0 0, .agg #[.int .i64 0, .int .i64 0, .int .i64 0], .agg #[.int .i64 0, .int .i64 0, .int .i64 0]], []⟩ 12 (by kernel_rfl) (by kernel_rfl) (by kernel_rfl)
   (x:=([.nil, .agg [.lit (.int .i64 0), .lit (.int .i64 0), .lit (.int .i64 0)], .agg [.lit (.int .i64 0), .lit (.int .i64 0), .lit (.int .i64 0)]], [], [])) (by kernel_rfl) rfl (by kernel_rfl)) ?_
 intro W base args ds gs before hval hW _ hk _
 exact contract H enc W base args ds gs before hval hW hk
theorem and_i {a b:Bool} (h:a=true) (k:b=true):(a&&b)=true:=by rw [h, k]; rfl
set_option maxHeartbeats 12800000 in
theorem facts:joinedFacts Try.checked.prog 5 Try.f5 (Rows.OpenSpec.upto Rows.bucketMoreSpec).bare Rows.bucketMoreUptoRow=true:=by
 unfold joinedFacts
 repeat' with_reducible refine and_i ?_ ?_
 all_goals as_aux_lemma=>kernel_rfl
theorem proved:Rows.BucketMoreUptoSaid :=
 OpenClaim.holds_of_cond 5 Try.f5 rfl rfl rfl rfl rfl rfl rfl ⟨rfl, rfl, rfl, rfl, rfl⟩ rfl rfl rfl rfl rfl (by kernel_rfl) Try.func5 facts
  (of_decide_eq_true (by kernel_rfl)) (by unfold Func.isWrapper; first | (rw [if_pos (by decide +kernel)]; kernel_rfl) | (rw [if_neg (by decide +kernel)]; exact ⟨rfl, rfl⟩))
  (fun os started H enc _ Fi=>lifted os started H enc Fi)
end Go.Proofs.Ytcmjinkfgbadoaa.bucketMore
