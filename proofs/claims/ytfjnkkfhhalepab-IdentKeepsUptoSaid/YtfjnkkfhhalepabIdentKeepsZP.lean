/- The law IdentKeeps: for every input it returns true, and the input reads as it did; where the input is of bulk at most 1048576. -/
import Derived.Test.YtfjnkkfhhalepabRows
import Derived.JoinedCond
import Derived.KernelRfl
import Derived.Test.YtfjnkkfhhalepabIdentKeepsP4
import Derived.Test.YtfjnkkfhhalepabIdentKeepsP5
import Derived.Test.YtfjnkkfhhalepabIdentKeepsP6
import Derived.Test.YtfjnkkfhhalepabIdentKeepsP7
import Derived.Test.YtfjnkkfhhalepabIdentKeepsP8
import Derived.Test.YtfjnkkfhhalepabIdentKeepsP9
import Derived.Test.YtfjnkkfhhalepabIdentKeepsP10
import Derived.Test.YtfjnkkfhhalepabIdentKeepsP11
import Derived.Test.YtfjnkkfhhalepabIdentKeepsP12
import Derived.Test.YtfjnkkfhhalepabIdentKeepsP13
import Derived.Test.YtfjnkkfhhalepabIdentKeepsP14
import Derived.Test.YtfjnkkfhhalepabIdentKeepsP15
import Derived.Test.YtfjnkkfhhalepabIdentKeepsP16
import Derived.Test.YtfjnkkfhhalepabIdentKeepsP17
import Derived.Test.YtfjnkkfhhalepabIdentKeepsP18
import Derived.Test.YtfjnkkfhhalepabIdentKeepsP19
import Derived.Test.YtfjnkkfhhalepabIdentKeepsP20
import Derived.Test.YtfjnkkfhhalepabIdentKeepsP21
import Derived.Test.YtfjnkkfhhalepabIdentKeepsP22
import Derived.Test.YtfjnkkfhhalepabIdentKeepsP23
import Derived.Test.YtfjnkkfhhalepabIdentKeepsP24
import Derived.Test.YtfjnkkfhhalepabIdentKeepsP25
namespace Go.Proofs.Ytfjnkkfhhalepab.identKeeps
open Go Go.Abs Go.RowKit Go.ChangeShapes
set_option linter.unusedVariables false
def ft:FT:=[(3, 374), (4, 81), (5, 88), (6, 383), (7, 384), (8, 385), (9, 322), (10, 386), (11, 91), (12, 92), (13, 93), (14, 94), (15, 98), (16, 100), (17, 102), (18, 103), (19, 107), (20, 106), (21, 101), (22, 105), (23, 48), (24, 50), (25, 167), (26, 33), (27, 114), (28, 115), (29, 116), (30, 117), (31, 99), (32, 108), (33, 121), (34, 66), (35, 67), (36, 193), (37, 194), (38, 128), (39, 129), (40, 130), (41, 120), (42, 49), (43, 52), (44, 34), (45, 70), (46, 71), (47, 211), (48, 212), (49, 213), (50, 214), (51, 215), (52, 216), (53, 217), (54, 218), (55, 219), (56, 220), (57, 45), (58, 133), (59, 134), (60, 135), (61, 54), (62, 72), (63, 73), (64, 228), (65, 229), (66, 230), (67, 231), (68, 232), (69, 200), (70, 137), (71, 69), (72, 74), (73, 75), (74, 76), (75, 77), (76, 247), (77, 138), (78, 78), (79, 79)]
def rt:List (Nat×Nat):=[(374, 3), (81, 4), (88, 5), (383, 6), (384, 7), (385, 8), (322, 9), (386, 10), (91, 11), (92, 12), (93, 13), (94, 14), (98, 15), (100, 16), (102, 17), (103, 18), (107, 19), (106, 20), (101, 21), (105, 22), (48, 23), (50, 24), (167, 25), (33, 26), (114, 27), (115, 28), (116, 29), (117, 30), (99, 31), (108, 32), (121, 33), (66, 34), (67, 35), (193, 36), (194, 37), (128, 38), (129, 39), (130, 40), (120, 41), (49, 42), (52, 43), (34, 44), (70, 45), (71, 46), (211, 47), (212, 48), (213, 49), (214, 50), (215, 51), (216, 52), (217, 53), (218, 54), (219, 55), (220, 56), (45, 57), (133, 58), (134, 59), (135, 60), (54, 61), (72, 62), (73, 63), (228, 64), (229, 65), (230, 66), (231, 67), (232, 68), (200, 69), (137, 70), (69, 71), (74, 72), (75, 73), (76, 74), (77, 75), (247, 76), (138, 77), (78, 78), (79, 79)]
def F (g:Nat):FuncId:=(ag rt (g % 1000)).getD 0
theorem hF (j q:Nat):F (j+1000 * q)=F j:=by unfold F; rw [Nat.add_mul_mod_self_left]
theorem hft:∀ f j, ag ft f=some j→F j=f:=aIT (by kernel_rfl)
theorem hmix:Try.prog.follows .mixedOrders=true:=by kernel_rfl
theorem c45:bE Try.prog F (F 45) f45.C:=cC (E:=f45.env) (ft:=ft) (np:=0) (fn:=Try.f57) (kills:=f45.kills) (cuts:=f45.cuts) (af:=f45.af) (bC hF) hft hmix (by kernel_rfl) (by kernel_rfl) (fun a=>by kernel_rfl) (fun _=>by kernel_rfl) (fun _=>by kernel_rfl) (fun a h=>Gv.of (f45.eq a) (f45.of a (f45.ok a h)))
theorem aIO:bE Try.prog F (F 194) f194.C:=cC (E:=f194.env) (ft:=ft) (np:=0) (fn:=Try.f37) (kills:=f194.kills) (cuts:=f194.cuts) (af:=f194.af) (aO c45 (bC hF)) hft hmix (by kernel_rfl) (by kernel_rfl) (fun a=>by kernel_rfl) (fun _=>by kernel_rfl) (fun _=>by kernel_rfl) (fun a h=>Gv.of (f194.eq a) (f194.of a (f194.ok a h)))
theorem aJG:bE Try.prog F (F 200) f200.C:=cC (E:=f200.env) (ft:=ft) (np:=0) (fn:=Try.f69) (kills:=f200.kills) (cuts:=f200.cuts) (af:=f200.af) (bC hF) hft hmix (by kernel_rfl) (by kernel_rfl) (fun a=>by kernel_rfl) (fun _=>by kernel_rfl) (fun _=>by kernel_rfl) (fun a h=>Gv.of (f200.eq a) (f200.of a (f200.ok a h)))
theorem aB6:bE Try.prog F (F 217) f217.C:=cC (E:=f217.env) (ft:=ft) (np:=0) (fn:=Try.f53) (kills:=f217.kills) (cuts:=f217.cuts) (af:=f217.af) (aO aJG (bC hF)) hft hmix (by kernel_rfl) (by kernel_rfl) (fun a=>by kernel_rfl) (fun _=>by kernel_rfl) (fun _=>by kernel_rfl) (fun a h=>Gv.of (f217.eq a) (f217.of a (f217.ok a h)))
theorem aJQ:bE Try.prog F (F 211) f211.C:=cC (E:=f211.env) (ft:=ft) (np:=1) (fn:=Try.f47) (kills:=f211.kills) (cuts:=f211.cuts) (af:=f211.af) (aO aB6 (bC hF)) hft hmix (by kernel_rfl) (by kernel_rfl) (fun a=>by kernel_rfl) (fun _=>by kernel_rfl) (fun _=>by kernel_rfl) (fun a h=>Gv.of (f211.eq a) (f211.of a (f211.ok a h)))
theorem aI5:bE Try.prog F (F 228) f228.C:=cC (E:=f228.env) (ft:=ft) (np:=1) (fn:=Try.f64) (kills:=f228.kills) (cuts:=f228.cuts) (af:=f228.af) (aO aB6 (bC hF)) hft hmix (by kernel_rfl) (by kernel_rfl) (fun a=>by kernel_rfl) (fun _=>by kernel_rfl) (fun _=>by kernel_rfl) (fun a h=>Gv.of (f228.eq a) (f228.of a (f228.ok a h)))
theorem aI4:bE Try.prog F (F 212) f212.C:=cC (E:=f212.env) (ft:=ft) (np:=1) (fn:=Try.f48) (kills:=f212.kills) (cuts:=f212.cuts) (af:=f212.af) (aO aI5 (bC hF)) hft hmix (by kernel_rfl) (by kernel_rfl) (fun a=>by kernel_rfl) (fun _=>by kernel_rfl) (fun _=>by kernel_rfl) (fun a h=>Gv.of (f212.eq a) (f212.of a (f212.ok a h)))
theorem aJH:bE Try.prog F (F 229) f229.C:=cC (E:=f229.env) (ft:=ft) (np:=0) (fn:=Try.f65) (kills:=f229.kills) (cuts:=f229.cuts) (af:=f229.af) (aO aIO (bC hF)) hft hmix (by kernel_rfl) (by kernel_rfl) (fun a=>by kernel_rfl) (fun _=>by kernel_rfl) (fun _=>by kernel_rfl) (fun a h=>Gv.of (f229.eq a) (f229.of a (f229.ok a h)))
theorem aJJ:bE Try.prog F (F 230) f230.C:=cC (E:=f230.env) (ft:=ft) (np:=1) (fn:=Try.f66) (kills:=f230.kills) (cuts:=f230.cuts) (af:=f230.af) (bC hF) hft hmix (by kernel_rfl) (by kernel_rfl) (fun a=>by kernel_rfl) (fun _=>by kernel_rfl) (fun _=>by kernel_rfl) (fun a h=>Gv.of (f230.eq a) (f230.of a (f230.ok a h)))
theorem aI2:bE Try.prog F (F 213) f213.C:=cC (E:=f213.env) (ft:=ft) (np:=1) (fn:=Try.f49) (kills:=f213.kills) (cuts:=f213.cuts) (af:=f213.af) (aO aJH (aO aJJ (bC hF))) hft hmix (by kernel_rfl) (by kernel_rfl) (fun a=>by kernel_rfl) (fun _=>by kernel_rfl) (fun _=>by kernel_rfl) (fun a h=>Gv.of (f213.eq a) (f213.of a (f213.ok a h)))
theorem aJE:bE Try.prog F (F 247) f247.C:=cC (E:=f247.env) (ft:=ft) (np:=2) (fn:=Try.f76) (kills:=f247.kills) (cuts:=f247.cuts) (af:=f247.af) (aO aB6 (bC hF)) hft hmix (by kernel_rfl) (by kernel_rfl) (fun a=>by kernel_rfl) (fun _=>by kernel_rfl) (fun _=>by kernel_rfl) (fun a h=>Gv.of (f247.eq a) (f247.of a (f247.ok a h)))
theorem aIY:bE Try.prog F (F 232) f232.C:=cC (E:=f232.env) (ft:=ft) (np:=2) (fn:=Try.f68) (kills:=f232.kills) (cuts:=f232.cuts) (af:=f232.af) (aO aJE (bC hF)) hft hmix (by kernel_rfl) (by kernel_rfl) (fun a=>by kernel_rfl) (fun _=>by kernel_rfl) (fun _=>by kernel_rfl) (fun a h=>Gv.of (f232.eq a) (f232.of a (f232.ok a h)))
theorem aJB:bE Try.prog F (F 231) f231.C:=cC (E:=f231.env) (ft:=ft) (np:=2) (fn:=Try.f67) (kills:=f231.kills) (cuts:=f231.cuts) (af:=f231.af) (aO aIY (bC hF)) hft hmix (by kernel_rfl) (by kernel_rfl) (fun a=>by kernel_rfl) (fun _=>by kernel_rfl) (fun _=>by kernel_rfl) (fun a h=>Gv.of (f231.eq a) (f231.of a (f231.ok a h)))
theorem aI8:bE Try.prog F (F 214) f214.C:=cC (E:=f214.env) (ft:=ft) (np:=1) (fn:=Try.f50) (kills:=f214.kills) (cuts:=f214.cuts) (af:=f214.af) (aO aJB (aO aIY (bC hF))) hft hmix (by kernel_rfl) (by kernel_rfl) (fun a=>by kernel_rfl) (fun _=>by kernel_rfl) (fun _=>by kernel_rfl) (fun a h=>Gv.of (f214.eq a) (f214.of a (f214.ok a h)))
theorem aJK:bE Try.prog F (F 215) f215.C:=cC (E:=f215.env) (ft:=ft) (np:=1) (fn:=Try.f51) (kills:=f215.kills) (cuts:=f215.cuts) (af:=f215.af) (bC hF) hft hmix (by kernel_rfl) (by kernel_rfl) (fun a=>by kernel_rfl) (fun _=>by kernel_rfl) (fun _=>by kernel_rfl) (fun a h=>Gv.of (f215.eq a) (f215.of a (f215.ok a h)))
theorem aI7:bE Try.prog F (F 216) f216.C:=cC (E:=f216.env) (ft:=ft) (np:=1) (fn:=Try.f52) (kills:=f216.kills) (cuts:=f216.cuts) (af:=f216.af) (aO aB6 (bC hF)) hft hmix (by kernel_rfl) (by kernel_rfl) (fun a=>by kernel_rfl) (fun _=>by kernel_rfl) (fun _=>by kernel_rfl) (fun a h=>Gv.of (f216.eq a) (f216.of a (f216.ok a h)))
theorem aJC:bE Try.prog F (F 218) f218.C:=cC (E:=f218.env) (ft:=ft) (np:=1) (fn:=Try.f54) (kills:=f218.kills) (cuts:=f218.cuts) (af:=f218.af) (aO aB6 (bC hF)) hft hmix (by kernel_rfl) (by kernel_rfl) (fun a=>by kernel_rfl) (fun _=>by kernel_rfl) (fun _=>by kernel_rfl) (fun a h=>Gv.of (f218.eq a) (f218.of a (f218.ok a h)))
theorem aJA:bE Try.prog F (F 219) f219.C:=cC (E:=f219.env) (ft:=ft) (np:=1) (fn:=Try.f55) (kills:=f219.kills) (cuts:=f219.cuts) (af:=f219.af) (aO aB6 (bC hF)) hft hmix (by kernel_rfl) (by kernel_rfl) (fun a=>by kernel_rfl) (fun _=>by kernel_rfl) (fun _=>by kernel_rfl) (fun a h=>Gv.of (f219.eq a) (f219.of a (f219.ok a h)))
theorem aJF:bE Try.prog F (F 193) f193.C:=aIA (ft:=ft) (np:=1) (fn:=Try.f36) (kills:=f193.kills) (cuts:=f193.cuts) (af:=f193.af) (aO aJQ (aO aI4 (aO aI2 (aO aI8 (aO aJK (aO aI7 (aO aB6 (aO aJC (aO aJA (bC hF)))))))))) hft hmix (by kernel_rfl) (by kernel_rfl) (fun a=>by kernel_rfl) aBM (fun _=>by kernel_rfl) (fun _=>by kernel_rfl) (En:=f193.env) (fun _=>rfl) (fun n a h hn=>Gv.of (f193.eq a n) (f193.of a n (f193.ok a h n hn)))
theorem aI0:bE Try.prog F (F 167) f167.C:=cC (E:=f167.env) (ft:=ft) (np:=1) (fn:=Try.f25) (kills:=f167.kills) (cuts:=f167.cuts) (af:=f167.af) (aO aIO (aO aJF (bC hF))) hft hmix (by kernel_rfl) (by kernel_rfl) (fun a=>by kernel_rfl) (fun _=>by kernel_rfl) (fun _=>by kernel_rfl) (fun a h=>Gv.of (f167.eq a) (f167.of a (f167.ok a h)))
theorem aIX:bE Try.prog F (F 385) f385.C:=cC (E:=f385.env) (ft:=ft) (np:=0) (fn:=Try.f8) (kills:=f385.kills) (cuts:=f385.cuts) (af:=f385.af) (aO aI0 (bC hF)) hft hmix (by kernel_rfl) (by kernel_rfl) (fun a=>by kernel_rfl) (fun _=>by kernel_rfl) (fun _=>by kernel_rfl) (fun a h=>Gv.of (f385.eq a) (f385.of a (f385.ok a h)))
theorem c79:aHS Try.prog F (F 79) f79.C:=vF (fn:=Try.f79) (by kernel_rfl) (by kernel_rfl) (by kernel_rfl) (by kernel_rfl) (by kernel_rfl)
theorem c78:bE Try.prog F (F 78) f78.C:=cC (E:=f78.env) (ft:=ft) (np:=0) (fn:=Try.f78) (kills:=f78.kills) (cuts:=f78.cuts) (af:=f78.af) (aG0 c79 (bC hF)) hft hmix (by kernel_rfl) (by kernel_rfl) (fun a=>by kernel_rfl) (fun _=>by kernel_rfl) (fun _=>by kernel_rfl) (fun a h=>Gv.of (f78.eq a) (f78.of a (f78.ok a h)))
theorem c74:bE Try.prog F (F 74) f74.C:=cC (E:=f74.env) (ft:=ft) (np:=0) (fn:=Try.f72) (kills:=f74.kills) (cuts:=f74.cuts) (af:=f74.af) (aO c78 (bC hF)) hft hmix (by kernel_rfl) (by kernel_rfl) (fun a=>by kernel_rfl) (fun _=>by kernel_rfl) (fun _=>by kernel_rfl) (fun a h=>Gv.of (f74.eq a) (f74.of a (f74.ok a h)))
theorem c75:bE Try.prog F (F 75) f75.C:=cC (E:=f75.env) (ft:=ft) (np:=0) (fn:=Try.f73) (kills:=f75.kills) (cuts:=f75.cuts) (af:=f75.af) (bC hF) hft hmix (by kernel_rfl) (by kernel_rfl) (fun a=>by kernel_rfl) (fun _=>by kernel_rfl) (fun _=>by kernel_rfl) (fun a h=>Gv.of (f75.eq a) (f75.of a (f75.ok a h)))
theorem c73:bE Try.prog F (F 73) f73.C:=cC (E:=f73.env) (ft:=ft) (np:=0) (fn:=Try.f63) (kills:=f73.kills) (cuts:=f73.cuts) (af:=f73.af) (aO c74 (aO c75 (bC hF))) hft hmix (by kernel_rfl) (by kernel_rfl) (fun a=>by kernel_rfl) (fun _=>by kernel_rfl) (fun _=>by kernel_rfl) (fun a h=>Gv.of (f73.eq a) (f73.of a (f73.ok a h)))
theorem c71:bE Try.prog F (F 71) f71.C:=cC (E:=f71.env) (ft:=ft) (np:=0) (fn:=Try.f46) (kills:=f71.kills) (cuts:=f71.cuts) (af:=f71.af) (aO c73 (bC hF)) hft hmix (by kernel_rfl) (by kernel_rfl) (fun a=>by kernel_rfl) (fun _=>by kernel_rfl) (fun _=>by kernel_rfl) (fun a h=>Gv.of (f71.eq a) (f71.of a (f71.ok a h)))
theorem c67:bE Try.prog F (F 67) f67.C:=cC (E:=f67.env) (ft:=ft) (np:=0) (fn:=Try.f35) (kills:=f67.kills) (cuts:=f67.cuts) (af:=f67.af) (aO c71 (bC hF)) hft hmix (by kernel_rfl) (by kernel_rfl) (fun a=>by kernel_rfl) (fun _=>by kernel_rfl) (fun _=>by kernel_rfl) (fun a h=>Gv.of (f67.eq a) (f67.of a (f67.ok a h)))
theorem c72:bE Try.prog F (F 72) f72.C:=cC (E:=f72.env) (ft:=ft) (np:=0) (fn:=Try.f62) (kills:=f72.kills) (cuts:=f72.cuts) (af:=f72.af) (aO c67 (bC hF)) hft hmix (by kernel_rfl) (by kernel_rfl) (fun a=>by kernel_rfl) (fun _=>by kernel_rfl) (fun _=>by kernel_rfl) (fun a h=>Gv.of (f72.eq a) (f72.of a (f72.ok a h)))
theorem c70:bE Try.prog F (F 70) f70.C:=cC (E:=f70.env) (ft:=ft) (np:=0) (fn:=Try.f45) (kills:=f70.kills) (cuts:=f70.cuts) (af:=f70.af) (aO c72 (bC hF)) hft hmix (by kernel_rfl) (by kernel_rfl) (fun a=>by kernel_rfl) (fun _=>by kernel_rfl) (fun _=>by kernel_rfl) (fun a h=>Gv.of (f70.eq a) (f70.of a (f70.ok a h)))
theorem c66:bE Try.prog F (F 66) f66.C:=cC (E:=f66.env) (ft:=ft) (np:=0) (fn:=Try.f34) (kills:=f66.kills) (cuts:=f66.cuts) (af:=f66.af) (aO c70 (bC hF)) hft hmix (by kernel_rfl) (by kernel_rfl) (fun a=>by kernel_rfl) (fun _=>by kernel_rfl) (fun _=>by kernel_rfl) (fun a h=>Gv.of (f66.eq a) (f66.of a (f66.ok a h)))
theorem c48:bE Try.prog F (F 48) f48.C:=cC (E:=f48.env) (ft:=ft) (np:=0) (fn:=Try.f23) (kills:=f48.kills) (cuts:=f48.cuts) (af:=f48.af) (aO c66 (bC hF)) hft hmix (by kernel_rfl) (by kernel_rfl) (fun a=>by kernel_rfl) (fun _=>by kernel_rfl) (fun _=>by kernel_rfl) (fun a h=>Gv.of (f48.eq a) (f48.of a (f48.ok a h)))
theorem c50:bE Try.prog F (F 50) f50.C:=cC (E:=f50.env) (ft:=ft) (np:=0) (fn:=Try.f24) (kills:=f50.kills) (cuts:=f50.cuts) (af:=f50.af) (aO c48 (bC hF)) hft hmix (by kernel_rfl) (by kernel_rfl) (fun a=>by kernel_rfl) (fun _=>by kernel_rfl) (fun _=>by kernel_rfl) (fun a h=>Gv.of (f50.eq a) (f50.of a (f50.ok a h)))
theorem aJL:bE Try.prog F (F 383) f383.C:=cC (E:=f383.env) (ft:=ft) (np:=0) (fn:=Try.f6) (kills:=f383.kills) (cuts:=f383.cuts) (af:=f383.af) (aO aIX (aO c48 (aO c50 (bC hF)))) hft hmix (by kernel_rfl) (by kernel_rfl) (fun a=>by kernel_rfl) (fun _=>by kernel_rfl) (fun _=>by kernel_rfl) (fun a h=>Gv.of (f383.eq a) (f383.of a (f383.ok a h)))
theorem aJN:bE Try.prog F (F 384) f384.C:=cC (E:=f384.env) (ft:=ft) (np:=0) (fn:=Try.f7) (kills:=f384.kills) (cuts:=f384.cuts) (af:=f384.af) (bC hF) hft hmix (by kernel_rfl) (by kernel_rfl) (fun a=>by kernel_rfl) (fun _=>by kernel_rfl) (fun _=>by kernel_rfl) (fun a h=>Gv.of (f384.eq a) (f384.of a (f384.ok a h)))
theorem aI6:bE Try.prog F (F 322) f322.C:=cC (E:=f322.env) (ft:=ft) (np:=0) (fn:=Try.f9) (kills:=f322.kills) (cuts:=f322.cuts) (af:=f322.af) (bC hF) hft hmix (by kernel_rfl) (by kernel_rfl) (fun a=>by kernel_rfl) (fun _=>by kernel_rfl) (fun _=>by kernel_rfl) (fun a h=>Gv.of (f322.eq a) (f322.of a (f322.ok a h)))
theorem aI3:bE Try.prog F (F 386) f386.C:=cC (E:=f386.env) (ft:=ft) (np:=0) (fn:=Try.f10) (kills:=f386.kills) (cuts:=f386.cuts) (af:=f386.af) (bC hF) hft hmix (by kernel_rfl) (by kernel_rfl) (fun a=>by kernel_rfl) (fun _=>by kernel_rfl) (fun _=>by kernel_rfl) (fun a h=>Gv.of (f386.eq a) (f386.of a (f386.ok a h)))
theorem aIU:bE Try.prog F (F 385) f1385.C:=cC (E:=f1385.env) (ft:=ft) (np:=0) (fn:=Try.f8) (kills:=f1385.kills) (cuts:=f1385.cuts) (af:=f1385.af) (aO aI0 (bC hF)) hft hmix (by kernel_rfl) (by kernel_rfl) (fun a=>by kernel_rfl) (fun _=>by kernel_rfl) (fun _=>by kernel_rfl) (fun a h=>Gv.of (f1385.eq a) (f1385.of a (f1385.ok a h)))
theorem aJI:bE Try.prog F (F 374) f374.C:=cC (E:=f374.env) (ft:=ft) (np:=0) (fn:=Try.f3) (kills:=f374.kills) (cuts:=f374.cuts) (af:=f374.af) (aIJ (j:=385) (q:=1000025) aIU (aO aJL (aO aJN (aO aI6 (aO aIX (aO aI3 (bC hF))))))) hft hmix (by kernel_rfl) (by kernel_rfl) (fun a=>by kernel_rfl) (fun _=>by kernel_rfl) (fun _=>by kernel_rfl) (fun a h=>Gv.of (f374.eq a) (f374.of a (f374.ok a h)))
theorem rd9:iM Try.prog 9 gU:=aEE (by kernel_rfl) (by kernel_rfl)
theorem aI9:wH Try.prog [(9, 0), (9, 1)] 0 (cL gU gU):=aBP rd9 (aDT rd9)
theorem aJS:iM Try.prog 27 cI:=xF (fs:=(match Try.prog.underlying 27 with | some (.struct fs)=>fs | _=>#[])) (by kernel_rfl) (by kernel_rfl) (cast (by kernel_rfl) aI9)
theorem aJM:iM Try.prog 22 cW:=aA5 (e:=27) (by kernel_rfl) (by kernel_rfl) aJS (by decide)
theorem args:aET Try.prog Try.f3.params.toList f374.args f374.wf f374.size:=cast (by kernel_rfl) (aE2 (g:=false) (by kernel_rfl) aJM (.inr rfl))
theorem cz:bE Try.prog F 3 f374.C:=cast (by kernel_rfl) aJI
def bk (H:Type):aD3 H:=⟨Rows.uptoBulk, Rows.uptoBulkAll, fun _=>by simp [Rows.uptoBulk], fun d=>by
 cases d with
 | lit l=>cases l <;> simp [Rows.uptoBulk]
 | _=>simp [Rows.uptoBulk], fun _ _=>by simp [Rows.uptoBulk], fun _=>by simp [Rows.uptoBulk], by simp [Rows.uptoBulkAll], fun _ _=>by simp [Rows.uptoBulkAll]⟩
theorem allowed:∀ t∈Try.f3.params.toList, Try.prog.readableRec t=true∧t < Try.prog.types.size:=by
 have h:(Try.f3.params.toList.all fun t=>Try.prog.readableRec t&&decide (t < Try.prog.types.size))=true:=by kernel_rfl
 intro t ht
 have:=List.all_eq_true.1 h t ht
 rw [Bool.and_eq_true, decide_eq_true_eq] at this
 exact this
set_option maxRecDepth 100000 in
theorem contract (H:Type) (enc:TypeId×Value→H) (W:World) (base:Nat) (args_:Array Value) (ds gs:List (DataW H)) (before:List MemPlace)
  (hval:∀ (j:Nat) t v, Try.f3.params[j]? = some t→args_[j]? = some v→Value.okWide Try.prog W .any base t v)
  (hW:DataW.Whole enc Try.prog Try.f3.params.toList Rows.identKeepsSpec.vars false W args_.toList ds gs before) (hk:Rows.uptoSmall H (ds++gs)=true) :
  Calls Try.prog 3 args_ W fun e W'=>∃ v, e=.returned v∧Rows.identKeepsSpec.post enc Try.prog Try.f3 false true false false W args_ v W' :=
 x5 (N:=1048576) (rt:=4) (fn:=Try.f3) (bk H) cz args (fun a h1 h2=>⟨h1, h2⟩) (by kernel_rfl) (fun t ht=>allowed t ht) (by kernel_rfl) (by kernel_rfl) rfl (fun ds h=>by
  match ds, h with
  | [d0], _=>rfl) hval hW (show Rows.uptoBulkAll (ds++gs)≤1048576 from of_decide_eq_true hk)
theorem own:ownKnob Try.prog.godebug=none:=by kernel_rfl
set_option maxRecDepth 100000 in
theorem lifted (os:Os) (started:os.Started) (H:Type) (enc:TypeId×Value→H) (Fi:Stop.Interp) :
  ReturnsInHanded {} Try.checked os 3 .any ((Rows.OpenSpec.upto Rows.identKeepsSpec).pre6 enc Try.prog Try.f3 Rows.identKeepsUptoRow.domain false) (((Rows.OpenSpec.upto Rows.identKeepsSpec).at Fi).post enc Try.prog Try.f3 false true false false):=by
 refine returnsInHanded_of_cond (C:=Try.checked) (s:=Rows.OpenSpec.upto Rows.identKeepsSpec) (k:=Rows.uptoSmall) rfl own started (by kernel_rfl) Try.func3
  (OpenSpec.witness (enc:=enc) (C:=Try.checked) (s:=Rows.OpenSpec.upto Rows.identKeepsSpec) (k:=Rows.uptoSmall) rfl false ⟨#[], #[.slice none 0 0], []⟩ 12 (by kernel_rfl) (by kernel_rfl) (by kernel_rfl)
   (x:=([.nil], [], [])) (by kernel_rfl) rfl (by kernel_rfl)) ?_
 intro W base args ds gs before hval hW _ hk _
 exact contract H enc W base args ds gs before hval hW hk
theorem and_i {a b:Bool} (h:a=true) (k:b=true):(a&&b)=true:=by rw [h, k]; rfl
set_option maxHeartbeats 12800000 in
theorem facts:joinedFacts Try.checked.prog 3 Try.f3 (Rows.OpenSpec.upto Rows.identKeepsSpec).bare Rows.identKeepsUptoRow=true:=by
 unfold joinedFacts
 repeat' with_reducible refine and_i ?_ ?_
 all_goals as_aux_lemma=>kernel_rfl
theorem proved:Rows.IdentKeepsUptoSaid :=
 OpenClaim.holds_of_cond 3 Try.f3 rfl rfl rfl rfl rfl rfl rfl ⟨rfl, rfl, rfl, rfl, rfl⟩ rfl rfl rfl rfl rfl (by kernel_rfl) Try.func3 facts
  (of_decide_eq_true (by kernel_rfl)) (by unfold Func.isWrapper; first | (rw [if_pos (by decide +kernel)]; kernel_rfl) | (rw [if_neg (by decide +kernel)]; exact ⟨rfl, rfl⟩))
  (fun os started H enc _ Fi=>lifted os started H enc Fi)
end Go.Proofs.Ytfjnkkfhhalepab.identKeeps
