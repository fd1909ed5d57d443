/- The law IdentHas: for every input it returns true, and the input reads as it did; where the input is of bulk at most 1048576. -/
import Derived.Test.YtjlehbennimkgaaRows
import Derived.JoinedCond
import Derived.KernelRfl
import Derived.Test.YtjlehbennimkgaaIdentHasP4
import Derived.Test.YtjlehbennimkgaaIdentHasP5
import Derived.Test.YtjlehbennimkgaaIdentHasP6
import Derived.Test.YtjlehbennimkgaaIdentHasP7
import Derived.Test.YtjlehbennimkgaaIdentHasP8
import Derived.Test.YtjlehbennimkgaaIdentHasP9
import Derived.Test.YtjlehbennimkgaaIdentHasP10
import Derived.Test.YtjlehbennimkgaaIdentHasP11
import Derived.Test.YtjlehbennimkgaaIdentHasP12
import Derived.Test.YtjlehbennimkgaaIdentHasP13
import Derived.Test.YtjlehbennimkgaaIdentHasP14
import Derived.Test.YtjlehbennimkgaaIdentHasP15
import Derived.Test.YtjlehbennimkgaaIdentHasP16
import Derived.Test.YtjlehbennimkgaaIdentHasP17
import Derived.Test.YtjlehbennimkgaaIdentHasP18
import Derived.Test.YtjlehbennimkgaaIdentHasP19
import Derived.Test.YtjlehbennimkgaaIdentHasP20
import Derived.Test.YtjlehbennimkgaaIdentHasP21
import Derived.Test.YtjlehbennimkgaaIdentHasP22
import Derived.Test.YtjlehbennimkgaaIdentHasP23
import Derived.Test.YtjlehbennimkgaaIdentHasP24
import Derived.Test.YtjlehbennimkgaaIdentHasP25
namespace Go.Proofs.Ytjlehbennimkgaa.identHas
open Go Go.Abs Go.RowKit Go.ChangeShapes
set_option linter.unusedVariables false
def ft:FT:=[(3, 372), (4, 373), (5, 374), (6, 375), (7, 379), (8, 380), (9, 381), (10, 382), (11, 405), (12, 383), (13, 384), (14, 48), (15, 58), (16, 50), (17, 59), (18, 385), (19, 322), (20, 386), (21, 387), (22, 390), (23, 124), (24, 360), (25, 391), (26, 392), (27, 151), (28, 197), (29, 393), (30, 394), (31, 150), (32, 395), (33, 396), (34, 111), (35, 66), (36, 67), (37, 167), (38, 132), (39, 171), (40, 112), (41, 113), (42, 222), (43, 399), (44, 365), (45, 369), (46, 400), (47, 35), (48, 24), (49, 125), (50, 126), (51, 127), (52, 34), (53, 70), (54, 71), (55, 193), (56, 194), (57, 136), (58, 198), (59, 199), (60, 129), (61, 130), (62, 176), (63, 52), (64, 69), (65, 49), (66, 36), (67, 38), (68, 131), (69, 53), (70, 55), (71, 51), (72, 56), (73, 72), (74, 73), (75, 211), (76, 212), (77, 213), (78, 214), (79, 215), (80, 216), (81, 217), (82, 218), (83, 219), (84, 220), (85, 45), (86, 223), (87, 135), (88, 200), (89, 54), (90, 68), (91, 74), (92, 75), (93, 76), (94, 77), (95, 228), (96, 229), (97, 230), (98, 231), (99, 232), (100, 233), (101, 234), (102, 235), (103, 236), (104, 237), (105, 238), (106, 239), (107, 240), (108, 78), (109, 247), (110, 248), (111, 249), (112, 250), (113, 79), (114, 253)]
def rt:List (Nat×Nat):=[(372, 3), (373, 4), (374, 5), (375, 6), (379, 7), (380, 8), (381, 9), (382, 10), (405, 11), (383, 12), (384, 13), (48, 14), (58, 15), (50, 16), (59, 17), (385, 18), (322, 19), (386, 20), (387, 21), (390, 22), (124, 23), (360, 24), (391, 25), (392, 26), (151, 27), (197, 28), (393, 29), (394, 30), (150, 31), (395, 32), (396, 33), (111, 34), (66, 35), (67, 36), (167, 37), (132, 38), (171, 39), (112, 40), (113, 41), (222, 42), (399, 43), (365, 44), (369, 45), (400, 46), (35, 47), (24, 48), (125, 49), (126, 50), (127, 51), (34, 52), (70, 53), (71, 54), (193, 55), (194, 56), (136, 57), (198, 58), (199, 59), (129, 60), (130, 61), (176, 62), (52, 63), (69, 64), (49, 65), (36, 66), (38, 67), (131, 68), (53, 69), (55, 70), (51, 71), (56, 72), (72, 73), (73, 74), (211, 75), (212, 76), (213, 77), (214, 78), (215, 79), (216, 80), (217, 81), (218, 82), (219, 83), (220, 84), (45, 85), (223, 86), (135, 87), (200, 88), (54, 89), (68, 90), (74, 91), (75, 92), (76, 93), (77, 94), (228, 95), (229, 96), (230, 97), (231, 98), (232, 99), (233, 100), (234, 101), (235, 102), (236, 103), (237, 104), (238, 105), (239, 106), (240, 107), (78, 108), (247, 109), (248, 110), (249, 111), (250, 112), (79, 113), (253, 114)]
def F (g:Nat):FuncId:=(ag rt g).getD 0
theorem hft:∀ f j, ag ft f=some j→F j=f:=aIE (by kernel_rfl)
theorem hmix:Try.prog.follows .mixedOrders=true:=by kernel_rfl
theorem c45:bB Try.prog F (F 45) f45.C:=cB (E:=f45.env) (ft:=ft) (np:=0) (fn:=Try.f85) (kills:=f45.kills) (cuts:=f45.cuts) (af:=f45.af) a8 hft hmix (by kernel_rfl) (by kernel_rfl) (fun a=>by kernel_rfl) (fun _=>by kernel_rfl) (fun _=>by kernel_rfl) (fun a h=>Gv.of (f45.eq a) (f45.of a (f45.ok a h)))
theorem aIA:bB Try.prog F (F 194) f194.C:=cB (E:=f194.env) (ft:=ft) (np:=0) (fn:=Try.f56) (kills:=f194.kills) (cuts:=f194.cuts) (af:=f194.af) (aO c45 a8) hft hmix (by kernel_rfl) (by kernel_rfl) (fun a=>by kernel_rfl) (fun _=>by kernel_rfl) (fun _=>by kernel_rfl) (fun a h=>Gv.of (f194.eq a) (f194.of a (f194.ok a h)))
theorem aIX:bB Try.prog F (F 200) f200.C:=cB (E:=f200.env) (ft:=ft) (np:=0) (fn:=Try.f88) (kills:=f200.kills) (cuts:=f200.cuts) (af:=f200.af) a8 hft hmix (by kernel_rfl) (by kernel_rfl) (fun a=>by kernel_rfl) (fun _=>by kernel_rfl) (fun _=>by kernel_rfl) (fun a h=>Gv.of (f200.eq a) (f200.of a (f200.ok a h)))
theorem aBM:bB Try.prog F (F 217) f217.C:=cB (E:=f217.env) (ft:=ft) (np:=0) (fn:=Try.f81) (kills:=f217.kills) (cuts:=f217.cuts) (af:=f217.af) (aO aIX a8) hft hmix (by kernel_rfl) (by kernel_rfl) (fun a=>by kernel_rfl) (fun _=>by kernel_rfl) (fun _=>by kernel_rfl) (fun a h=>Gv.of (f217.eq a) (f217.of a (f217.ok a h)))
theorem aIS:bB Try.prog F (F 211) f211.C:=cB (E:=f211.env) (ft:=ft) (np:=1) (fn:=Try.f75) (kills:=f211.kills) (cuts:=f211.cuts) (af:=f211.af) (aO aBM a8) hft hmix (by kernel_rfl) (by kernel_rfl) (fun a=>by kernel_rfl) (fun _=>by kernel_rfl) (fun _=>by kernel_rfl) (fun a h=>Gv.of (f211.eq a) (f211.of a (f211.ok a h)))
theorem aIT:bB Try.prog F (F 228) f228.C:=cB (E:=f228.env) (ft:=ft) (np:=1) (fn:=Try.f95) (kills:=f228.kills) (cuts:=f228.cuts) (af:=f228.af) (aO aBM a8) hft hmix (by kernel_rfl) (by kernel_rfl) (fun a=>by kernel_rfl) (fun _=>by kernel_rfl) (fun _=>by kernel_rfl) (fun a h=>Gv.of (f228.eq a) (f228.of a (f228.ok a h)))
theorem aIW:bB Try.prog F (F 212) f212.C:=cB (E:=f212.env) (ft:=ft) (np:=1) (fn:=Try.f76) (kills:=f212.kills) (cuts:=f212.cuts) (af:=f212.af) (aO aIT a8) hft hmix (by kernel_rfl) (by kernel_rfl) (fun a=>by kernel_rfl) (fun _=>by kernel_rfl) (fun _=>by kernel_rfl) (fun a h=>Gv.of (f212.eq a) (f212.of a (f212.ok a h)))
theorem aIP:bB Try.prog F (F 229) f229.C:=cB (E:=f229.env) (ft:=ft) (np:=0) (fn:=Try.f96) (kills:=f229.kills) (cuts:=f229.cuts) (af:=f229.af) (aO aIA a8) hft hmix (by kernel_rfl) (by kernel_rfl) (fun a=>by kernel_rfl) (fun _=>by kernel_rfl) (fun _=>by kernel_rfl) (fun a h=>Gv.of (f229.eq a) (f229.of a (f229.ok a h)))
theorem aJB:bB Try.prog F (F 230) f230.C:=cB (E:=f230.env) (ft:=ft) (np:=1) (fn:=Try.f97) (kills:=f230.kills) (cuts:=f230.cuts) (af:=f230.af) a8 hft hmix (by kernel_rfl) (by kernel_rfl) (fun a=>by kernel_rfl) (fun _=>by kernel_rfl) (fun _=>by kernel_rfl) (fun a h=>Gv.of (f230.eq a) (f230.of a (f230.ok a h)))
theorem aI4:bB Try.prog F (F 213) f213.C:=cB (E:=f213.env) (ft:=ft) (np:=1) (fn:=Try.f77) (kills:=f213.kills) (cuts:=f213.cuts) (af:=f213.af) (aO aIP (aO aJB a8)) hft hmix (by kernel_rfl) (by kernel_rfl) (fun a=>by kernel_rfl) (fun _=>by kernel_rfl) (fun _=>by kernel_rfl) (fun a h=>Gv.of (f213.eq a) (f213.of a (f213.ok a h)))
theorem aIO:bB Try.prog F (F 247) f247.C:=cB (E:=f247.env) (ft:=ft) (np:=2) (fn:=Try.f109) (kills:=f247.kills) (cuts:=f247.cuts) (af:=f247.af) (aO aBM a8) hft hmix (by kernel_rfl) (by kernel_rfl) (fun a=>by kernel_rfl) (fun _=>by kernel_rfl) (fun _=>by kernel_rfl) (fun a h=>Gv.of (f247.eq a) (f247.of a (f247.ok a h)))
theorem aIG:bB Try.prog F (F 232) f232.C:=cB (E:=f232.env) (ft:=ft) (np:=2) (fn:=Try.f99) (kills:=f232.kills) (cuts:=f232.cuts) (af:=f232.af) (aO aIO a8) hft hmix (by kernel_rfl) (by kernel_rfl) (fun a=>by kernel_rfl) (fun _=>by kernel_rfl) (fun _=>by kernel_rfl) (fun a h=>Gv.of (f232.eq a) (f232.of a (f232.ok a h)))
theorem aI2:bB Try.prog F (F 231) f231.C:=cB (E:=f231.env) (ft:=ft) (np:=2) (fn:=Try.f98) (kills:=f231.kills) (cuts:=f231.cuts) (af:=f231.af) (aO aIG a8) hft hmix (by kernel_rfl) (by kernel_rfl) (fun a=>by kernel_rfl) (fun _=>by kernel_rfl) (fun _=>by kernel_rfl) (fun a h=>Gv.of (f231.eq a) (f231.of a (f231.ok a h)))
theorem aIU:bB Try.prog F (F 214) f214.C:=cB (E:=f214.env) (ft:=ft) (np:=1) (fn:=Try.f78) (kills:=f214.kills) (cuts:=f214.cuts) (af:=f214.af) (aO aI2 (aO aIG a8)) hft hmix (by kernel_rfl) (by kernel_rfl) (fun a=>by kernel_rfl) (fun _=>by kernel_rfl) (fun _=>by kernel_rfl) (fun a h=>Gv.of (f214.eq a) (f214.of a (f214.ok a h)))
theorem aI3:bB Try.prog F (F 215) f215.C:=cB (E:=f215.env) (ft:=ft) (np:=1) (fn:=Try.f79) (kills:=f215.kills) (cuts:=f215.cuts) (af:=f215.af) a8 hft hmix (by kernel_rfl) (by kernel_rfl) (fun a=>by kernel_rfl) (fun _=>by kernel_rfl) (fun _=>by kernel_rfl) (fun a h=>Gv.of (f215.eq a) (f215.of a (f215.ok a h)))
theorem aIR:bB Try.prog F (F 216) f216.C:=cB (E:=f216.env) (ft:=ft) (np:=1) (fn:=Try.f80) (kills:=f216.kills) (cuts:=f216.cuts) (af:=f216.af) (aO aBM a8) hft hmix (by kernel_rfl) (by kernel_rfl) (fun a=>by kernel_rfl) (fun _=>by kernel_rfl) (fun _=>by kernel_rfl) (fun a h=>Gv.of (f216.eq a) (f216.of a (f216.ok a h)))
theorem aJD:bB Try.prog F (F 218) f218.C:=cB (E:=f218.env) (ft:=ft) (np:=1) (fn:=Try.f82) (kills:=f218.kills) (cuts:=f218.cuts) (af:=f218.af) (aO aBM a8) hft hmix (by kernel_rfl) (by kernel_rfl) (fun a=>by kernel_rfl) (fun _=>by kernel_rfl) (fun _=>by kernel_rfl) (fun a h=>Gv.of (f218.eq a) (f218.of a (f218.ok a h)))
theorem aJA:bB Try.prog F (F 219) f219.C:=cB (E:=f219.env) (ft:=ft) (np:=1) (fn:=Try.f83) (kills:=f219.kills) (cuts:=f219.cuts) (af:=f219.af) (aO aBM a8) hft hmix (by kernel_rfl) (by kernel_rfl) (fun a=>by kernel_rfl) (fun _=>by kernel_rfl) (fun _=>by kernel_rfl) (fun a h=>Gv.of (f219.eq a) (f219.of a (f219.ok a h)))
theorem aI6:bB Try.prog F (F 193) f193.C:=aHW (ft:=ft) (np:=1) (fn:=Try.f55) (kills:=f193.kills) (cuts:=f193.cuts) (af:=f193.af) (aO aIS (aO aIW (aO aI4 (aO aIU (aO aI3 (aO aIR (aO aBM (aO aJD (aO aJA a8))))))))) hft hmix (by kernel_rfl) (by kernel_rfl) (fun a=>by kernel_rfl) aBC (fun _=>by kernel_rfl) (fun _=>by kernel_rfl) (En:=f193.env) (fun _=>rfl) (fun n a h hn=>Gv.of (f193.eq a n) (f193.of a n (f193.ok a h n hn)))
theorem aJC:bB Try.prog F (F 167) f167.C:=cB (E:=f167.env) (ft:=ft) (np:=1) (fn:=Try.f37) (kills:=f167.kills) (cuts:=f167.cuts) (af:=f167.af) (aO aIA (aO aI6 a8)) hft hmix (by kernel_rfl) (by kernel_rfl) (fun a=>by kernel_rfl) (fun _=>by kernel_rfl) (fun _=>by kernel_rfl) (fun a h=>Gv.of (f167.eq a) (f167.of a (f167.ok a h)))
theorem aI7:bB Try.prog F (F 385) f385.C:=cB (E:=f385.env) (ft:=ft) (np:=0) (fn:=Try.f18) (kills:=f385.kills) (cuts:=f385.cuts) (af:=f385.af) (aO aJC a8) hft hmix (by kernel_rfl) (by kernel_rfl) (fun a=>by kernel_rfl) (fun _=>by kernel_rfl) (fun _=>by kernel_rfl) (fun a h=>Gv.of (f385.eq a) (f385.of a (f385.ok a h)))
theorem c79:aGV Try.prog F (F 79) f79.C:=uL (fn:=Try.f113) (by kernel_rfl) (by kernel_rfl) (by kernel_rfl) (by kernel_rfl) (by kernel_rfl)
theorem c78:bB Try.prog F (F 78) f78.C:=cB (E:=f78.env) (ft:=ft) (np:=0) (fn:=Try.f108) (kills:=f78.kills) (cuts:=f78.cuts) (af:=f78.af) (aGP c79 a8) hft hmix (by kernel_rfl) (by kernel_rfl) (fun a=>by kernel_rfl) (fun _=>by kernel_rfl) (fun _=>by kernel_rfl) (fun a h=>Gv.of (f78.eq a) (f78.of a (f78.ok a h)))
theorem c74:bB Try.prog F (F 74) f74.C:=cB (E:=f74.env) (ft:=ft) (np:=0) (fn:=Try.f91) (kills:=f74.kills) (cuts:=f74.cuts) (af:=f74.af) (aO c78 a8) hft hmix (by kernel_rfl) (by kernel_rfl) (fun a=>by kernel_rfl) (fun _=>by kernel_rfl) (fun _=>by kernel_rfl) (fun a h=>Gv.of (f74.eq a) (f74.of a (f74.ok a h)))
theorem c75:bB Try.prog F (F 75) f75.C:=cB (E:=f75.env) (ft:=ft) (np:=0) (fn:=Try.f92) (kills:=f75.kills) (cuts:=f75.cuts) (af:=f75.af) a8 hft hmix (by kernel_rfl) (by kernel_rfl) (fun a=>by kernel_rfl) (fun _=>by kernel_rfl) (fun _=>by kernel_rfl) (fun a h=>Gv.of (f75.eq a) (f75.of a (f75.ok a h)))
theorem c73:bB Try.prog F (F 73) f73.C:=cB (E:=f73.env) (ft:=ft) (np:=0) (fn:=Try.f74) (kills:=f73.kills) (cuts:=f73.cuts) (af:=f73.af) (aO c74 (aO c75 a8)) hft hmix (by kernel_rfl) (by kernel_rfl) (fun a=>by kernel_rfl) (fun _=>by kernel_rfl) (fun _=>by kernel_rfl) (fun a h=>Gv.of (f73.eq a) (f73.of a (f73.ok a h)))
theorem c71:bB Try.prog F (F 71) f71.C:=cB (E:=f71.env) (ft:=ft) (np:=0) (fn:=Try.f54) (kills:=f71.kills) (cuts:=f71.cuts) (af:=f71.af) (aO c73 a8) hft hmix (by kernel_rfl) (by kernel_rfl) (fun a=>by kernel_rfl) (fun _=>by kernel_rfl) (fun _=>by kernel_rfl) (fun a h=>Gv.of (f71.eq a) (f71.of a (f71.ok a h)))
theorem c67:bB Try.prog F (F 67) f67.C:=cB (E:=f67.env) (ft:=ft) (np:=0) (fn:=Try.f36) (kills:=f67.kills) (cuts:=f67.cuts) (af:=f67.af) (aO c71 a8) hft hmix (by kernel_rfl) (by kernel_rfl) (fun a=>by kernel_rfl) (fun _=>by kernel_rfl) (fun _=>by kernel_rfl) (fun a h=>Gv.of (f67.eq a) (f67.of a (f67.ok a h)))
theorem c72:bB Try.prog F (F 72) f72.C:=cB (E:=f72.env) (ft:=ft) (np:=0) (fn:=Try.f73) (kills:=f72.kills) (cuts:=f72.cuts) (af:=f72.af) (aO c67 a8) hft hmix (by kernel_rfl) (by kernel_rfl) (fun a=>by kernel_rfl) (fun _=>by kernel_rfl) (fun _=>by kernel_rfl) (fun a h=>Gv.of (f72.eq a) (f72.of a (f72.ok a h)))
theorem c70:bB Try.prog F (F 70) f70.C:=cB (E:=f70.env) (ft:=ft) (np:=0) (fn:=Try.f53) (kills:=f70.kills) (cuts:=f70.cuts) (af:=f70.af) (aO c72 a8) hft hmix (by kernel_rfl) (by kernel_rfl) (fun a=>by kernel_rfl) (fun _=>by kernel_rfl) (fun _=>by kernel_rfl) (fun a h=>Gv.of (f70.eq a) (f70.of a (f70.ok a h)))
theorem c66:bB Try.prog F (F 66) f66.C:=cB (E:=f66.env) (ft:=ft) (np:=0) (fn:=Try.f35) (kills:=f66.kills) (cuts:=f66.cuts) (af:=f66.af) (aO c70 a8) hft hmix (by kernel_rfl) (by kernel_rfl) (fun a=>by kernel_rfl) (fun _=>by kernel_rfl) (fun _=>by kernel_rfl) (fun a h=>Gv.of (f66.eq a) (f66.of a (f66.ok a h)))
theorem c48:bB Try.prog F (F 48) f48.C:=cB (E:=f48.env) (ft:=ft) (np:=0) (fn:=Try.f14) (kills:=f48.kills) (cuts:=f48.cuts) (af:=f48.af) (aO c66 a8) hft hmix (by kernel_rfl) (by kernel_rfl) (fun a=>by kernel_rfl) (fun _=>by kernel_rfl) (fun _=>by kernel_rfl) (fun a h=>Gv.of (f48.eq a) (f48.of a (f48.ok a h)))
theorem c50:bB Try.prog F (F 50) f50.C:=cB (E:=f50.env) (ft:=ft) (np:=0) (fn:=Try.f16) (kills:=f50.kills) (cuts:=f50.cuts) (af:=f50.af) (aO c48 a8) hft hmix (by kernel_rfl) (by kernel_rfl) (fun a=>by kernel_rfl) (fun _=>by kernel_rfl) (fun _=>by kernel_rfl) (fun a h=>Gv.of (f50.eq a) (f50.of a (f50.ok a h)))
theorem aIQ:bB Try.prog F (F 383) f383.C:=cB (E:=f383.env) (ft:=ft) (np:=0) (fn:=Try.f12) (kills:=f383.kills) (cuts:=f383.cuts) (af:=f383.af) (aO aI7 (aO c48 (aO c50 a8))) hft hmix (by kernel_rfl) (by kernel_rfl) (fun a=>by kernel_rfl) (fun _=>by kernel_rfl) (fun _=>by kernel_rfl) (fun a h=>Gv.of (f383.eq a) (f383.of a (f383.ok a h)))
theorem aJE:bB Try.prog F (F 384) f384.C:=cB (E:=f384.env) (ft:=ft) (np:=0) (fn:=Try.f13) (kills:=f384.kills) (cuts:=f384.cuts) (af:=f384.af) a8 hft hmix (by kernel_rfl) (by kernel_rfl) (fun a=>by kernel_rfl) (fun _=>by kernel_rfl) (fun _=>by kernel_rfl) (fun a h=>Gv.of (f384.eq a) (f384.of a (f384.ok a h)))
theorem nG:bB Try.prog F (F 136) f136.C:=cB (E:=f136.env) (ft:=ft) (np:=0) (fn:=Try.f57) (kills:=f136.kills) (cuts:=f136.cuts) (af:=f136.af) a8 hft hmix (by kernel_rfl) (by kernel_rfl) (fun a=>by kernel_rfl) (fun _=>by kernel_rfl) (fun _=>by kernel_rfl) (fun a h=>Gv.of (f136.eq a) (f136.of a (f136.ok a h)))
theorem aJF:bB Try.prog F (F 132) f132.C:=cB (E:=f132.env) (ft:=ft) (np:=0) (fn:=Try.f38) (kills:=f132.kills) (cuts:=f132.cuts) (af:=f132.af) (aO nG a8) hft hmix (by kernel_rfl) (by kernel_rfl) (fun a=>by kernel_rfl) (fun _=>by kernel_rfl) (fun _=>by kernel_rfl) (fun a h=>Gv.of (f132.eq a) (f132.of a (f132.ok a h)))
theorem aJG:bB Try.prog F (F 124) f124.C:=cB (E:=f124.env) (ft:=ft) (np:=0) (fn:=Try.f23) (kills:=f124.kills) (cuts:=f124.cuts) (af:=f124.af) (aO aJF a8) hft hmix (by kernel_rfl) (by kernel_rfl) (fun a=>by kernel_rfl) (fun _=>by kernel_rfl) (fun _=>by kernel_rfl) (fun a h=>Gv.of (f124.eq a) (f124.of a (f124.ok a h)))
theorem aI0:bB Try.prog F (F 387) f387.C:=cB (E:=f387.env) (ft:=ft) (np:=0) (fn:=Try.f21) (kills:=f387.kills) (cuts:=f387.cuts) (af:=f387.af) a8 hft hmix (by kernel_rfl) (by kernel_rfl) (fun a=>by kernel_rfl) (fun _=>by kernel_rfl) (fun _=>by kernel_rfl) (fun a h=>Gv.of (f387.eq a) (f387.of a (f387.ok a h)))
theorem aI5:bB Try.prog F (F 380) f380.C:=cB (E:=f380.env) (ft:=ft) (np:=0) (fn:=Try.f8) (kills:=f380.kills) (cuts:=f380.cuts) (af:=f380.af) (aO aIQ (aO aJE (aO aJG (aO c50 (aO aI0 a8))))) hft hmix (by kernel_rfl) (by kernel_rfl) (fun a=>by kernel_rfl) (fun _=>by kernel_rfl) (fun _=>by kernel_rfl) (fun a h=>Gv.of (f380.eq a) (f380.of a (f380.ok a h)))
theorem rd9:hZ Try.prog 9 i3:=aEE (by kernel_rfl) (by kernel_rfl)
theorem aI8:vT Try.prog [(9, 0), (9, 1)] 0 (dW i3 i3):=aA4 rd9 (aDL rd9)
theorem aIV:hZ Try.prog 31 cJ:=wO (fs:=(match Try.prog.underlying 31 with | some (.struct fs)=>fs | _=>#[])) (by kernel_rfl) (by kernel_rfl) (cast (by kernel_rfl) aI8)
theorem aHP:hZ Try.prog 22 bC:=yQ (e:=31) (by kernel_rfl) (by kernel_rfl) aIV (by decide)
theorem args:aDV Try.prog Try.f8.params.toList f380.args f380.wf f380.size:=cast (by kernel_rfl) (pU (g:=false) (by kernel_rfl) aHP (.inr rfl) (pU (g:=false) (by kernel_rfl) aHP (.inr rfl) (aF4 (g:=false) (by kernel_rfl) aHP (.inr rfl))))
theorem cz:bB Try.prog F 8 f380.C:=cast (by kernel_rfl) aI5
def bk (H:Type):aDP H:=⟨Rows.uptoBulk, Rows.uptoBulkAll, fun _=>by simp [Rows.uptoBulk], fun d=>by
 cases d with
 | lit l=>cases l <;> simp [Rows.uptoBulk]
 | _=>simp [Rows.uptoBulk], fun _ _=>by simp [Rows.uptoBulk], fun _=>by simp [Rows.uptoBulk], by simp [Rows.uptoBulkAll], fun _ _=>by simp [Rows.uptoBulkAll]⟩
theorem allowed:∀ t∈Try.f8.params.toList, Try.prog.readableRec t=true∧t < Try.prog.types.size:=by
 have h:(Try.f8.params.toList.all fun t=>Try.prog.readableRec t&&decide (t < Try.prog.types.size))=true:=by kernel_rfl
 intro t ht
 have:=List.all_eq_true.1 h t ht
 rw [Bool.and_eq_true, decide_eq_true_eq] at this
 exact this
set_option maxRecDepth 100000 in
theorem contract (H:Type) (enc:TypeId×Value→H) (W:World) (base:Nat) (args_:Array Value) (ds gs:List (DataW H)) (before:List MemPlace)
  (hval:∀ (j:Nat) t v, Try.f8.params[j]? = some t→args_[j]? = some v→Value.okWide Try.prog W .any base t v)
  (hW:DataW.Whole enc Try.prog Try.f8.params.toList Rows.identHasSpec.vars false W args_.toList ds gs before) (hk:Rows.uptoSmall H (ds++gs)=true) :
  Calls Try.prog 8 args_ W fun e W'=>∃ v, e=.returned v∧Rows.identHasSpec.post enc Try.prog Try.f8 false true false false W args_ v W' :=
 xA (N:=1048576) (rt:=4) (fn:=Try.f8) (bk H) cz args (fun a h1 h2=>⟨h1, h2⟩) (by kernel_rfl) (fun t ht=>allowed t ht) (by kernel_rfl) (by kernel_rfl) rfl (fun ds h=>by
  match ds, h with
  | [d0, d1, d2], _=>rfl) hval hW (show Rows.uptoBulkAll (ds++gs)≤1048576 from of_decide_eq_true hk)
theorem own:ownKnob Try.prog.godebug=none:=by kernel_rfl
set_option maxRecDepth 100000 in
theorem lifted (os:Os) (started:os.Started) (H:Type) (enc:TypeId×Value→H) (Fi:Stop.Interp) :
  ReturnsInHanded {} Try.checked os 8 .any ((Rows.OpenSpec.upto Rows.identHasSpec).pre6 enc Try.prog Try.f8 Rows.identHasUptoRow.domain false) (((Rows.OpenSpec.upto Rows.identHasSpec).at Fi).post enc Try.prog Try.f8 false true false false):=by
 refine returnsInHanded_of_cond (C:=Try.checked) (s:=Rows.OpenSpec.upto Rows.identHasSpec) (k:=Rows.uptoSmall) rfl own started (by kernel_rfl) Try.func8
  (OpenSpec.witness (enc:=enc) (C:=Try.checked) (s:=Rows.OpenSpec.upto Rows.identHasSpec) (k:=Rows.uptoSmall) rfl false ⟨#[], #[.slice none 0 0, .slice none 0 0, .slice none 0 0], []⟩ 12 (by kernel_rfl) (by kernel_rfl) (by kernel_rfl)
   (x:=([.nil, .nil, .nil], [], [])) (by kernel_rfl) rfl (by kernel_rfl)) ?_
 intro W base args ds gs before hval hW _ hk _
 exact contract H enc W base args ds gs before hval hW hk
theorem and_i {a b:Bool} (h:a=true) (k:b=true):(a&&b)=true:=by rw [h, k]; rfl
set_option maxHeartbeats 12800000 in
theorem facts:joinedFacts Try.checked.prog 8 Try.f8 (Rows.OpenSpec.upto Rows.identHasSpec).bare Rows.identHasUptoRow=true:=by
 unfold joinedFacts
 repeat' with_reducible refine and_i ?_ ?_
 all_goals as_aux_lemma=>kernel_rfl
theorem proved:Rows.IdentHasUptoSaid :=
 OpenClaim.holds_of_cond 8 Try.f8 rfl rfl rfl rfl rfl rfl rfl ⟨rfl, rfl, rfl, rfl, rfl⟩ rfl rfl rfl rfl rfl (by kernel_rfl) Try.func8 facts
  (of_decide_eq_true (by kernel_rfl)) (by unfold Func.isWrapper; first | (rw [if_pos (by decide +kernel)]; kernel_rfl) | (rw [if_neg (by decide +kernel)]; exact ⟨rfl, rfl⟩))
  (fun os started H enc _ Fi=>lifted os started H enc Fi)
end Go.Proofs.Ytjlehbennimkgaa.identHas
