/- The law RankOrder: for every input it returns true, and the input reads as it did; where the input is of bulk at most 1048576. -/
import Derived.Test.YtjlehbennimkgaaRows
import Derived.JoinedCond
import Derived.KernelRfl
import Derived.Test.YtjlehbennimkgaaRankOrderP3
import Derived.Test.YtjlehbennimkgaaRankOrderP4
import Derived.Test.YtjlehbennimkgaaRankOrderP5
import Derived.Test.YtjlehbennimkgaaRankOrderP6
import Derived.Test.YtjlehbennimkgaaRankOrderP7
import Derived.Test.YtjlehbennimkgaaRankOrderP8
import Derived.Test.YtjlehbennimkgaaRankOrderP9
import Derived.Test.YtjlehbennimkgaaRankOrderP10
import Derived.Test.YtjlehbennimkgaaRankOrderP11
import Derived.Test.YtjlehbennimkgaaRankOrderP12
import Derived.Test.YtjlehbennimkgaaRankOrderP13
import Derived.Test.YtjlehbennimkgaaRankOrderP14
import Derived.Test.YtjlehbennimkgaaRankOrderP15
import Derived.Test.YtjlehbennimkgaaRankOrderP16
import Derived.Test.YtjlehbennimkgaaRankOrderP17
import Derived.Test.YtjlehbennimkgaaRankOrderP18
import Derived.Test.YtjlehbennimkgaaRankOrderP19
import Derived.Test.YtjlehbennimkgaaRankOrderP20
namespace Go.Proofs.Ytjlehbennimkgaa.rankOrder
open Go Go.Abs Go.RowKit Go.ChangeShapes
set_option linter.unusedVariables false
def ft:FT:=[(3, 372), (4, 373), (5, 374), (6, 375), (7, 379), (8, 380), (9, 381), (10, 382), (11, 405), (12, 383), (13, 384), (14, 48), (15, 58), (16, 50), (17, 59), (18, 385), (19, 322), (20, 386), (21, 387), (22, 390), (23, 124), (24, 360), (25, 391), (26, 392), (27, 151), (28, 197), (29, 393), (30, 394), (31, 150), (32, 395), (33, 396), (34, 111), (35, 66), (36, 67), (37, 167), (38, 132), (39, 171), (40, 112), (41, 113), (42, 222), (43, 399), (44, 365), (45, 369), (46, 400), (47, 35), (48, 24), (49, 125), (50, 126), (51, 127), (52, 34), (53, 70), (54, 71), (55, 193), (56, 194), (57, 136), (58, 198), (59, 199), (60, 129), (61, 130), (62, 176), (63, 52), (64, 69), (65, 49), (66, 36), (67, 38), (68, 131), (69, 53), (70, 55), (71, 51), (72, 56), (73, 72), (74, 73), (75, 211), (76, 212), (77, 213), (78, 214), (79, 215), (80, 216), (81, 217), (82, 218), (83, 219), (84, 220), (85, 45), (86, 223), (87, 135), (88, 200), (89, 54), (90, 68), (91, 74), (92, 75), (93, 76), (94, 77), (95, 228), (96, 229), (97, 230), (98, 231), (99, 232), (100, 233), (101, 234), (102, 235), (103, 236), (104, 237), (105, 238), (106, 239), (107, 240), (108, 78), (109, 247), (110, 248), (111, 249), (112, 250), (113, 79), (114, 253)]
def rt:List (Nat×Nat):=[(372, 3), (373, 4), (374, 5), (375, 6), (379, 7), (380, 8), (381, 9), (382, 10), (405, 11), (383, 12), (384, 13), (48, 14), (58, 15), (50, 16), (59, 17), (385, 18), (322, 19), (386, 20), (387, 21), (390, 22), (124, 23), (360, 24), (391, 25), (392, 26), (151, 27), (197, 28), (393, 29), (394, 30), (150, 31), (395, 32), (396, 33), (111, 34), (66, 35), (67, 36), (167, 37), (132, 38), (171, 39), (112, 40), (113, 41), (222, 42), (399, 43), (365, 44), (369, 45), (400, 46), (35, 47), (24, 48), (125, 49), (126, 50), (127, 51), (34, 52), (70, 53), (71, 54), (193, 55), (194, 56), (136, 57), (198, 58), (199, 59), (129, 60), (130, 61), (176, 62), (52, 63), (69, 64), (49, 65), (36, 66), (38, 67), (131, 68), (53, 69), (55, 70), (51, 71), (56, 72), (72, 73), (73, 74), (211, 75), (212, 76), (213, 77), (214, 78), (215, 79), (216, 80), (217, 81), (218, 82), (219, 83), (220, 84), (45, 85), (223, 86), (135, 87), (200, 88), (54, 89), (68, 90), (74, 91), (75, 92), (76, 93), (77, 94), (228, 95), (229, 96), (230, 97), (231, 98), (232, 99), (233, 100), (234, 101), (235, 102), (236, 103), (237, 104), (238, 105), (239, 106), (240, 107), (78, 108), (247, 109), (248, 110), (249, 111), (250, 112), (79, 113), (253, 114)]
def F (g:Nat):FuncId:=(ag rt g).getD 0
theorem hft:∀ f j, ag ft f=some j→F j=f:=aI1 (by kernel_rfl)
theorem hmix:Try.prog.follows .mixedOrders=true:=by kernel_rfl
theorem c49:aY Try.prog F (F 49) f49.C:=bK (E:=f49.env) (ft:=ft) (np:=0) (fn:=Try.f65) (kills:=f49.kills) (cuts:=f49.cuts) (af:=f49.af) aW hft hmix (by kernel_rfl) (by kernel_rfl) (fun a=>by kernel_rfl) (fun _=>by kernel_rfl) (fun _=>by kernel_rfl) (fun a h=>Gv.of (f49.eq a) (f49.of a (f49.ok a h)))
theorem c69:aY Try.prog F (F 69) f69.C:=bK (E:=f69.env) (ft:=ft) (np:=0) (fn:=Try.f64) (kills:=f69.kills) (cuts:=f69.cuts) (af:=f69.af) (aM c49 aW) hft hmix (by kernel_rfl) (by kernel_rfl) (fun a=>by kernel_rfl) (fun _=>by kernel_rfl) (fun _=>by kernel_rfl) (fun a h=>Gv.of (f69.eq a) (f69.of a (f69.ok a h)))
theorem c54:aY Try.prog F (F 54) f54.C:=bK (E:=f54.env) (ft:=ft) (np:=0) (fn:=Try.f89) (kills:=f54.kills) (cuts:=f54.cuts) (af:=f54.af) (aM c69 aW) hft hmix (by kernel_rfl) (by kernel_rfl) (fun a=>by kernel_rfl) (fun _=>by kernel_rfl) (fun _=>by kernel_rfl) (fun a h=>Gv.of (f54.eq a) (f54.of a (f54.ok a h)))
theorem c52:aY Try.prog F (F 52) f52.C:=bK (E:=f52.env) (ft:=ft) (np:=0) (fn:=Try.f63) (kills:=f52.kills) (cuts:=f52.cuts) (af:=f52.af) (aM c54 aW) hft hmix (by kernel_rfl) (by kernel_rfl) (fun a=>by kernel_rfl) (fun _=>by kernel_rfl) (fun _=>by kernel_rfl) (fun a h=>Gv.of (f52.eq a) (f52.of a (f52.ok a h)))
theorem aI3:aY Try.prog F (F 113) f113.C:=bK (E:=f113.env) (ft:=ft) (np:=0) (fn:=Try.f41) (kills:=f113.kills) (cuts:=f113.cuts) (af:=f113.af) (aM c69 aW) hft hmix (by kernel_rfl) (by kernel_rfl) (fun a=>by kernel_rfl) (fun _=>by kernel_rfl) (fun _=>by kernel_rfl) (fun a h=>Gv.of (f113.eq a) (f113.of a (f113.ok a h)))
theorem aJC:aY Try.prog F (F 112) f112.C:=bK (E:=f112.env) (ft:=ft) (np:=0) (fn:=Try.f40) (kills:=f112.kills) (cuts:=f112.cuts) (af:=f112.af) (aM c52 (aM aI3 aW)) hft hmix (by kernel_rfl) (by kernel_rfl) (fun a=>by kernel_rfl) (fun _=>by kernel_rfl) (fun _=>by kernel_rfl) (fun a h=>Gv.of (f112.eq a) (f112.of a (f112.ok a h)))
theorem c79:aHW Try.prog F (F 79) f79.C:=vF (fn:=Try.f113) (by kernel_rfl) (by kernel_rfl) (by kernel_rfl) (by kernel_rfl) (by kernel_rfl)
theorem c78:aY Try.prog F (F 78) f78.C:=bK (E:=f78.env) (ft:=ft) (np:=0) (fn:=Try.f108) (kills:=f78.kills) (cuts:=f78.cuts) (af:=f78.af) (aHK c79 aW) hft hmix (by kernel_rfl) (by kernel_rfl) (fun a=>by kernel_rfl) (fun _=>by kernel_rfl) (fun _=>by kernel_rfl) (fun a h=>Gv.of (f78.eq a) (f78.of a (f78.ok a h)))
theorem c74:aY Try.prog F (F 74) f74.C:=bK (E:=f74.env) (ft:=ft) (np:=0) (fn:=Try.f91) (kills:=f74.kills) (cuts:=f74.cuts) (af:=f74.af) (aM c78 aW) hft hmix (by kernel_rfl) (by kernel_rfl) (fun a=>by kernel_rfl) (fun _=>by kernel_rfl) (fun _=>by kernel_rfl) (fun a h=>Gv.of (f74.eq a) (f74.of a (f74.ok a h)))
theorem c75:aY Try.prog F (F 75) f75.C:=bK (E:=f75.env) (ft:=ft) (np:=0) (fn:=Try.f92) (kills:=f75.kills) (cuts:=f75.cuts) (af:=f75.af) aW hft hmix (by kernel_rfl) (by kernel_rfl) (fun a=>by kernel_rfl) (fun _=>by kernel_rfl) (fun _=>by kernel_rfl) (fun a h=>Gv.of (f75.eq a) (f75.of a (f75.ok a h)))
theorem c73:aY Try.prog F (F 73) f73.C:=bK (E:=f73.env) (ft:=ft) (np:=0) (fn:=Try.f74) (kills:=f73.kills) (cuts:=f73.cuts) (af:=f73.af) (aM c74 (aM c75 aW)) hft hmix (by kernel_rfl) (by kernel_rfl) (fun a=>by kernel_rfl) (fun _=>by kernel_rfl) (fun _=>by kernel_rfl) (fun a h=>Gv.of (f73.eq a) (f73.of a (f73.ok a h)))
theorem c71:aY Try.prog F (F 71) f71.C:=bK (E:=f71.env) (ft:=ft) (np:=0) (fn:=Try.f54) (kills:=f71.kills) (cuts:=f71.cuts) (af:=f71.af) (aM c73 aW) hft hmix (by kernel_rfl) (by kernel_rfl) (fun a=>by kernel_rfl) (fun _=>by kernel_rfl) (fun _=>by kernel_rfl) (fun a h=>Gv.of (f71.eq a) (f71.of a (f71.ok a h)))
theorem c67:aY Try.prog F (F 67) f67.C:=bK (E:=f67.env) (ft:=ft) (np:=0) (fn:=Try.f36) (kills:=f67.kills) (cuts:=f67.cuts) (af:=f67.af) (aM c71 aW) hft hmix (by kernel_rfl) (by kernel_rfl) (fun a=>by kernel_rfl) (fun _=>by kernel_rfl) (fun _=>by kernel_rfl) (fun a h=>Gv.of (f67.eq a) (f67.of a (f67.ok a h)))
theorem c72:aY Try.prog F (F 72) f72.C:=bK (E:=f72.env) (ft:=ft) (np:=0) (fn:=Try.f73) (kills:=f72.kills) (cuts:=f72.cuts) (af:=f72.af) (aM c67 aW) hft hmix (by kernel_rfl) (by kernel_rfl) (fun a=>by kernel_rfl) (fun _=>by kernel_rfl) (fun _=>by kernel_rfl) (fun a h=>Gv.of (f72.eq a) (f72.of a (f72.ok a h)))
theorem c70:aY Try.prog F (F 70) f70.C:=bK (E:=f70.env) (ft:=ft) (np:=0) (fn:=Try.f53) (kills:=f70.kills) (cuts:=f70.cuts) (af:=f70.af) (aM c72 aW) hft hmix (by kernel_rfl) (by kernel_rfl) (fun a=>by kernel_rfl) (fun _=>by kernel_rfl) (fun _=>by kernel_rfl) (fun a h=>Gv.of (f70.eq a) (f70.of a (f70.ok a h)))
theorem c66:aY Try.prog F (F 66) f66.C:=bK (E:=f66.env) (ft:=ft) (np:=0) (fn:=Try.f35) (kills:=f66.kills) (cuts:=f66.cuts) (af:=f66.af) (aM c70 aW) hft hmix (by kernel_rfl) (by kernel_rfl) (fun a=>by kernel_rfl) (fun _=>by kernel_rfl) (fun _=>by kernel_rfl) (fun a h=>Gv.of (f66.eq a) (f66.of a (f66.ok a h)))
theorem c48:aY Try.prog F (F 48) f48.C:=bK (E:=f48.env) (ft:=ft) (np:=0) (fn:=Try.f14) (kills:=f48.kills) (cuts:=f48.cuts) (af:=f48.af) (aM c66 aW) hft hmix (by kernel_rfl) (by kernel_rfl) (fun a=>by kernel_rfl) (fun _=>by kernel_rfl) (fun _=>by kernel_rfl) (fun a h=>Gv.of (f48.eq a) (f48.of a (f48.ok a h)))
theorem c50:aY Try.prog F (F 50) f50.C:=bK (E:=f50.env) (ft:=ft) (np:=0) (fn:=Try.f16) (kills:=f50.kills) (cuts:=f50.cuts) (af:=f50.af) (aM c48 aW) hft hmix (by kernel_rfl) (by kernel_rfl) (fun a=>by kernel_rfl) (fun _=>by kernel_rfl) (fun _=>by kernel_rfl) (fun a h=>Gv.of (f50.eq a) (f50.of a (f50.ok a h)))
theorem c35:aY Try.prog F (F 35) f35.C:=bK (E:=f35.env) (ft:=ft) (np:=0) (fn:=Try.f47) (kills:=f35.kills) (cuts:=f35.cuts) (af:=f35.af) (aM c48 (aM c49 (aM c50 aW))) hft hmix (by kernel_rfl) (by kernel_rfl) (fun a=>by kernel_rfl) (fun _=>by kernel_rfl) (fun _=>by kernel_rfl) (fun a h=>Gv.of (f35.eq a) (f35.of a (f35.ok a h)))
theorem c51:aY Try.prog F (F 51) f51.C:=bK (E:=f51.env) (ft:=ft) (np:=0) (fn:=Try.f71) (kills:=f51.kills) (cuts:=f51.cuts) (af:=f51.af) (aM c48 aW) hft hmix (by kernel_rfl) (by kernel_rfl) (fun a=>by kernel_rfl) (fun _=>by kernel_rfl) (fun _=>by kernel_rfl) (fun a h=>Gv.of (f51.eq a) (f51.of a (f51.ok a h)))
theorem c24:aY Try.prog F (F 24) f24.C:=bK (E:=f24.env) (ft:=ft) (np:=0) (fn:=Try.f48) (kills:=f24.kills) (cuts:=f24.cuts) (af:=f24.af) (aM c48 (aM c49 (aM c50 (aM c51 aW)))) hft hmix (by kernel_rfl) (by kernel_rfl) (fun a=>by kernel_rfl) (fun _=>by kernel_rfl) (fun _=>by kernel_rfl) (fun a h=>Gv.of (f24.eq a) (f24.of a (f24.ok a h)))
theorem qY:aY Try.prog F (F 136) f136.C:=bK (E:=f136.env) (ft:=ft) (np:=0) (fn:=Try.f57) (kills:=f136.kills) (cuts:=f136.cuts) (af:=f136.af) aW hft hmix (by kernel_rfl) (by kernel_rfl) (fun a=>by kernel_rfl) (fun _=>by kernel_rfl) (fun _=>by kernel_rfl) (fun a h=>Gv.of (f136.eq a) (f136.of a (f136.ok a h)))
theorem aKO:aY Try.prog F (F 132) f132.C:=bK (E:=f132.env) (ft:=ft) (np:=0) (fn:=Try.f38) (kills:=f132.kills) (cuts:=f132.cuts) (af:=f132.af) (aM qY aW) hft hmix (by kernel_rfl) (by kernel_rfl) (fun a=>by kernel_rfl) (fun _=>by kernel_rfl) (fun _=>by kernel_rfl) (fun a h=>Gv.of (f132.eq a) (f132.of a (f132.ok a h)))
theorem aJW:aY Try.prog F (F 124) f124.C:=bK (E:=f124.env) (ft:=ft) (np:=0) (fn:=Try.f23) (kills:=f124.kills) (cuts:=f124.cuts) (af:=f124.af) (aM aKO aW) hft hmix (by kernel_rfl) (by kernel_rfl) (fun a=>by kernel_rfl) (fun _=>by kernel_rfl) (fun _=>by kernel_rfl) (fun a h=>Gv.of (f124.eq a) (f124.of a (f124.ok a h)))
theorem aJ5:aY Try.prog F (F 127) f127.C:=bK (E:=f127.env) (ft:=ft) (np:=0) (fn:=Try.f51) (kills:=f127.kills) (cuts:=f127.cuts) (af:=f127.af) aW hft hmix (by kernel_rfl) (by kernel_rfl) (fun a=>by kernel_rfl) (fun _=>by kernel_rfl) (fun _=>by kernel_rfl) (fun a h=>Gv.of (f127.eq a) (f127.of a (f127.ok a h)))
theorem sQ:aY Try.prog F (F 126) f126.C:=bK (E:=f126.env) (ft:=ft) (np:=0) (fn:=Try.f50) (kills:=f126.kills) (cuts:=f126.cuts) (af:=f126.af) (aM aJ5 aW) hft hmix (by kernel_rfl) (by kernel_rfl) (fun a=>by kernel_rfl) (fun _=>by kernel_rfl) (fun _=>by kernel_rfl) (fun a h=>Gv.of (f126.eq a) (f126.of a (f126.ok a h)))
theorem aI4:aY Try.prog F (F 56) f1056.C:=bK (E:=f1056.env) (ft:=ft) (np:=0) (fn:=Try.f72) (kills:=f1056.kills) (cuts:=f1056.cuts) (af:=f1056.af) (aM sQ aW) hft hmix (by kernel_rfl) (by kernel_rfl) (fun a=>by kernel_rfl) (fun _=>by kernel_rfl) (fun _=>by kernel_rfl) (fun a h=>Gv.of (f1056.eq a) (f1056.of a (f1056.ok a h)))
theorem aKM:aY Try.prog F (F 125) f125.C:=bK (E:=f125.env) (ft:=ft) (np:=0) (fn:=Try.f49) (kills:=f125.kills) (cuts:=f125.cuts) (af:=f125.af) (aM aI4 aW) hft hmix (by kernel_rfl) (by kernel_rfl) (fun a=>by kernel_rfl) (fun _=>by kernel_rfl) (fun _=>by kernel_rfl) (fun a h=>Gv.of (f125.eq a) (f125.of a (f125.ok a h)))
theorem c34:aY Try.prog F (F 34) f34.C:=bK (E:=f34.env) (ft:=ft) (np:=0) (fn:=Try.f52) (kills:=f34.kills) (cuts:=f34.cuts) (af:=f34.af) aW hft hmix (by kernel_rfl) (by kernel_rfl) (fun a=>by kernel_rfl) (fun _=>by kernel_rfl) (fun _=>by kernel_rfl) (fun a h=>Gv.of (f34.eq a) (f34.of a (f34.ok a h)))
theorem aJF:aY Try.prog F (F 111) f111.C:=bK (E:=f111.env) (ft:=ft) (np:=0) (fn:=Try.f34) (kills:=f111.kills) (cuts:=f111.cuts) (af:=f111.af) (aM aJC (aM c35 (aM c24 (aM aJW (aM aKM (aM c34 aW)))))) hft hmix (by kernel_rfl) (by kernel_rfl) (fun a=>by kernel_rfl) (fun _=>by kernel_rfl) (fun _=>by kernel_rfl) (fun a h=>Gv.of (f111.eq a) (f111.of a (f111.ok a h)))
theorem aJ2:aY Try.prog F (F 222) f222.C:=bK (E:=f222.env) (ft:=ft) (np:=0) (fn:=Try.f42) (kills:=f222.kills) (cuts:=f222.cuts) (af:=f222.af) (aM c49 aW) hft hmix (by kernel_rfl) (by kernel_rfl) (fun a=>by kernel_rfl) (fun _=>by kernel_rfl) (fun _=>by kernel_rfl) (fun a h=>Gv.of (f222.eq a) (f222.of a (f222.ok a h)))
theorem aKV:aY Try.prog F (F 197) f197.C:=bK (E:=f197.env) (ft:=ft) (np:=0) (fn:=Try.f28) (kills:=f197.kills) (cuts:=f197.cuts) (af:=f197.af) (aM aJF (aM aJC (aM aI3 (aM aJ2 aW)))) hft hmix (by kernel_rfl) (by kernel_rfl) (fun a=>by kernel_rfl) (fun _=>by kernel_rfl) (fun _=>by kernel_rfl) (fun a h=>Gv.of (f197.eq a) (f197.of a (f197.ok a h)))
theorem c45:aY Try.prog F (F 45) f45.C:=bK (E:=f45.env) (ft:=ft) (np:=0) (fn:=Try.f85) (kills:=f45.kills) (cuts:=f45.cuts) (af:=f45.af) aW hft hmix (by kernel_rfl) (by kernel_rfl) (fun a=>by kernel_rfl) (fun _=>by kernel_rfl) (fun _=>by kernel_rfl) (fun a h=>Gv.of (f45.eq a) (f45.of a (f45.ok a h)))
theorem aI5:aY Try.prog F (F 194) f194.C:=bK (E:=f194.env) (ft:=ft) (np:=0) (fn:=Try.f56) (kills:=f194.kills) (cuts:=f194.cuts) (af:=f194.af) (aM c45 aW) hft hmix (by kernel_rfl) (by kernel_rfl) (fun a=>by kernel_rfl) (fun _=>by kernel_rfl) (fun _=>by kernel_rfl) (fun a h=>Gv.of (f194.eq a) (f194.of a (f194.ok a h)))
theorem aJZ:aY Try.prog F (F 135) f135.C:=bK (E:=f135.env) (ft:=ft) (np:=0) (fn:=Try.f87) (kills:=f135.kills) (cuts:=f135.cuts) (af:=f135.af) aW hft hmix (by kernel_rfl) (by kernel_rfl) (fun a=>by kernel_rfl) (fun _=>by kernel_rfl) (fun _=>by kernel_rfl) (fun a h=>Gv.of (f135.eq a) (f135.of a (f135.ok a h)))
theorem aKS:aY Try.prog F (F 130) f130.C:=bK (E:=f130.env) (ft:=ft) (np:=0) (fn:=Try.f61) (kills:=f130.kills) (cuts:=f130.cuts) (af:=f130.af) (aM aJZ aW) hft hmix (by kernel_rfl) (by kernel_rfl) (fun a=>by kernel_rfl) (fun _=>by kernel_rfl) (fun _=>by kernel_rfl) (fun a h=>Gv.of (f130.eq a) (f130.of a (f130.ok a h)))
theorem aJS:aY Try.prog F (F 200) f200.C:=bK (E:=f200.env) (ft:=ft) (np:=0) (fn:=Try.f88) (kills:=f200.kills) (cuts:=f200.cuts) (af:=f200.af) aW hft hmix (by kernel_rfl) (by kernel_rfl) (fun a=>by kernel_rfl) (fun _=>by kernel_rfl) (fun _=>by kernel_rfl) (fun a h=>Gv.of (f200.eq a) (f200.of a (f200.ok a h)))
theorem aKJ:aY Try.prog F (F 176) f176.C:=bK (E:=f176.env) (ft:=ft) (np:=0) (fn:=Try.f62) (kills:=f176.kills) (cuts:=f176.cuts) (af:=f176.af) (aM aJS aW) hft hmix (by kernel_rfl) (by kernel_rfl) (fun a=>by kernel_rfl) (fun _=>by kernel_rfl) (fun _=>by kernel_rfl) (fun a h=>Gv.of (f176.eq a) (f176.of a (f176.ok a h)))
theorem aJX:aY Try.prog F (F 129) f129.C:=bK (E:=f129.env) (ft:=ft) (np:=0) (fn:=Try.f60) (kills:=f129.kills) (cuts:=f129.cuts) (af:=f129.af) aW hft hmix (by kernel_rfl) (by kernel_rfl) (fun a=>by kernel_rfl) (fun _=>by kernel_rfl) (fun _=>by kernel_rfl) (fun a h=>Gv.of (f129.eq a) (f129.of a (f129.ok a h)))
theorem aB5:aY Try.prog F (F 199) f199.C:=bK (E:=f199.env) (ft:=ft) (np:=0) (fn:=Try.f59) (kills:=f199.kills) (cuts:=f199.cuts) (af:=f199.af) (aM aKS (aM aKJ (aM aJX aW))) hft hmix (by kernel_rfl) (by kernel_rfl) (fun a=>by kernel_rfl) (fun _=>by kernel_rfl) (fun _=>by kernel_rfl) (fun a h=>Gv.of (f199.eq a) (f199.of a (f199.ok a h)))
theorem aJT:aY Try.prog F (F 233) f233.C:=bK (E:=f233.env) (ft:=ft) (np:=1) (fn:=Try.f100) (kills:=f233.kills) (cuts:=f233.cuts) (af:=f233.af) (aM aB5 aW) hft hmix (by kernel_rfl) (by kernel_rfl) (fun a=>by kernel_rfl) (fun _=>by kernel_rfl) (fun _=>by kernel_rfl) (fun a h=>Gv.of (f233.eq a) (f233.of a (f233.ok a h)))
theorem aKX:aY Try.prog F (F 248) f248.C:=bK (E:=f248.env) (ft:=ft) (np:=1) (fn:=Try.f110) (kills:=f248.kills) (cuts:=f248.cuts) (af:=f248.af) (aM aB5 aW) hft hmix (by kernel_rfl) (by kernel_rfl) (fun a=>by kernel_rfl) (fun _=>by kernel_rfl) (fun _=>by kernel_rfl) (fun a h=>Gv.of (f248.eq a) (f248.of a (f248.ok a h)))
theorem aKP:aY Try.prog F (F 234) f234.C:=bK (E:=f234.env) (ft:=ft) (np:=1) (fn:=Try.f101) (kills:=f234.kills) (cuts:=f234.cuts) (af:=f234.af) (aM aKX aW) hft hmix (by kernel_rfl) (by kernel_rfl) (fun a=>by kernel_rfl) (fun _=>by kernel_rfl) (fun _=>by kernel_rfl) (fun a h=>Gv.of (f234.eq a) (f234.of a (f234.ok a h)))
theorem aKD:aY Try.prog F (F 229) f229.C:=bK (E:=f229.env) (ft:=ft) (np:=0) (fn:=Try.f96) (kills:=f229.kills) (cuts:=f229.cuts) (af:=f229.af) (aM aI5 aW) hft hmix (by kernel_rfl) (by kernel_rfl) (fun a=>by kernel_rfl) (fun _=>by kernel_rfl) (fun _=>by kernel_rfl) (fun a h=>Gv.of (f229.eq a) (f229.of a (f229.ok a h)))
theorem aKA:aY Try.prog F (F 230) f230.C:=bK (E:=f230.env) (ft:=ft) (np:=1) (fn:=Try.f97) (kills:=f230.kills) (cuts:=f230.cuts) (af:=f230.af) aW hft hmix (by kernel_rfl) (by kernel_rfl) (fun a=>by kernel_rfl) (fun _=>by kernel_rfl) (fun _=>by kernel_rfl) (fun a h=>Gv.of (f230.eq a) (f230.of a (f230.ok a h)))
theorem aJY:aY Try.prog F (F 235) f235.C:=bK (E:=f235.env) (ft:=ft) (np:=1) (fn:=Try.f102) (kills:=f235.kills) (cuts:=f235.cuts) (af:=f235.af) (aM aKD (aM aKA aW)) hft hmix (by kernel_rfl) (by kernel_rfl) (fun a=>by kernel_rfl) (fun _=>by kernel_rfl) (fun _=>by kernel_rfl) (fun a h=>Gv.of (f235.eq a) (f235.of a (f235.ok a h)))
theorem aKG:aY Try.prog F (F 253) f253.C:=bK (E:=f253.env) (ft:=ft) (np:=2) (fn:=Try.f114) (kills:=f253.kills) (cuts:=f253.cuts) (af:=f253.af) (aM aB5 aW) hft hmix (by kernel_rfl) (by kernel_rfl) (fun a=>by kernel_rfl) (fun _=>by kernel_rfl) (fun _=>by kernel_rfl) (fun a h=>Gv.of (f253.eq a) (f253.of a (f253.ok a h)))
theorem aJK:aY Try.prog F (F 250) f250.C:=bK (E:=f250.env) (ft:=ft) (np:=2) (fn:=Try.f112) (kills:=f250.kills) (cuts:=f250.cuts) (af:=f250.af) (aM aKG aW) hft hmix (by kernel_rfl) (by kernel_rfl) (fun a=>by kernel_rfl) (fun _=>by kernel_rfl) (fun _=>by kernel_rfl) (fun a h=>Gv.of (f250.eq a) (f250.of a (f250.ok a h)))
theorem aKE:aY Try.prog F (F 249) f249.C:=bK (E:=f249.env) (ft:=ft) (np:=2) (fn:=Try.f111) (kills:=f249.kills) (cuts:=f249.cuts) (af:=f249.af) (aM aJK aW) hft hmix (by kernel_rfl) (by kernel_rfl) (fun a=>by kernel_rfl) (fun _=>by kernel_rfl) (fun _=>by kernel_rfl) (fun a h=>Gv.of (f249.eq a) (f249.of a (f249.ok a h)))
theorem aJ4:aY Try.prog F (F 236) f236.C:=bK (E:=f236.env) (ft:=ft) (np:=1) (fn:=Try.f103) (kills:=f236.kills) (cuts:=f236.cuts) (af:=f236.af) (aM aKE (aM aJK aW)) hft hmix (by kernel_rfl) (by kernel_rfl) (fun a=>by kernel_rfl) (fun _=>by kernel_rfl) (fun _=>by kernel_rfl) (fun a h=>Gv.of (f236.eq a) (f236.of a (f236.ok a h)))
theorem aKI:aY Try.prog F (F 237) f237.C:=bK (E:=f237.env) (ft:=ft) (np:=1) (fn:=Try.f104) (kills:=f237.kills) (cuts:=f237.cuts) (af:=f237.af) aW hft hmix (by kernel_rfl) (by kernel_rfl) (fun a=>by kernel_rfl) (fun _=>by kernel_rfl) (fun _=>by kernel_rfl) (fun a h=>Gv.of (f237.eq a) (f237.of a (f237.ok a h)))
theorem aJ9:aY Try.prog F (F 238) f238.C:=bK (E:=f238.env) (ft:=ft) (np:=1) (fn:=Try.f105) (kills:=f238.kills) (cuts:=f238.cuts) (af:=f238.af) (aM aB5 aW) hft hmix (by kernel_rfl) (by kernel_rfl) (fun a=>by kernel_rfl) (fun _=>by kernel_rfl) (fun _=>by kernel_rfl) (fun a h=>Gv.of (f238.eq a) (f238.of a (f238.ok a h)))
theorem aJN:aY Try.prog F (F 239) f239.C:=bK (E:=f239.env) (ft:=ft) (np:=1) (fn:=Try.f106) (kills:=f239.kills) (cuts:=f239.cuts) (af:=f239.af) (aM aB5 aW) hft hmix (by kernel_rfl) (by kernel_rfl) (fun a=>by kernel_rfl) (fun _=>by kernel_rfl) (fun _=>by kernel_rfl) (fun a h=>Gv.of (f239.eq a) (f239.of a (f239.ok a h)))
theorem aKZ:aY Try.prog F (F 240) f240.C:=bK (E:=f240.env) (ft:=ft) (np:=1) (fn:=Try.f107) (kills:=f240.kills) (cuts:=f240.cuts) (af:=f240.af) (aM aB5 aW) hft hmix (by kernel_rfl) (by kernel_rfl) (fun a=>by kernel_rfl) (fun _=>by kernel_rfl) (fun _=>by kernel_rfl) (fun a h=>Gv.of (f240.eq a) (f240.of a (f240.ok a h)))
theorem aKL:aY Try.prog F (F 223) f223.C:=aIQ (ft:=ft) (np:=1) (fn:=Try.f86) (kills:=f223.kills) (cuts:=f223.cuts) (af:=f223.af) (aM aJT (aM aKP (aM aJY (aM aJ4 (aM aKI (aM aJ9 (aM aB5 (aM aJN (aM aKZ aW))))))))) hft hmix (by kernel_rfl) (by kernel_rfl) (fun a=>by kernel_rfl) aCF (fun _=>by kernel_rfl) (fun _=>by kernel_rfl) (En:=f223.env) (fun _=>rfl) (fun n a h hn=>Gv.of (f223.eq a n) (f223.of a n (f223.ok a h n hn)))
theorem aJ6:aY Try.prog F (F 198) f198.C:=bK (E:=f198.env) (ft:=ft) (np:=1) (fn:=Try.f58) (kills:=f198.kills) (cuts:=f198.cuts) (af:=f198.af) (aM aI5 (aM aKL aW)) hft hmix (by kernel_rfl) (by kernel_rfl) (fun a=>by kernel_rfl) (fun _=>by kernel_rfl) (fun _=>by kernel_rfl) (fun a h=>Gv.of (f198.eq a) (f198.of a (f198.ok a h)))
theorem aJL:aY Try.prog F (F 171) f171.C:=bK (E:=f171.env) (ft:=ft) (np:=0) (fn:=Try.f39) (kills:=f171.kills) (cuts:=f171.cuts) (af:=f171.af) (aM aKV (aM aJ6 aW)) hft hmix (by kernel_rfl) (by kernel_rfl) (fun a=>by kernel_rfl) (fun _=>by kernel_rfl) (fun _=>by kernel_rfl) (fun a h=>Gv.of (f171.eq a) (f171.of a (f171.ok a h)))
theorem aKB:aY Try.prog F (F 151) f151.C:=bK (E:=f151.env) (ft:=ft) (np:=0) (fn:=Try.f27) (kills:=f151.kills) (cuts:=f151.cuts) (af:=f151.af) (aM aJL aW) hft hmix (by kernel_rfl) (by kernel_rfl) (fun a=>by kernel_rfl) (fun _=>by kernel_rfl) (fun _=>by kernel_rfl) (fun a h=>Gv.of (f151.eq a) (f151.of a (f151.ok a h)))
theorem aKY:aY Try.prog F (F 391) f391.C:=bK (E:=f391.env) (ft:=ft) (np:=0) (fn:=Try.f25) (kills:=f391.kills) (cuts:=f391.cuts) (af:=f391.af) (aM aKB aW) hft hmix (by kernel_rfl) (by kernel_rfl) (fun a=>by kernel_rfl) (fun _=>by kernel_rfl) (fun _=>by kernel_rfl) (fun a h=>Gv.of (f391.eq a) (f391.of a (f391.ok a h)))
theorem aJQ:aY Try.prog F (F 392) f392.C:=bK (E:=f392.env) (ft:=ft) (np:=0) (fn:=Try.f26) (kills:=f392.kills) (cuts:=f392.cuts) (af:=f392.af) aW hft hmix (by kernel_rfl) (by kernel_rfl) (fun a=>by kernel_rfl) (fun _=>by kernel_rfl) (fun _=>by kernel_rfl) (fun a h=>Gv.of (f392.eq a) (f392.of a (f392.ok a h)))
theorem aJO:aY Try.prog F (F 395) f395.C:=bK (E:=f395.env) (ft:=ft) (np:=0) (fn:=Try.f32) (kills:=f395.kills) (cuts:=f395.cuts) (af:=f395.af) (aM aJL aW) hft hmix (by kernel_rfl) (by kernel_rfl) (fun a=>by kernel_rfl) (fun _=>by kernel_rfl) (fun _=>by kernel_rfl) (fun a h=>Gv.of (f395.eq a) (f395.of a (f395.ok a h)))
theorem aKC:aY Try.prog F (F 150) f150.C:=bK (E:=f150.env) (ft:=ft) (np:=0) (fn:=Try.f31) (kills:=f150.kills) (cuts:=f150.cuts) (af:=f150.af) aW hft hmix (by kernel_rfl) (by kernel_rfl) (fun a=>by kernel_rfl) (fun _=>by kernel_rfl) (fun _=>by kernel_rfl) (fun a h=>Gv.of (f150.eq a) (f150.of a (f150.ok a h)))
theorem aJM:aY Try.prog F (F 405) f405.C:=bK (E:=f405.env) (ft:=ft) (np:=0) (fn:=Try.f11) (kills:=f405.kills) (cuts:=f405.cuts) (af:=f405.af) (aM aKY (aM aJQ (aM aJF (aM aJO (aM aKC aW))))) hft hmix (by kernel_rfl) (by kernel_rfl) (fun a=>by kernel_rfl) (fun _=>by kernel_rfl) (fun _=>by kernel_rfl) (fun a h=>Gv.of (f405.eq a) (f405.of a (f405.ok a h)))
theorem rd9:eS Try.prog 9 gN:=aE9 (by kernel_rfl) (by kernel_rfl)
theorem rd3:eS Try.prog 3 gF:=wO (by kernel_rfl) (by kernel_rfl)
theorem aKQ:mJ Try.prog [(3, 0), (3, 1), (3, 2)] 0 (cN gF (cN gF gF)):=bZ rd3 (bZ rd3 (iT rd3))
theorem aI9:eS Try.prog 39 iX:=aBO (m:=3) (e:=3) (by kernel_rfl) (by kernel_rfl) (cast (by kernel_rfl) aKQ)
theorem aKK:mJ Try.prog [(9, 0), (9, 1)] 0 (cN gN gN):=bZ rd9 (iT rd9)
theorem aJP:eS Try.prog 31 eK:=gE (fs:=(match Try.prog.underlying 31 with | some (.struct fs)=>fs | _=>#[])) (by kernel_rfl) (by kernel_rfl) (cast (by kernel_rfl) aKK)
theorem aI7:eS Try.prog 22 b6:=mK (e:=31) (by kernel_rfl) (by kernel_rfl) aJP (by decide)
theorem aJ0:mJ Try.prog [(9, 0), (39, 1), (22, 4)] 0 (cN gN (cN iX b6)):=bZ rd9 (bZ aI9 (iT aI7))
theorem aKW:eS Try.prog 41 jO:=gE (fs:=(match Try.prog.underlying 41 with | some (.struct fs)=>fs | _=>#[])) (by kernel_rfl) (by kernel_rfl) (cast (by kernel_rfl) aJ0)
theorem rd4:eS Try.prog 4 aBT:=aBS (by kernel_rfl) (by kernel_rfl)
theorem aKT:mJ Try.prog [(41, 0), (4, 5), (3, 6)] 0 (cN jO (cN aBT gF)):=bZ aKW (bZ rd4 (iT rd3))
theorem aJ8:eS Try.prog 43 d5:=gE (fs:=(match Try.prog.underlying 43 with | some (.struct fs)=>fs | _=>#[])) (by kernel_rfl) (by kernel_rfl) (cast (by kernel_rfl) aKT)
theorem aJ3:eS Try.prog 37 dO:=mK (e:=43) (by kernel_rfl) (by kernel_rfl) aJ8 (by decide)
theorem aJR:mJ Try.prog [(9, 0), (9, 1), (3, 2), (39, 3), (22, 6), (9, 7), (9, 8), (3, 9)] 0 (cN gN (cN gN (cN gF (cN iX (cN b6 (cN gN (cN gN gF))))))):=bZ rd9 (bZ rd9 (bZ rd3 (bZ aI9 (bZ aI7 (bZ rd9 (bZ rd9 (iT rd3)))))))
theorem aI8:eS Try.prog 46 eQ:=gE (fs:=(match Try.prog.underlying 46 with | some (.struct fs)=>fs | _=>#[])) (by kernel_rfl) (by kernel_rfl) (cast (by kernel_rfl) aJR)
theorem aKN:mJ Try.prog [(46, 0), (3, 10), (9, 11), (3, 12)] 0 (cN eQ (cN gF (cN gN gF))):=bZ aI8 (bZ rd3 (bZ rd9 (iT rd3)))
theorem aJU:eS Try.prog 80 nI:=gE (fs:=(match Try.prog.underlying 80 with | some (.struct fs)=>fs | _=>#[])) (by kernel_rfl) (by kernel_rfl) (cast (by kernel_rfl) aKN)
theorem aKH:eS Try.prog 44 fK:=mK (e:=80) (by kernel_rfl) (by kernel_rfl) aJU (by decide)
theorem aJ7:eS Try.prog 55 aF0:=wO (by kernel_rfl) (by kernel_rfl)
theorem args:aE3 Try.prog Try.f11.params.toList f405.args f405.wf f405.size:=cast (by kernel_rfl) (nL (g:=false) (by kernel_rfl) aJ3 (.inr rfl) (nL (g:=false) (by kernel_rfl) aKH (.inr rfl) (nL (g:=true) (by kernel_rfl) aI8 (.inl rfl) (aFW (g:=false) (by kernel_rfl) aJ7 (.inr rfl)))))
theorem cz:aY Try.prog F 11 f405.C:=cast (by kernel_rfl) aJM
def bk (H:Type):aE6 H:=⟨Rows.uptoBulk, Rows.uptoBulkAll, fun _=>by simp [Rows.uptoBulk], fun d=>by
 cases d with
 | lit l=>cases l <;> simp [Rows.uptoBulk]
 | _=>simp [Rows.uptoBulk], fun _ _=>by simp [Rows.uptoBulk], fun _=>by simp [Rows.uptoBulk], by simp [Rows.uptoBulkAll], fun _ _=>by simp [Rows.uptoBulkAll]⟩
theorem allowed:∀ t∈Try.f11.params.toList, Try.prog.readableRec t=true∧t < Try.prog.types.size:=by
 have h:(Try.f11.params.toList.all fun t=>Try.prog.readableRec t&&decide (t < Try.prog.types.size))=true:=by kernel_rfl
 intro t ht
 have:=List.all_eq_true.1 h t ht
 rw [Bool.and_eq_true, decide_eq_true_eq] at this
 exact this
set_option maxRecDepth 100000 in
theorem contract (H:Type) (enc:TypeId×Value→H) (W:World) (base:Nat) (args_:Array Value) (ds gs:List (DataW H)) (before:List MemPlace)
  (hval:∀ (j:Nat) t v, Try.f11.params[j]? = some t→args_[j]? = some v→Value.okWide Try.prog W .any base t v)
  (hW:DataW.Whole enc Try.prog Try.f11.params.toList Rows.rankOrderSpec.vars false W args_.toList ds gs before) (hk:Rows.uptoSmall H (ds++gs)=true) :
  Calls Try.prog 11 args_ W fun e W'=>∃ v, e=.returned v∧Rows.rankOrderSpec.post enc Try.prog Try.f11 false true false false W args_ v W' :=
 xT (N:=1048576) (rt:=4) (fn:=Try.f11) (bk H) cz args (fun a h1 h2=>⟨h1, h2⟩) (by kernel_rfl) (fun t ht=>allowed t ht) (by kernel_rfl) (by kernel_rfl) rfl (fun ds h=>by
  match ds, h with
  | [d0, d1, d2, d3], _=>rfl) hval hW (show Rows.uptoBulkAll (ds++gs)≤1048576 from of_decide_eq_true hk)
theorem own:ownKnob Try.prog.godebug=none:=by kernel_rfl
set_option maxRecDepth 100000 in
theorem lifted (os:Os) (started:os.Started) (H:Type) (enc:TypeId×Value→H) (Fi:Stop.Interp) :
  ReturnsInHanded {} Try.checked os 11 .any ((Rows.OpenSpec.upto Rows.rankOrderSpec).pre6 enc Try.prog Try.f11 Rows.rankOrderUptoRow.domain false) (((Rows.OpenSpec.upto Rows.rankOrderSpec).at Fi).post enc Try.prog Try.f11 false true false false):=by
 refine returnsInHanded_of_cond (C:=Try.checked) (s:=Rows.OpenSpec.upto Rows.rankOrderSpec) (k:=Rows.uptoSmall) rfl own started (by kernel_rfl) Try.func11
  (OpenSpec.witness (enc:=enc) (C:=Try.checked) (s:=Rows.OpenSpec.upto Rows.rankOrderSpec) (k:=Rows.uptoSmall) rfl false ⟨#[], #[.slice none 0 0, .slice none 0 0, .agg #[.string .empty, .string .empty, .int .i64 0, .int .i64 0, .int .i64 0, .int .i64 0, .slice none 0 0, .string .empty, .string .empty, .int .i64 0], .int .u64 0], []⟩ 12 (by kernel_rfl) (by kernel_rfl) (by kernel_rfl)
   (x:=([.nil, .nil, .agg [.lit (.string []), .lit (.string []), .lit (.int .i64 0), .agg [.lit (.int .i64 0), .lit (.int .i64 0), .lit (.int .i64 0)], .nil, .lit (.string []), .lit (.string []), .lit (.int .i64 0)], .lit (.int .u64 0)], [], [])) (by kernel_rfl) rfl (by kernel_rfl)) ?_
 intro W base args ds gs before hval hW _ hk _
 exact contract H enc W base args ds gs before hval hW hk
theorem and_i {a b:Bool} (h:a=true) (k:b=true):(a&&b)=true:=by rw [h, k]; rfl
set_option maxHeartbeats 12800000 in
theorem facts:joinedFacts Try.checked.prog 11 Try.f11 (Rows.OpenSpec.upto Rows.rankOrderSpec).bare Rows.rankOrderUptoRow=true:=by
 unfold joinedFacts
 repeat' with_reducible refine and_i ?_ ?_
 all_goals as_aux_lemma=>kernel_rfl
theorem proved:Rows.RankOrderUptoSaid :=
 OpenClaim.holds_of_cond 11 Try.f11 rfl rfl rfl rfl rfl rfl rfl ⟨rfl, rfl, rfl, rfl, rfl⟩ rfl rfl rfl rfl rfl (by kernel_rfl) Try.func11 facts
  (of_decide_eq_true (by kernel_rfl)) (by unfold Func.isWrapper; first | (rw [if_pos (by decide +kernel)]; kernel_rfl) | (rw [if_neg (by decide +kernel)]; exact ⟨rfl, rfl⟩))
  (fun os started H enc _ Fi=>lifted os started H enc Fi)
end Go.Proofs.Ytjlehbennimkgaa.rankOrder
