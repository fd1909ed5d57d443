/- The law RankBest: for every input it returns true, and the input reads as it did; where the input is of bulk at most 1048576. -/
import Derived.Test.YtabnaedcnfkmiafRows
import Derived.JoinedCond
import Derived.KernelRfl
import Derived.Test.YtabnaedcnfkmiafRankBestP3
import Derived.Test.YtabnaedcnfkmiafRankBestP4
import Derived.Test.YtabnaedcnfkmiafRankBestP5
import Derived.Test.YtabnaedcnfkmiafRankBestP6
import Derived.Test.YtabnaedcnfkmiafRankBestP7
import Derived.Test.YtabnaedcnfkmiafRankBestP8
import Derived.Test.YtabnaedcnfkmiafRankBestP9
import Derived.Test.YtabnaedcnfkmiafRankBestP10
import Derived.Test.YtabnaedcnfkmiafRankBestP11
import Derived.Test.YtabnaedcnfkmiafRankBestP12
import Derived.Test.YtabnaedcnfkmiafRankBestP13
import Derived.Test.YtabnaedcnfkmiafRankBestP14
import Derived.Test.YtabnaedcnfkmiafRankBestP15
import Derived.Test.YtabnaedcnfkmiafRankBestP16
import Derived.Test.YtabnaedcnfkmiafRankBestP17
import Derived.Test.YtabnaedcnfkmiafRankBestP18
import Derived.Test.YtabnaedcnfkmiafRankBestP19
import Derived.Test.YtabnaedcnfkmiafRankBestP20
import Derived.Test.YtabnaedcnfkmiafRankBestP21
import Derived.Test.YtabnaedcnfkmiafRankBestP22
namespace Go.Proofs.Ytabnaedcnfkmiaf.rankBest
open Go Go.Abs Go.RowKit Go.ChangeShapes
set_option linter.unusedVariables false
def ft:FT:=[(3, 404), (4, 405), (5, 391), (6, 392), (7, 151), (8, 395), (9, 197), (10, 111), (11, 150), (12, 171), (13, 112), (14, 113), (15, 222), (16, 35), (17, 24), (18, 124), (19, 125), (20, 126), (21, 127), (22, 34), (23, 198), (24, 199), (25, 129), (26, 130), (27, 176), (28, 52), (29, 69), (30, 49), (31, 48), (32, 50), (33, 51), (34, 132), (35, 56), (36, 223), (37, 194), (38, 135), (39, 200), (40, 54), (41, 66), (42, 67), (43, 136), (44, 233), (45, 234), (46, 235), (47, 236), (48, 237), (49, 238), (50, 239), (51, 240), (52, 220), (53, 45), (54, 70), (55, 71), (56, 248), (57, 229), (58, 230), (59, 249), (60, 250), (61, 72), (62, 73), (63, 253), (64, 74), (65, 75), (66, 76), (67, 77), (68, 78), (69, 79)]
def rt:List (Nat×Nat):=[(404, 3), (405, 4), (391, 5), (392, 6), (151, 7), (395, 8), (197, 9), (111, 10), (150, 11), (171, 12), (112, 13), (113, 14), (222, 15), (35, 16), (24, 17), (124, 18), (125, 19), (126, 20), (127, 21), (34, 22), (198, 23), (199, 24), (129, 25), (130, 26), (176, 27), (52, 28), (69, 29), (49, 30), (48, 31), (50, 32), (51, 33), (132, 34), (56, 35), (223, 36), (194, 37), (135, 38), (200, 39), (54, 40), (66, 41), (67, 42), (136, 43), (233, 44), (234, 45), (235, 46), (236, 47), (237, 48), (238, 49), (239, 50), (240, 51), (220, 52), (45, 53), (70, 54), (71, 55), (248, 56), (229, 57), (230, 58), (249, 59), (250, 60), (72, 61), (73, 62), (253, 63), (74, 64), (75, 65), (76, 66), (77, 67), (78, 68), (79, 69)]
def F (g:Nat):FuncId:=(ag rt g).getD 0
theorem hft:∀ f j, ag ft f=some j→F j=f:=aJF (by kernel_rfl)
theorem hmix:Try.prog.follows .mixedOrders=true:=by kernel_rfl
theorem c49:aY Try.prog F (F 49) f49.C:=bN (E:=f49.env) (ft:=ft) (np:=0) (fn:=Try.f30) (kills:=f49.kills) (cuts:=f49.cuts) (af:=f49.af) aW hft hmix (by kernel_rfl) (by kernel_rfl) (fun a=>by kernel_rfl) (fun _=>by kernel_rfl) (fun _=>by kernel_rfl) (fun a h=>Gv.of (f49.eq a) (f49.of a (f49.ok a h)))
theorem c69:aY Try.prog F (F 69) f69.C:=bN (E:=f69.env) (ft:=ft) (np:=0) (fn:=Try.f29) (kills:=f69.kills) (cuts:=f69.cuts) (af:=f69.af) (aL c49 aW) hft hmix (by kernel_rfl) (by kernel_rfl) (fun a=>by kernel_rfl) (fun _=>by kernel_rfl) (fun _=>by kernel_rfl) (fun a h=>Gv.of (f69.eq a) (f69.of a (f69.ok a h)))
theorem c54:aY Try.prog F (F 54) f54.C:=bN (E:=f54.env) (ft:=ft) (np:=0) (fn:=Try.f40) (kills:=f54.kills) (cuts:=f54.cuts) (af:=f54.af) (aL c69 aW) hft hmix (by kernel_rfl) (by kernel_rfl) (fun a=>by kernel_rfl) (fun _=>by kernel_rfl) (fun _=>by kernel_rfl) (fun a h=>Gv.of (f54.eq a) (f54.of a (f54.ok a h)))
theorem c52:aY Try.prog F (F 52) f52.C:=bN (E:=f52.env) (ft:=ft) (np:=0) (fn:=Try.f28) (kills:=f52.kills) (cuts:=f52.cuts) (af:=f52.af) (aL c54 aW) hft hmix (by kernel_rfl) (by kernel_rfl) (fun a=>by kernel_rfl) (fun _=>by kernel_rfl) (fun _=>by kernel_rfl) (fun a h=>Gv.of (f52.eq a) (f52.of a (f52.ok a h)))
theorem aI7:aY Try.prog F (F 113) f113.C:=bN (E:=f113.env) (ft:=ft) (np:=0) (fn:=Try.f14) (kills:=f113.kills) (cuts:=f113.cuts) (af:=f113.af) (aL c69 aW) hft hmix (by kernel_rfl) (by kernel_rfl) (fun a=>by kernel_rfl) (fun _=>by kernel_rfl) (fun _=>by kernel_rfl) (fun a h=>Gv.of (f113.eq a) (f113.of a (f113.ok a h)))
theorem aI6:aY Try.prog F (F 112) f112.C:=bN (E:=f112.env) (ft:=ft) (np:=0) (fn:=Try.f13) (kills:=f112.kills) (cuts:=f112.cuts) (af:=f112.af) (aL c52 (aL aI7 aW)) hft hmix (by kernel_rfl) (by kernel_rfl) (fun a=>by kernel_rfl) (fun _=>by kernel_rfl) (fun _=>by kernel_rfl) (fun a h=>Gv.of (f112.eq a) (f112.of a (f112.ok a h)))
theorem c79:aHL Try.prog F (F 79) f79.C:=uX (fn:=Try.f69) (by kernel_rfl) (by kernel_rfl) (by kernel_rfl) (by kernel_rfl) (by kernel_rfl)
theorem c78:aY Try.prog F (F 78) f78.C:=bN (E:=f78.env) (ft:=ft) (np:=0) (fn:=Try.f68) (kills:=f78.kills) (cuts:=f78.cuts) (af:=f78.af) (aHV c79 aW) hft hmix (by kernel_rfl) (by kernel_rfl) (fun a=>by kernel_rfl) (fun _=>by kernel_rfl) (fun _=>by kernel_rfl) (fun a h=>Gv.of (f78.eq a) (f78.of a (f78.ok a h)))
theorem c74:aY Try.prog F (F 74) f74.C:=bN (E:=f74.env) (ft:=ft) (np:=0) (fn:=Try.f64) (kills:=f74.kills) (cuts:=f74.cuts) (af:=f74.af) (aL c78 aW) hft hmix (by kernel_rfl) (by kernel_rfl) (fun a=>by kernel_rfl) (fun _=>by kernel_rfl) (fun _=>by kernel_rfl) (fun a h=>Gv.of (f74.eq a) (f74.of a (f74.ok a h)))
theorem c75:aY Try.prog F (F 75) f75.C:=bN (E:=f75.env) (ft:=ft) (np:=0) (fn:=Try.f65) (kills:=f75.kills) (cuts:=f75.cuts) (af:=f75.af) aW hft hmix (by kernel_rfl) (by kernel_rfl) (fun a=>by kernel_rfl) (fun _=>by kernel_rfl) (fun _=>by kernel_rfl) (fun a h=>Gv.of (f75.eq a) (f75.of a (f75.ok a h)))
theorem c73:aY Try.prog F (F 73) f73.C:=bN (E:=f73.env) (ft:=ft) (np:=0) (fn:=Try.f62) (kills:=f73.kills) (cuts:=f73.cuts) (af:=f73.af) (aL c74 (aL c75 aW)) hft hmix (by kernel_rfl) (by kernel_rfl) (fun a=>by kernel_rfl) (fun _=>by kernel_rfl) (fun _=>by kernel_rfl) (fun a h=>Gv.of (f73.eq a) (f73.of a (f73.ok a h)))
theorem c71:aY Try.prog F (F 71) f71.C:=bN (E:=f71.env) (ft:=ft) (np:=0) (fn:=Try.f55) (kills:=f71.kills) (cuts:=f71.cuts) (af:=f71.af) (aL c73 aW) hft hmix (by kernel_rfl) (by kernel_rfl) (fun a=>by kernel_rfl) (fun _=>by kernel_rfl) (fun _=>by kernel_rfl) (fun a h=>Gv.of (f71.eq a) (f71.of a (f71.ok a h)))
theorem c67:aY Try.prog F (F 67) f67.C:=bN (E:=f67.env) (ft:=ft) (np:=0) (fn:=Try.f42) (kills:=f67.kills) (cuts:=f67.cuts) (af:=f67.af) (aL c71 aW) hft hmix (by kernel_rfl) (by kernel_rfl) (fun a=>by kernel_rfl) (fun _=>by kernel_rfl) (fun _=>by kernel_rfl) (fun a h=>Gv.of (f67.eq a) (f67.of a (f67.ok a h)))
theorem c72:aY Try.prog F (F 72) f72.C:=bN (E:=f72.env) (ft:=ft) (np:=0) (fn:=Try.f61) (kills:=f72.kills) (cuts:=f72.cuts) (af:=f72.af) (aL c67 aW) hft hmix (by kernel_rfl) (by kernel_rfl) (fun a=>by kernel_rfl) (fun _=>by kernel_rfl) (fun _=>by kernel_rfl) (fun a h=>Gv.of (f72.eq a) (f72.of a (f72.ok a h)))
theorem c70:aY Try.prog F (F 70) f70.C:=bN (E:=f70.env) (ft:=ft) (np:=0) (fn:=Try.f54) (kills:=f70.kills) (cuts:=f70.cuts) (af:=f70.af) (aL c72 aW) hft hmix (by kernel_rfl) (by kernel_rfl) (fun a=>by kernel_rfl) (fun _=>by kernel_rfl) (fun _=>by kernel_rfl) (fun a h=>Gv.of (f70.eq a) (f70.of a (f70.ok a h)))
theorem c66:aY Try.prog F (F 66) f66.C:=bN (E:=f66.env) (ft:=ft) (np:=0) (fn:=Try.f41) (kills:=f66.kills) (cuts:=f66.cuts) (af:=f66.af) (aL c70 aW) hft hmix (by kernel_rfl) (by kernel_rfl) (fun a=>by kernel_rfl) (fun _=>by kernel_rfl) (fun _=>by kernel_rfl) (fun a h=>Gv.of (f66.eq a) (f66.of a (f66.ok a h)))
theorem c48:aY Try.prog F (F 48) f48.C:=bN (E:=f48.env) (ft:=ft) (np:=0) (fn:=Try.f31) (kills:=f48.kills) (cuts:=f48.cuts) (af:=f48.af) (aL c66 aW) hft hmix (by kernel_rfl) (by kernel_rfl) (fun a=>by kernel_rfl) (fun _=>by kernel_rfl) (fun _=>by kernel_rfl) (fun a h=>Gv.of (f48.eq a) (f48.of a (f48.ok a h)))
theorem c50:aY Try.prog F (F 50) f50.C:=bN (E:=f50.env) (ft:=ft) (np:=0) (fn:=Try.f32) (kills:=f50.kills) (cuts:=f50.cuts) (af:=f50.af) (aL c48 aW) hft hmix (by kernel_rfl) (by kernel_rfl) (fun a=>by kernel_rfl) (fun _=>by kernel_rfl) (fun _=>by kernel_rfl) (fun a h=>Gv.of (f50.eq a) (f50.of a (f50.ok a h)))
theorem c35:aY Try.prog F (F 35) f35.C:=bN (E:=f35.env) (ft:=ft) (np:=0) (fn:=Try.f16) (kills:=f35.kills) (cuts:=f35.cuts) (af:=f35.af) (aL c48 (aL c49 (aL c50 aW))) hft hmix (by kernel_rfl) (by kernel_rfl) (fun a=>by kernel_rfl) (fun _=>by kernel_rfl) (fun _=>by kernel_rfl) (fun a h=>Gv.of (f35.eq a) (f35.of a (f35.ok a h)))
theorem c51:aY Try.prog F (F 51) f51.C:=bN (E:=f51.env) (ft:=ft) (np:=0) (fn:=Try.f33) (kills:=f51.kills) (cuts:=f51.cuts) (af:=f51.af) (aL c48 aW) hft hmix (by kernel_rfl) (by kernel_rfl) (fun a=>by kernel_rfl) (fun _=>by kernel_rfl) (fun _=>by kernel_rfl) (fun a h=>Gv.of (f51.eq a) (f51.of a (f51.ok a h)))
theorem c24:aY Try.prog F (F 24) f24.C:=bN (E:=f24.env) (ft:=ft) (np:=0) (fn:=Try.f17) (kills:=f24.kills) (cuts:=f24.cuts) (af:=f24.af) (aL c48 (aL c49 (aL c50 (aL c51 aW)))) hft hmix (by kernel_rfl) (by kernel_rfl) (fun a=>by kernel_rfl) (fun _=>by kernel_rfl) (fun _=>by kernel_rfl) (fun a h=>Gv.of (f24.eq a) (f24.of a (f24.ok a h)))
theorem qU:aY Try.prog F (F 136) f136.C:=bN (E:=f136.env) (ft:=ft) (np:=0) (fn:=Try.f43) (kills:=f136.kills) (cuts:=f136.cuts) (af:=f136.af) aW hft hmix (by kernel_rfl) (by kernel_rfl) (fun a=>by kernel_rfl) (fun _=>by kernel_rfl) (fun _=>by kernel_rfl) (fun a h=>Gv.of (f136.eq a) (f136.of a (f136.ok a h)))
theorem aKL:aY Try.prog F (F 132) f132.C:=bN (E:=f132.env) (ft:=ft) (np:=0) (fn:=Try.f34) (kills:=f132.kills) (cuts:=f132.cuts) (af:=f132.af) (aL qU aW) hft hmix (by kernel_rfl) (by kernel_rfl) (fun a=>by kernel_rfl) (fun _=>by kernel_rfl) (fun _=>by kernel_rfl) (fun a h=>Gv.of (f132.eq a) (f132.of a (f132.ok a h)))
theorem aKI:aY Try.prog F (F 124) f124.C:=bN (E:=f124.env) (ft:=ft) (np:=0) (fn:=Try.f18) (kills:=f124.kills) (cuts:=f124.cuts) (af:=f124.af) (aL aKL aW) hft hmix (by kernel_rfl) (by kernel_rfl) (fun a=>by kernel_rfl) (fun _=>by kernel_rfl) (fun _=>by kernel_rfl) (fun a h=>Gv.of (f124.eq a) (f124.of a (f124.ok a h)))
theorem aKR:aY Try.prog F (F 127) f127.C:=bN (E:=f127.env) (ft:=ft) (np:=0) (fn:=Try.f21) (kills:=f127.kills) (cuts:=f127.cuts) (af:=f127.af) aW hft hmix (by kernel_rfl) (by kernel_rfl) (fun a=>by kernel_rfl) (fun _=>by kernel_rfl) (fun _=>by kernel_rfl) (fun a h=>Gv.of (f127.eq a) (f127.of a (f127.ok a h)))
theorem tZ:aY Try.prog F (F 126) f126.C:=bN (E:=f126.env) (ft:=ft) (np:=0) (fn:=Try.f20) (kills:=f126.kills) (cuts:=f126.cuts) (af:=f126.af) (aL aKR aW) hft hmix (by kernel_rfl) (by kernel_rfl) (fun a=>by kernel_rfl) (fun _=>by kernel_rfl) (fun _=>by kernel_rfl) (fun a h=>Gv.of (f126.eq a) (f126.of a (f126.ok a h)))
theorem aJE:aY Try.prog F (F 56) f1056.C:=bN (E:=f1056.env) (ft:=ft) (np:=0) (fn:=Try.f35) (kills:=f1056.kills) (cuts:=f1056.cuts) (af:=f1056.af) (aL tZ aW) hft hmix (by kernel_rfl) (by kernel_rfl) (fun a=>by kernel_rfl) (fun _=>by kernel_rfl) (fun _=>by kernel_rfl) (fun a h=>Gv.of (f1056.eq a) (f1056.of a (f1056.ok a h)))
theorem aKX:aY Try.prog F (F 125) f125.C:=bN (E:=f125.env) (ft:=ft) (np:=0) (fn:=Try.f19) (kills:=f125.kills) (cuts:=f125.cuts) (af:=f125.af) (aL aJE aW) hft hmix (by kernel_rfl) (by kernel_rfl) (fun a=>by kernel_rfl) (fun _=>by kernel_rfl) (fun _=>by kernel_rfl) (fun a h=>Gv.of (f125.eq a) (f125.of a (f125.ok a h)))
theorem c34:aY Try.prog F (F 34) f34.C:=bN (E:=f34.env) (ft:=ft) (np:=0) (fn:=Try.f22) (kills:=f34.kills) (cuts:=f34.cuts) (af:=f34.af) aW hft hmix (by kernel_rfl) (by kernel_rfl) (fun a=>by kernel_rfl) (fun _=>by kernel_rfl) (fun _=>by kernel_rfl) (fun a h=>Gv.of (f34.eq a) (f34.of a (f34.ok a h)))
theorem aJN:aY Try.prog F (F 111) f111.C:=bN (E:=f111.env) (ft:=ft) (np:=0) (fn:=Try.f10) (kills:=f111.kills) (cuts:=f111.cuts) (af:=f111.af) (aL aI6 (aL c35 (aL c24 (aL aKI (aL aKX (aL c34 aW)))))) hft hmix (by kernel_rfl) (by kernel_rfl) (fun a=>by kernel_rfl) (fun _=>by kernel_rfl) (fun _=>by kernel_rfl) (fun a h=>Gv.of (f111.eq a) (f111.of a (f111.ok a h)))
theorem aJ0:aY Try.prog F (F 222) f222.C:=bN (E:=f222.env) (ft:=ft) (np:=0) (fn:=Try.f15) (kills:=f222.kills) (cuts:=f222.cuts) (af:=f222.af) (aL c49 aW) hft hmix (by kernel_rfl) (by kernel_rfl) (fun a=>by kernel_rfl) (fun _=>by kernel_rfl) (fun _=>by kernel_rfl) (fun a h=>Gv.of (f222.eq a) (f222.of a (f222.ok a h)))
theorem aI5:aY Try.prog F (F 197) f197.C:=bN (E:=f197.env) (ft:=ft) (np:=0) (fn:=Try.f9) (kills:=f197.kills) (cuts:=f197.cuts) (af:=f197.af) (aL aJN (aL aI6 (aL aI7 (aL aJ0 aW)))) hft hmix (by kernel_rfl) (by kernel_rfl) (fun a=>by kernel_rfl) (fun _=>by kernel_rfl) (fun _=>by kernel_rfl) (fun a h=>Gv.of (f197.eq a) (f197.of a (f197.ok a h)))
theorem c45:aY Try.prog F (F 45) f45.C:=bN (E:=f45.env) (ft:=ft) (np:=0) (fn:=Try.f53) (kills:=f45.kills) (cuts:=f45.cuts) (af:=f45.af) aW hft hmix (by kernel_rfl) (by kernel_rfl) (fun a=>by kernel_rfl) (fun _=>by kernel_rfl) (fun _=>by kernel_rfl) (fun a h=>Gv.of (f45.eq a) (f45.of a (f45.ok a h)))
theorem aI1:aY Try.prog F (F 194) f194.C:=bN (E:=f194.env) (ft:=ft) (np:=0) (fn:=Try.f37) (kills:=f194.kills) (cuts:=f194.cuts) (af:=f194.af) (aL c45 aW) hft hmix (by kernel_rfl) (by kernel_rfl) (fun a=>by kernel_rfl) (fun _=>by kernel_rfl) (fun _=>by kernel_rfl) (fun a h=>Gv.of (f194.eq a) (f194.of a (f194.ok a h)))
theorem aKV:aY Try.prog F (F 135) f135.C:=bN (E:=f135.env) (ft:=ft) (np:=0) (fn:=Try.f38) (kills:=f135.kills) (cuts:=f135.cuts) (af:=f135.af) aW hft hmix (by kernel_rfl) (by kernel_rfl) (fun a=>by kernel_rfl) (fun _=>by kernel_rfl) (fun _=>by kernel_rfl) (fun a h=>Gv.of (f135.eq a) (f135.of a (f135.ok a h)))
theorem aKK:aY Try.prog F (F 130) f130.C:=bN (E:=f130.env) (ft:=ft) (np:=0) (fn:=Try.f26) (kills:=f130.kills) (cuts:=f130.cuts) (af:=f130.af) (aL aKV aW) hft hmix (by kernel_rfl) (by kernel_rfl) (fun a=>by kernel_rfl) (fun _=>by kernel_rfl) (fun _=>by kernel_rfl) (fun a h=>Gv.of (f130.eq a) (f130.of a (f130.ok a h)))
theorem aJU:aY Try.prog F (F 200) f200.C:=bN (E:=f200.env) (ft:=ft) (np:=0) (fn:=Try.f39) (kills:=f200.kills) (cuts:=f200.cuts) (af:=f200.af) aW hft hmix (by kernel_rfl) (by kernel_rfl) (fun a=>by kernel_rfl) (fun _=>by kernel_rfl) (fun _=>by kernel_rfl) (fun a h=>Gv.of (f200.eq a) (f200.of a (f200.ok a h)))
theorem aKQ:aY Try.prog F (F 176) f176.C:=bN (E:=f176.env) (ft:=ft) (np:=0) (fn:=Try.f27) (kills:=f176.kills) (cuts:=f176.cuts) (af:=f176.af) (aL aJU aW) hft hmix (by kernel_rfl) (by kernel_rfl) (fun a=>by kernel_rfl) (fun _=>by kernel_rfl) (fun _=>by kernel_rfl) (fun a h=>Gv.of (f176.eq a) (f176.of a (f176.ok a h)))
theorem aKE:aY Try.prog F (F 129) f129.C:=bN (E:=f129.env) (ft:=ft) (np:=0) (fn:=Try.f25) (kills:=f129.kills) (cuts:=f129.cuts) (af:=f129.af) aW hft hmix (by kernel_rfl) (by kernel_rfl) (fun a=>by kernel_rfl) (fun _=>by kernel_rfl) (fun _=>by kernel_rfl) (fun a h=>Gv.of (f129.eq a) (f129.of a (f129.ok a h)))
theorem aCW:aY Try.prog F (F 199) f199.C:=bN (E:=f199.env) (ft:=ft) (np:=0) (fn:=Try.f24) (kills:=f199.kills) (cuts:=f199.cuts) (af:=f199.af) (aL aKK (aL aKQ (aL aKE aW))) hft hmix (by kernel_rfl) (by kernel_rfl) (fun a=>by kernel_rfl) (fun _=>by kernel_rfl) (fun _=>by kernel_rfl) (fun a h=>Gv.of (f199.eq a) (f199.of a (f199.ok a h)))
theorem aJV:aY Try.prog F (F 233) f233.C:=bN (E:=f233.env) (ft:=ft) (np:=1) (fn:=Try.f44) (kills:=f233.kills) (cuts:=f233.cuts) (af:=f233.af) (aL aCW aW) hft hmix (by kernel_rfl) (by kernel_rfl) (fun a=>by kernel_rfl) (fun _=>by kernel_rfl) (fun _=>by kernel_rfl) (fun a h=>Gv.of (f233.eq a) (f233.of a (f233.ok a h)))
theorem aJ5:aY Try.prog F (F 248) f248.C:=bN (E:=f248.env) (ft:=ft) (np:=1) (fn:=Try.f56) (kills:=f248.kills) (cuts:=f248.cuts) (af:=f248.af) (aL aCW aW) hft hmix (by kernel_rfl) (by kernel_rfl) (fun a=>by kernel_rfl) (fun _=>by kernel_rfl) (fun _=>by kernel_rfl) (fun a h=>Gv.of (f248.eq a) (f248.of a (f248.ok a h)))
theorem aJ9:aY Try.prog F (F 234) f234.C:=bN (E:=f234.env) (ft:=ft) (np:=1) (fn:=Try.f45) (kills:=f234.kills) (cuts:=f234.cuts) (af:=f234.af) (aL aJ5 aW) hft hmix (by kernel_rfl) (by kernel_rfl) (fun a=>by kernel_rfl) (fun _=>by kernel_rfl) (fun _=>by kernel_rfl) (fun a h=>Gv.of (f234.eq a) (f234.of a (f234.ok a h)))
theorem aJ1:aY Try.prog F (F 229) f229.C:=bN (E:=f229.env) (ft:=ft) (np:=0) (fn:=Try.f57) (kills:=f229.kills) (cuts:=f229.cuts) (af:=f229.af) (aL aI1 aW) hft hmix (by kernel_rfl) (by kernel_rfl) (fun a=>by kernel_rfl) (fun _=>by kernel_rfl) (fun _=>by kernel_rfl) (fun a h=>Gv.of (f229.eq a) (f229.of a (f229.ok a h)))
theorem aJO:aY Try.prog F (F 230) f230.C:=bN (E:=f230.env) (ft:=ft) (np:=1) (fn:=Try.f58) (kills:=f230.kills) (cuts:=f230.cuts) (af:=f230.af) aW hft hmix (by kernel_rfl) (by kernel_rfl) (fun a=>by kernel_rfl) (fun _=>by kernel_rfl) (fun _=>by kernel_rfl) (fun a h=>Gv.of (f230.eq a) (f230.of a (f230.ok a h)))
theorem aJS:aY Try.prog F (F 235) f235.C:=bN (E:=f235.env) (ft:=ft) (np:=1) (fn:=Try.f46) (kills:=f235.kills) (cuts:=f235.cuts) (af:=f235.af) (aL aJ1 (aL aJO aW)) hft hmix (by kernel_rfl) (by kernel_rfl) (fun a=>by kernel_rfl) (fun _=>by kernel_rfl) (fun _=>by kernel_rfl) (fun a h=>Gv.of (f235.eq a) (f235.of a (f235.ok a h)))
theorem aKW:aY Try.prog F (F 253) f253.C:=bN (E:=f253.env) (ft:=ft) (np:=2) (fn:=Try.f63) (kills:=f253.kills) (cuts:=f253.cuts) (af:=f253.af) (aL aCW aW) hft hmix (by kernel_rfl) (by kernel_rfl) (fun a=>by kernel_rfl) (fun _=>by kernel_rfl) (fun _=>by kernel_rfl) (fun a h=>Gv.of (f253.eq a) (f253.of a (f253.ok a h)))
theorem aJL:aY Try.prog F (F 250) f250.C:=bN (E:=f250.env) (ft:=ft) (np:=2) (fn:=Try.f60) (kills:=f250.kills) (cuts:=f250.cuts) (af:=f250.af) (aL aKW aW) hft hmix (by kernel_rfl) (by kernel_rfl) (fun a=>by kernel_rfl) (fun _=>by kernel_rfl) (fun _=>by kernel_rfl) (fun a h=>Gv.of (f250.eq a) (f250.of a (f250.ok a h)))
theorem aKF:aY Try.prog F (F 249) f249.C:=bN (E:=f249.env) (ft:=ft) (np:=2) (fn:=Try.f59) (kills:=f249.kills) (cuts:=f249.cuts) (af:=f249.af) (aL aJL aW) hft hmix (by kernel_rfl) (by kernel_rfl) (fun a=>by kernel_rfl) (fun _=>by kernel_rfl) (fun _=>by kernel_rfl) (fun a h=>Gv.of (f249.eq a) (f249.of a (f249.ok a h)))
theorem aKM:aY Try.prog F (F 236) f236.C:=bN (E:=f236.env) (ft:=ft) (np:=1) (fn:=Try.f47) (kills:=f236.kills) (cuts:=f236.cuts) (af:=f236.af) (aL aKF (aL aJL aW)) hft hmix (by kernel_rfl) (by kernel_rfl) (fun a=>by kernel_rfl) (fun _=>by kernel_rfl) (fun _=>by kernel_rfl) (fun a h=>Gv.of (f236.eq a) (f236.of a (f236.ok a h)))
theorem aJR:aY Try.prog F (F 237) f237.C:=bN (E:=f237.env) (ft:=ft) (np:=1) (fn:=Try.f48) (kills:=f237.kills) (cuts:=f237.cuts) (af:=f237.af) aW hft hmix (by kernel_rfl) (by kernel_rfl) (fun a=>by kernel_rfl) (fun _=>by kernel_rfl) (fun _=>by kernel_rfl) (fun a h=>Gv.of (f237.eq a) (f237.of a (f237.ok a h)))
theorem aJQ:aY Try.prog F (F 238) f238.C:=bN (E:=f238.env) (ft:=ft) (np:=1) (fn:=Try.f49) (kills:=f238.kills) (cuts:=f238.cuts) (af:=f238.af) (aL aCW aW) hft hmix (by kernel_rfl) (by kernel_rfl) (fun a=>by kernel_rfl) (fun _=>by kernel_rfl) (fun _=>by kernel_rfl) (fun a h=>Gv.of (f238.eq a) (f238.of a (f238.ok a h)))
theorem aJX:aY Try.prog F (F 239) f239.C:=bN (E:=f239.env) (ft:=ft) (np:=1) (fn:=Try.f50) (kills:=f239.kills) (cuts:=f239.cuts) (af:=f239.af) (aL aCW aW) hft hmix (by kernel_rfl) (by kernel_rfl) (fun a=>by kernel_rfl) (fun _=>by kernel_rfl) (fun _=>by kernel_rfl) (fun a h=>Gv.of (f239.eq a) (f239.of a (f239.ok a h)))
theorem aKT:aY Try.prog F (F 240) f240.C:=bN (E:=f240.env) (ft:=ft) (np:=1) (fn:=Try.f51) (kills:=f240.kills) (cuts:=f240.cuts) (af:=f240.af) (aL aCW aW) hft hmix (by kernel_rfl) (by kernel_rfl) (fun a=>by kernel_rfl) (fun _=>by kernel_rfl) (fun _=>by kernel_rfl) (fun a h=>Gv.of (f240.eq a) (f240.of a (f240.ok a h)))
theorem aJ3:aY Try.prog F (F 223) f223.C:=aIN (ft:=ft) (np:=1) (fn:=Try.f36) (kills:=f223.kills) (cuts:=f223.cuts) (af:=f223.af) (aL aJV (aL aJ9 (aL aJS (aL aKM (aL aJR (aL aJQ (aL aCW (aL aJX (aL aKT aW))))))))) hft hmix (by kernel_rfl) (by kernel_rfl) (fun a=>by kernel_rfl) aBT (fun _=>by kernel_rfl) (fun _=>by kernel_rfl) (En:=f223.env) (fun _=>rfl) (fun n a h hn=>Gv.of (f223.eq a n) (f223.of a n (f223.ok a h n hn)))
theorem aJY:aY Try.prog F (F 198) f198.C:=bN (E:=f198.env) (ft:=ft) (np:=1) (fn:=Try.f23) (kills:=f198.kills) (cuts:=f198.cuts) (af:=f198.af) (aL aI1 (aL aJ3 aW)) hft hmix (by kernel_rfl) (by kernel_rfl) (fun a=>by kernel_rfl) (fun _=>by kernel_rfl) (fun _=>by kernel_rfl) (fun a h=>Gv.of (f198.eq a) (f198.of a (f198.ok a h)))
theorem aI9:aY Try.prog F (F 171) f171.C:=bN (E:=f171.env) (ft:=ft) (np:=0) (fn:=Try.f12) (kills:=f171.kills) (cuts:=f171.cuts) (af:=f171.af) (aL aI5 (aL aJY aW)) hft hmix (by kernel_rfl) (by kernel_rfl) (fun a=>by kernel_rfl) (fun _=>by kernel_rfl) (fun _=>by kernel_rfl) (fun a h=>Gv.of (f171.eq a) (f171.of a (f171.ok a h)))
theorem aI3:aY Try.prog F (F 151) f151.C:=bN (E:=f151.env) (ft:=ft) (np:=0) (fn:=Try.f7) (kills:=f151.kills) (cuts:=f151.cuts) (af:=f151.af) (aL aI9 aW) hft hmix (by kernel_rfl) (by kernel_rfl) (fun a=>by kernel_rfl) (fun _=>by kernel_rfl) (fun _=>by kernel_rfl) (fun a h=>Gv.of (f151.eq a) (f151.of a (f151.ok a h)))
theorem aJW:aY Try.prog F (F 391) f391.C:=bN (E:=f391.env) (ft:=ft) (np:=0) (fn:=Try.f5) (kills:=f391.kills) (cuts:=f391.cuts) (af:=f391.af) (aL aI3 aW) hft hmix (by kernel_rfl) (by kernel_rfl) (fun a=>by kernel_rfl) (fun _=>by kernel_rfl) (fun _=>by kernel_rfl) (fun a h=>Gv.of (f391.eq a) (f391.of a (f391.ok a h)))
theorem aKP:aY Try.prog F (F 392) f392.C:=bN (E:=f392.env) (ft:=ft) (np:=0) (fn:=Try.f6) (kills:=f392.kills) (cuts:=f392.cuts) (af:=f392.af) aW hft hmix (by kernel_rfl) (by kernel_rfl) (fun a=>by kernel_rfl) (fun _=>by kernel_rfl) (fun _=>by kernel_rfl) (fun a h=>Gv.of (f392.eq a) (f392.of a (f392.ok a h)))
theorem aJ8:aY Try.prog F (F 395) f395.C:=bN (E:=f395.env) (ft:=ft) (np:=0) (fn:=Try.f8) (kills:=f395.kills) (cuts:=f395.cuts) (af:=f395.af) (aL aI9 aW) hft hmix (by kernel_rfl) (by kernel_rfl) (fun a=>by kernel_rfl) (fun _=>by kernel_rfl) (fun _=>by kernel_rfl) (fun a h=>Gv.of (f395.eq a) (f395.of a (f395.ok a h)))
theorem aKS:aY Try.prog F (F 404) f404.C:=bN (E:=f404.env) (ft:=ft) (np:=0) (fn:=Try.f3) (kills:=f404.kills) (cuts:=f404.cuts) (af:=f404.af) (aL aJW (aL aKP (aL aI3 (aL aJ8 (aL aI5 (aL aJN aW)))))) hft hmix (by kernel_rfl) (by kernel_rfl) (fun a=>by kernel_rfl) (fun _=>by kernel_rfl) (fun _=>by kernel_rfl) (fun a h=>Gv.of (f404.eq a) (f404.of a (f404.ok a h)))
theorem rd9:eW Try.prog 9 gD:=aEM (by kernel_rfl) (by kernel_rfl)
theorem rd3:eW Try.prog 3 gE:=aE2 (by kernel_rfl) (by kernel_rfl)
theorem aKC:mL Try.prog [(3, 0), (3, 1), (3, 2)] 0 (cO gE (cO gE gE)):=cA rd3 (cA rd3 (iV rd3))
theorem aI0:eW Try.prog 25 iU:=aA5 (m:=3) (e:=3) (by kernel_rfl) (by kernel_rfl) (cast (by kernel_rfl) aKC)
theorem aKH:mL Try.prog [(9, 0), (9, 1)] 0 (cO gD gD):=cA rd9 (iV rd9)
theorem aJ6:eW Try.prog 75 eL:=gC (fs:=(match Try.prog.underlying 75 with | some (.struct fs)=>fs | _=>#[])) (by kernel_rfl) (by kernel_rfl) (cast (by kernel_rfl) aKH)
theorem aJM:eW Try.prog 26 b9:=nG (e:=75) (by kernel_rfl) (by kernel_rfl) aJ6 (by decide)
theorem aKJ:mL Try.prog [(9, 0), (25, 1), (26, 4)] 0 (cO gD (cO iU b9)):=cA rd9 (cA aI0 (iV aJM))
theorem aJT:eW Try.prog 38 jL:=gC (fs:=(match Try.prog.underlying 38 with | some (.struct fs)=>fs | _=>#[])) (by kernel_rfl) (by kernel_rfl) (cast (by kernel_rfl) aKJ)
theorem rd4:eW Try.prog 4 aCX:=aCP (by kernel_rfl) (by kernel_rfl)
theorem aKB:mL Try.prog [(38, 0), (4, 5), (3, 6)] 0 (cO jL (cO aCX gE)):=cA aJT (cA rd4 (iV rd3))
theorem aKO:eW Try.prog 40 d6:=gC (fs:=(match Try.prog.underlying 40 with | some (.struct fs)=>fs | _=>#[])) (by kernel_rfl) (by kernel_rfl) (cast (by kernel_rfl) aKB)
theorem aJ7:eW Try.prog 22 dP:=nG (e:=40) (by kernel_rfl) (by kernel_rfl) aKO (by decide)
theorem aKD:mL Try.prog [(9, 0), (9, 1), (3, 2), (25, 3), (26, 6), (9, 7), (9, 8), (3, 9)] 0 (cO gD (cO gD (cO gE (cO iU (cO b9 (cO gD (cO gD gE))))))):=cA rd9 (cA rd9 (cA rd3 (cA aI0 (cA aJM (cA rd9 (cA rd9 (iV rd3)))))))
theorem aJD:eW Try.prog 28 eS:=gC (fs:=(match Try.prog.underlying 28 with | some (.struct fs)=>fs | _=>#[])) (by kernel_rfl) (by kernel_rfl) (cast (by kernel_rfl) aKD)
theorem aKA:mL Try.prog [(28, 0), (3, 10), (9, 11), (3, 12)] 0 (cO eS (cO gE (cO gD gE))):=cA aJD (cA rd3 (cA rd9 (iV rd3)))
theorem aJZ:eW Try.prog 59 nK:=gC (fs:=(match Try.prog.underlying 59 with | some (.struct fs)=>fs | _=>#[])) (by kernel_rfl) (by kernel_rfl) (cast (by kernel_rfl) aKA)
theorem aKG:eW Try.prog 23 fJ:=nG (e:=59) (by kernel_rfl) (by kernel_rfl) aJZ (by decide)
theorem args:aEY Try.prog Try.f3.params.toList f404.args f404.wf f404.size:=cast (by kernel_rfl) (rB (g:=false) (by kernel_rfl) aJ7 (.inr rfl) (rB (g:=false) (by kernel_rfl) aKG (.inr rfl) (aGN (g:=true) (by kernel_rfl) aJD (.inl rfl))))
theorem cz:aY Try.prog F 3 f404.C:=cast (by kernel_rfl) aKS
def bk (H:Type):aEW H:=⟨Rows.uptoBulk, Rows.uptoBulkAll, fun _=>by simp [Rows.uptoBulk], fun d=>by
 cases d with
 | lit l=>cases l <;> simp [Rows.uptoBulk]
 | _=>simp [Rows.uptoBulk], fun _ _=>by simp [Rows.uptoBulk], fun _=>by simp [Rows.uptoBulk], by simp [Rows.uptoBulkAll], fun _ _=>by simp [Rows.uptoBulkAll]⟩
theorem allowed:∀ t∈Try.f3.params.toList, Try.prog.readableRec t=true∧t < Try.prog.types.size:=by
 have h:(Try.f3.params.toList.all fun t=>Try.prog.readableRec t&&decide (t < Try.prog.types.size))=true:=by kernel_rfl
 intro t ht
 have:=List.all_eq_true.1 h t ht
 rw [Bool.and_eq_true, decide_eq_true_eq] at this
 exact this
set_option maxRecDepth 100000 in
theorem contract (H:Type) (enc:TypeId×Value→H) (W:World) (base:Nat) (args_:Array Value) (ds gs:List (DataW H)) (before:List MemPlace)
  (hval:∀ (j:Nat) t v, Try.f3.params[j]? = some t→args_[j]? = some v→Value.okWide Try.prog W .any base t v)
  (hW:DataW.Whole enc Try.prog Try.f3.params.toList Rows.rankBestSpec.vars false W args_.toList ds gs before) (hk:Rows.uptoSmall H (ds++gs)=true) :
  Calls Try.prog 3 args_ W fun e W'=>∃ v, e=.returned v∧Rows.rankBestSpec.post enc Try.prog Try.f3 false true false false W args_ v W' :=
 yJ (N:=1048576) (rt:=4) (fn:=Try.f3) (bk H) cz args (fun a h1 h2=>⟨h1, h2⟩) (by kernel_rfl) (fun t ht=>allowed t ht) (by kernel_rfl) (by kernel_rfl) rfl (fun ds h=>by
  match ds, h with
  | [d0, d1, d2], _=>rfl) hval hW (show Rows.uptoBulkAll (ds++gs)≤1048576 from of_decide_eq_true hk)
theorem own:ownKnob Try.prog.godebug=none:=by kernel_rfl
set_option maxRecDepth 100000 in
theorem lifted (os:Os) (started:os.Started) (H:Type) (enc:TypeId×Value→H) (Fi:Stop.Interp) :
  ReturnsInHanded {} Try.checked os 3 .any ((Rows.OpenSpec.upto Rows.rankBestSpec).pre6 enc Try.prog Try.f3 Rows.rankBestUptoRow.domain false) (((Rows.OpenSpec.upto Rows.rankBestSpec).at Fi).post enc Try.prog Try.f3 false true false false):=by
 refine returnsInHanded_of_cond (C:=Try.checked) (s:=Rows.OpenSpec.upto Rows.rankBestSpec) (k:=Rows.uptoSmall) rfl own started (by kernel_rfl) Try.func3
  (OpenSpec.witness (enc:=enc) (C:=Try.checked) (s:=Rows.OpenSpec.upto Rows.rankBestSpec) (k:=Rows.uptoSmall) rfl false ⟨#[], #[.slice none 0 0, .slice none 0 0, .agg #[.string .empty, .string .empty, .int .i64 0, .int .i64 0, .int .i64 0, .int .i64 0, .slice none 0 0, .string .empty, .string .empty, .int .i64 0]], []⟩ 12 (by kernel_rfl) (by kernel_rfl) (by kernel_rfl)
   (x:=([.nil, .nil, .agg [.lit (.string []), .lit (.string []), .lit (.int .i64 0), .agg [.lit (.int .i64 0), .lit (.int .i64 0), .lit (.int .i64 0)], .nil, .lit (.string []), .lit (.string []), .lit (.int .i64 0)]], [], [])) (by kernel_rfl) rfl (by kernel_rfl)) ?_
 intro W base args ds gs before hval hW _ hk _
 exact contract H enc W base args ds gs before hval hW hk
theorem and_i {a b:Bool} (h:a=true) (k:b=true):(a&&b)=true:=by rw [h, k]; rfl
set_option maxHeartbeats 12800000 in
theorem facts:joinedFacts Try.checked.prog 3 Try.f3 (Rows.OpenSpec.upto Rows.rankBestSpec).bare Rows.rankBestUptoRow=true:=by
 unfold joinedFacts
 repeat' with_reducible refine and_i ?_ ?_
 all_goals as_aux_lemma=>kernel_rfl
theorem proved:Rows.RankBestUptoSaid :=
 OpenClaim.holds_of_cond 3 Try.f3 rfl rfl rfl rfl rfl rfl rfl ⟨rfl, rfl, rfl, rfl, rfl⟩ rfl rfl rfl rfl rfl (by kernel_rfl) Try.func3 facts
  (of_decide_eq_true (by kernel_rfl)) (by unfold Func.isWrapper; first | (rw [if_pos (by decide +kernel)]; kernel_rfl) | (rw [if_neg (by decide +kernel)]; exact ⟨rfl, rfl⟩))
  (fun os started H enc _ Fi=>lifted os started H enc Fi)
end Go.Proofs.Ytabnaedcnfkmiaf.rankBest
