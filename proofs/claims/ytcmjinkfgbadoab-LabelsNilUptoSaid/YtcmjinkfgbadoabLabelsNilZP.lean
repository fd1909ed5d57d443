/- The law LabelsNil: for every input it returns true, and the input reads as it did; where the input is of bulk at most 1048576. -/
import Derived.Test.YtcmjinkfgbadoabRows
import Derived.JoinedCond
import Derived.KernelRfl
import Derived.Test.YtcmjinkfgbadoabLabelsNilP4
import Derived.Test.YtcmjinkfgbadoabLabelsNilP5
import Derived.Test.YtcmjinkfgbadoabLabelsNilP6
import Derived.Test.YtcmjinkfgbadoabLabelsNilP7
import Derived.Test.YtcmjinkfgbadoabLabelsNilP8
import Derived.Test.YtcmjinkfgbadoabLabelsNilP9
import Derived.Test.YtcmjinkfgbadoabLabelsNilP10
import Derived.Test.YtcmjinkfgbadoabLabelsNilP11
import Derived.Test.YtcmjinkfgbadoabLabelsNilP12
import Derived.Test.YtcmjinkfgbadoabLabelsNilP13
import Derived.Test.YtcmjinkfgbadoabLabelsNilP14
import Derived.Test.YtcmjinkfgbadoabLabelsNilP15
import Derived.Test.YtcmjinkfgbadoabLabelsNilP16
import Derived.Test.YtcmjinkfgbadoabLabelsNilP17
import Derived.Test.YtcmjinkfgbadoabLabelsNilP18
import Derived.Test.YtcmjinkfgbadoabLabelsNilP19
import Derived.Test.YtcmjinkfgbadoabLabelsNilP20
import Derived.Test.YtcmjinkfgbadoabLabelsNilP21
import Derived.Test.YtcmjinkfgbadoabLabelsNilP22
namespace Go.Proofs.Ytcmjinkfgbadoab.labelsNil
open Go Go.Abs Go.RowKit Go.ChangeShapes
set_option linter.unusedVariables false
def ft:FT:=[(3, 333), (4, 334), (5, 335), (6, 336), (7, 343), (8, 344), (9, 144), (10, 146), (11, 345), (12, 165), (13, 346), (14, 150), (15, 149), (16, 347), (17, 262), (18, 348), (19, 166), (20, 168), (21, 169), (22, 170), (23, 167), (24, 360), (25, 195), (26, 196), (27, 193), (28, 194), (29, 221), (30, 211), (31, 212), (32, 213), (33, 214), (34, 215), (35, 216), (36, 217), (37, 218), (38, 219), (39, 220), (40, 45), (41, 228), (42, 229), (43, 230), (44, 231), (45, 232), (46, 200), (47, 247)]
def rt:List (Nat×Nat):=[(333, 3), (334, 4), (335, 5), (336, 6), (343, 7), (344, 8), (144, 9), (146, 10), (345, 11), (165, 12), (346, 13), (150, 14), (149, 15), (347, 16), (262, 17), (348, 18), (166, 19), (168, 20), (169, 21), (170, 22), (167, 23), (360, 24), (195, 25), (196, 26), (193, 27), (194, 28), (221, 29), (211, 30), (212, 31), (213, 32), (214, 33), (215, 34), (216, 35), (217, 36), (218, 37), (219, 38), (220, 39), (45, 40), (228, 41), (229, 42), (230, 43), (231, 44), (232, 45), (200, 46), (247, 47)]
def F (g:Nat):FuncId:=(ag rt (g % 1000)).getD 0
theorem hF (j q:Nat):F (j+1000 * q)=F j:=by unfold F; rw [Nat.add_mul_mod_self_left]
theorem hft:∀ f j, ag ft f=some j→F j=f:=aMZ (by kernel_rfl)
theorem hmix:Try.prog.follows .mixedOrders=true:=by kernel_rfl
theorem aNO:bP Try.prog F (F 144) f144.C:=cW (E:=f144.env) (ft:=ft) (np:=0) (fn:=Try.f9) (kills:=f144.kills) (cuts:=f144.cuts) (af:=f144.af) (bO hF) hft hmix (by kernel_rfl) (by kernel_rfl) (fun a=>by kernel_rfl) (fun _=>by kernel_rfl) (fun _=>by kernel_rfl) (fun a h=>Gv.of (f144.eq a) (f144.of a (f144.ok a h)))
theorem aNJ:bP Try.prog F (F 165) f165.C:=cW (E:=f165.env) (ft:=ft) (np:=1) (fn:=Try.f12) (kills:=f165.kills) (cuts:=f165.cuts) (af:=f165.af) (bO hF) hft hmix (by kernel_rfl) (by kernel_rfl) (fun a=>by kernel_rfl) (fun _=>by kernel_rfl) (fun _=>by kernel_rfl) (fun a h=>Gv.of (f165.eq a) (f165.of a (f165.ok a h)))
theorem aNS:bP Try.prog F (F 166) f166.C:=cW (E:=f166.env) (ft:=ft) (np:=0) (fn:=Try.f19) (kills:=f166.kills) (cuts:=f166.cuts) (af:=f166.af) (bO hF) hft hmix (by kernel_rfl) (by kernel_rfl) (fun a=>by kernel_rfl) (fun _=>by kernel_rfl) (fun _=>by kernel_rfl) (fun a h=>Gv.of (f166.eq a) (f166.of a (f166.ok a h)))
theorem aN4:bP Try.prog F (F 146) f146.C:=cW (E:=f146.env) (ft:=ft) (np:=1) (fn:=Try.f10) (kills:=f146.kills) (cuts:=f146.cuts) (af:=f146.af) (a6 aNJ (a6 aNS (bO hF))) hft hmix (by kernel_rfl) (by kernel_rfl) (fun a=>by kernel_rfl) (fun _=>by kernel_rfl) (fun _=>by kernel_rfl) (fun a h=>Gv.of (f146.eq a) (f146.of a (f146.ok a h)))
theorem c45:bP Try.prog F (F 45) f45.C:=cW (E:=f45.env) (ft:=ft) (np:=0) (fn:=Try.f40) (kills:=f45.kills) (cuts:=f45.cuts) (af:=f45.af) (bO hF) hft hmix (by kernel_rfl) (by kernel_rfl) (fun a=>by kernel_rfl) (fun _=>by kernel_rfl) (fun _=>by kernel_rfl) (fun a h=>Gv.of (f45.eq a) (f45.of a (f45.ok a h)))
theorem aM0:bP Try.prog F (F 194) f194.C:=cW (E:=f194.env) (ft:=ft) (np:=0) (fn:=Try.f28) (kills:=f194.kills) (cuts:=f194.cuts) (af:=f194.af) (a6 c45 (bO hF)) hft hmix (by kernel_rfl) (by kernel_rfl) (fun a=>by kernel_rfl) (fun _=>by kernel_rfl) (fun _=>by kernel_rfl) (fun a h=>Gv.of (f194.eq a) (f194.of a (f194.ok a h)))
theorem aNW:bP Try.prog F (F 200) f200.C:=cW (E:=f200.env) (ft:=ft) (np:=0) (fn:=Try.f46) (kills:=f200.kills) (cuts:=f200.cuts) (af:=f200.af) (bO hF) hft hmix (by kernel_rfl) (by kernel_rfl) (fun a=>by kernel_rfl) (fun _=>by kernel_rfl) (fun _=>by kernel_rfl) (fun a h=>Gv.of (f200.eq a) (f200.of a (f200.ok a h)))
theorem aE6:bP Try.prog F (F 217) f217.C:=cW (E:=f217.env) (ft:=ft) (np:=0) (fn:=Try.f36) (kills:=f217.kills) (cuts:=f217.cuts) (af:=f217.af) (a6 aNW (bO hF)) hft hmix (by kernel_rfl) (by kernel_rfl) (fun a=>by kernel_rfl) (fun _=>by kernel_rfl) (fun _=>by kernel_rfl) (fun a h=>Gv.of (f217.eq a) (f217.of a (f217.ok a h)))
theorem aOC:bP Try.prog F (F 211) f211.C:=cW (E:=f211.env) (ft:=ft) (np:=1) (fn:=Try.f30) (kills:=f211.kills) (cuts:=f211.cuts) (af:=f211.af) (a6 aE6 (bO hF)) hft hmix (by kernel_rfl) (by kernel_rfl) (fun a=>by kernel_rfl) (fun _=>by kernel_rfl) (fun _=>by kernel_rfl) (fun a h=>Gv.of (f211.eq a) (f211.of a (f211.ok a h)))
theorem aNH:bP Try.prog F (F 228) f228.C:=cW (E:=f228.env) (ft:=ft) (np:=1) (fn:=Try.f41) (kills:=f228.kills) (cuts:=f228.cuts) (af:=f228.af) (a6 aE6 (bO hF)) hft hmix (by kernel_rfl) (by kernel_rfl) (fun a=>by kernel_rfl) (fun _=>by kernel_rfl) (fun _=>by kernel_rfl) (fun a h=>Gv.of (f228.eq a) (f228.of a (f228.ok a h)))
theorem aNT:bP Try.prog F (F 212) f212.C:=cW (E:=f212.env) (ft:=ft) (np:=1) (fn:=Try.f31) (kills:=f212.kills) (cuts:=f212.cuts) (af:=f212.af) (a6 aNH (bO hF)) hft hmix (by kernel_rfl) (by kernel_rfl) (fun a=>by kernel_rfl) (fun _=>by kernel_rfl) (fun _=>by kernel_rfl) (fun a h=>Gv.of (f212.eq a) (f212.of a (f212.ok a h)))
theorem aN7:bP Try.prog F (F 229) f229.C:=cW (E:=f229.env) (ft:=ft) (np:=0) (fn:=Try.f42) (kills:=f229.kills) (cuts:=f229.cuts) (af:=f229.af) (a6 aM0 (bO hF)) hft hmix (by kernel_rfl) (by kernel_rfl) (fun a=>by kernel_rfl) (fun _=>by kernel_rfl) (fun _=>by kernel_rfl) (fun a h=>Gv.of (f229.eq a) (f229.of a (f229.ok a h)))
theorem aOB:bP Try.prog F (F 230) f230.C:=cW (E:=f230.env) (ft:=ft) (np:=1) (fn:=Try.f43) (kills:=f230.kills) (cuts:=f230.cuts) (af:=f230.af) (bO hF) hft hmix (by kernel_rfl) (by kernel_rfl) (fun a=>by kernel_rfl) (fun _=>by kernel_rfl) (fun _=>by kernel_rfl) (fun a h=>Gv.of (f230.eq a) (f230.of a (f230.ok a h)))
theorem aN9:bP Try.prog F (F 213) f213.C:=cW (E:=f213.env) (ft:=ft) (np:=1) (fn:=Try.f32) (kills:=f213.kills) (cuts:=f213.cuts) (af:=f213.af) (a6 aN7 (a6 aOB (bO hF))) hft hmix (by kernel_rfl) (by kernel_rfl) (fun a=>by kernel_rfl) (fun _=>by kernel_rfl) (fun _=>by kernel_rfl) (fun a h=>Gv.of (f213.eq a) (f213.of a (f213.ok a h)))
theorem aNR:bP Try.prog F (F 247) f247.C:=cW (E:=f247.env) (ft:=ft) (np:=2) (fn:=Try.f47) (kills:=f247.kills) (cuts:=f247.cuts) (af:=f247.af) (a6 aE6 (bO hF)) hft hmix (by kernel_rfl) (by kernel_rfl) (fun a=>by kernel_rfl) (fun _=>by kernel_rfl) (fun _=>by kernel_rfl) (fun a h=>Gv.of (f247.eq a) (f247.of a (f247.ok a h)))
theorem aMX:bP Try.prog F (F 232) f232.C:=cW (E:=f232.env) (ft:=ft) (np:=2) (fn:=Try.f45) (kills:=f232.kills) (cuts:=f232.cuts) (af:=f232.af) (a6 aNR (bO hF)) hft hmix (by kernel_rfl) (by kernel_rfl) (fun a=>by kernel_rfl) (fun _=>by kernel_rfl) (fun _=>by kernel_rfl) (fun a h=>Gv.of (f232.eq a) (f232.of a (f232.ok a h)))
theorem aNP:bP Try.prog F (F 231) f231.C:=cW (E:=f231.env) (ft:=ft) (np:=2) (fn:=Try.f44) (kills:=f231.kills) (cuts:=f231.cuts) (af:=f231.af) (a6 aMX (bO hF)) hft hmix (by kernel_rfl) (by kernel_rfl) (fun a=>by kernel_rfl) (fun _=>by kernel_rfl) (fun _=>by kernel_rfl) (fun a h=>Gv.of (f231.eq a) (f231.of a (f231.ok a h)))
theorem aN3:bP Try.prog F (F 214) f214.C:=cW (E:=f214.env) (ft:=ft) (np:=1) (fn:=Try.f33) (kills:=f214.kills) (cuts:=f214.cuts) (af:=f214.af) (a6 aNP (a6 aMX (bO hF))) hft hmix (by kernel_rfl) (by kernel_rfl) (fun a=>by kernel_rfl) (fun _=>by kernel_rfl) (fun _=>by kernel_rfl) (fun a h=>Gv.of (f214.eq a) (f214.of a (f214.ok a h)))
theorem aNQ:bP Try.prog F (F 215) f215.C:=cW (E:=f215.env) (ft:=ft) (np:=1) (fn:=Try.f34) (kills:=f215.kills) (cuts:=f215.cuts) (af:=f215.af) (bO hF) hft hmix (by kernel_rfl) (by kernel_rfl) (fun a=>by kernel_rfl) (fun _=>by kernel_rfl) (fun _=>by kernel_rfl) (fun a h=>Gv.of (f215.eq a) (f215.of a (f215.ok a h)))
theorem aNY:bP Try.prog F (F 216) f216.C:=cW (E:=f216.env) (ft:=ft) (np:=1) (fn:=Try.f35) (kills:=f216.kills) (cuts:=f216.cuts) (af:=f216.af) (a6 aE6 (bO hF)) hft hmix (by kernel_rfl) (by kernel_rfl) (fun a=>by kernel_rfl) (fun _=>by kernel_rfl) (fun _=>by kernel_rfl) (fun a h=>Gv.of (f216.eq a) (f216.of a (f216.ok a h)))
theorem aNM:bP Try.prog F (F 218) f218.C:=cW (E:=f218.env) (ft:=ft) (np:=1) (fn:=Try.f37) (kills:=f218.kills) (cuts:=f218.cuts) (af:=f218.af) (a6 aE6 (bO hF)) hft hmix (by kernel_rfl) (by kernel_rfl) (fun a=>by kernel_rfl) (fun _=>by kernel_rfl) (fun _=>by kernel_rfl) (fun a h=>Gv.of (f218.eq a) (f218.of a (f218.ok a h)))
theorem aN5:bP Try.prog F (F 219) f219.C:=cW (E:=f219.env) (ft:=ft) (np:=1) (fn:=Try.f38) (kills:=f219.kills) (cuts:=f219.cuts) (af:=f219.af) (a6 aE6 (bO hF)) hft hmix (by kernel_rfl) (by kernel_rfl) (fun a=>by kernel_rfl) (fun _=>by kernel_rfl) (fun _=>by kernel_rfl) (fun a h=>Gv.of (f219.eq a) (f219.of a (f219.ok a h)))
theorem aNZ:bP Try.prog F (F 193) f193.C:=aME (ft:=ft) (np:=1) (fn:=Try.f27) (kills:=f193.kills) (cuts:=f193.cuts) (af:=f193.af) (a6 aOC (a6 aNT (a6 aN9 (a6 aN3 (a6 aNQ (a6 aNY (a6 aE6 (a6 aNM (a6 aN5 (bO hF)))))))))) hft hmix (by kernel_rfl) (by kernel_rfl) (fun a=>by kernel_rfl) aFK (fun _=>by kernel_rfl) (fun _=>by kernel_rfl) (En:=f193.env) (fun _=>rfl) (fun n a h hn=>Gv.of (f193.eq a n) (f193.of a n (f193.ok a h n hn)))
theorem aNB:bP Try.prog F (F 167) f167.C:=cW (E:=f167.env) (ft:=ft) (np:=1) (fn:=Try.f23) (kills:=f167.kills) (cuts:=f167.cuts) (af:=f167.af) (a6 aM0 (a6 aNZ (bO hF))) hft hmix (by kernel_rfl) (by kernel_rfl) (fun a=>by kernel_rfl) (fun _=>by kernel_rfl) (fun _=>by kernel_rfl) (fun a h=>Gv.of (f167.eq a) (f167.of a (f167.ok a h)))
theorem aNL:bP Try.prog F (F 170) f170.C:=cW (E:=f170.env) (ft:=ft) (np:=1) (fn:=Try.f22) (kills:=f170.kills) (cuts:=f170.cuts) (af:=f170.af) (bO hF) hft hmix (by kernel_rfl) (by kernel_rfl) (fun a=>by kernel_rfl) (fun _=>by kernel_rfl) (fun _=>by kernel_rfl) (fun a h=>Gv.of (f170.eq a) (f170.of a (f170.ok a h)))
theorem aNK:bP Try.prog F (F 149) f149.C:=cW (E:=f149.env) (ft:=ft) (np:=1) (fn:=Try.f15) (kills:=f149.kills) (cuts:=f149.cuts) (af:=f149.af) (a6 aNB (a6 aNL (bO hF))) hft hmix (by kernel_rfl) (by kernel_rfl) (fun a=>by kernel_rfl) (fun _=>by kernel_rfl) (fun _=>by kernel_rfl) (fun a h=>Gv.of (f149.eq a) (f149.of a (f149.ok a h)))
theorem aNG:bP Try.prog F (F 262) f262.C:=cW (E:=f262.env) (ft:=ft) (np:=1) (fn:=Try.f17) (kills:=f262.kills) (cuts:=f262.cuts) (af:=f262.af) (bO hF) hft hmix (by kernel_rfl) (by kernel_rfl) (fun a=>by kernel_rfl) (fun _=>by kernel_rfl) (fun _=>by kernel_rfl) (fun a h=>Gv.of (f262.eq a) (f262.of a (f262.ok a h)))
theorem aNX:bP Try.prog F (F 343) f343.C:=cW (E:=f343.env) (ft:=ft) (np:=0) (fn:=Try.f7) (kills:=f343.kills) (cuts:=f343.cuts) (af:=f343.af) (a6 aNO (a6 aN4 (a6 aNK (a6 aNG (bO hF))))) hft hmix (by kernel_rfl) (by kernel_rfl) (fun a=>by kernel_rfl) (fun _=>by kernel_rfl) (fun _=>by kernel_rfl) (fun a h=>Gv.of (f343.eq a) (f343.of a (f343.ok a h)))
theorem aN2:bP Try.prog F (F 348) f348.C:=cW (E:=f348.env) (ft:=ft) (np:=0) (fn:=Try.f18) (kills:=f348.kills) (cuts:=f348.cuts) (af:=f348.af) (bO hF) hft hmix (by kernel_rfl) (by kernel_rfl) (fun a=>by kernel_rfl) (fun _=>by kernel_rfl) (fun _=>by kernel_rfl) (fun a h=>Gv.of (f348.eq a) (f348.of a (f348.ok a h)))
theorem aN8:bP Try.prog F (F 344) f344.C:=cW (E:=f344.env) (ft:=ft) (np:=0) (fn:=Try.f8) (kills:=f344.kills) (cuts:=f344.cuts) (af:=f344.af) (a6 aN2 (bO hF)) hft hmix (by kernel_rfl) (by kernel_rfl) (fun a=>by kernel_rfl) (fun _=>by kernel_rfl) (fun _=>by kernel_rfl) (fun a h=>Gv.of (f344.eq a) (f344.of a (f344.ok a h)))
theorem aMR:bP Try.prog F (F 146) f1146.C:=cW (E:=f1146.env) (ft:=ft) (np:=0) (fn:=Try.f10) (kills:=f1146.kills) (cuts:=f1146.cuts) (af:=f1146.af) (bO hF) hft hmix (by kernel_rfl) (by kernel_rfl) (fun a=>by kernel_rfl) (fun _=>by kernel_rfl) (fun _=>by kernel_rfl) (fun a h=>Gv.of (f1146.eq a) (f1146.of a (f1146.ok a h)))
theorem aM2:bP Try.prog F (F 165) f1165.C:=cW (E:=f1165.env) (ft:=ft) (np:=0) (fn:=Try.f12) (kills:=f1165.kills) (cuts:=f1165.cuts) (af:=f1165.af) (bO hF) hft hmix (by kernel_rfl) (by kernel_rfl) (fun a=>by kernel_rfl) (fun _=>by kernel_rfl) (fun _=>by kernel_rfl) (fun a h=>Gv.of (f1165.eq a) (f1165.of a (f1165.ok a h)))
theorem aM6:bP Try.prog F (F 262) f1262.C:=cW (E:=f1262.env) (ft:=ft) (np:=0) (fn:=Try.f17) (kills:=f1262.kills) (cuts:=f1262.cuts) (af:=f1262.af) (bO hF) hft hmix (by kernel_rfl) (by kernel_rfl) (fun a=>by kernel_rfl) (fun _=>by kernel_rfl) (fun _=>by kernel_rfl) (fun a h=>Gv.of (f1262.eq a) (f1262.of a (f1262.ok a h)))
theorem aM7:bP Try.prog F (F 149) f1149.C:=cW (E:=f1149.env) (ft:=ft) (np:=0) (fn:=Try.f15) (kills:=f1149.kills) (cuts:=f1149.cuts) (af:=f1149.af) (bO hF) hft hmix (by kernel_rfl) (by kernel_rfl) (fun a=>by kernel_rfl) (fun _=>by kernel_rfl) (fun _=>by kernel_rfl) (fun a h=>Gv.of (f1149.eq a) (f1149.of a (f1149.ok a h)))
theorem aNU:bP Try.prog F (F 336) f336.C:=cW (E:=f336.env) (ft:=ft) (np:=0) (fn:=Try.f6) (kills:=f336.kills) (cuts:=f336.cuts) (af:=f336.af) (a6 aNX (a6 aN8 (a6 aMR (a6 aM2 (a6 aM6 (a6 aM7 (bO hF))))))) hft hmix (by kernel_rfl) (by kernel_rfl) (fun a=>by kernel_rfl) (fun _=>by kernel_rfl) (fun _=>by kernel_rfl) (fun a h=>Gv.of (f336.eq a) (f336.of a (f336.ok a h)))
theorem rd3:hQ Try.prog 3 aKO:=aIE (by kernel_rfl) (by kernel_rfl)
theorem rd9:hQ Try.prog 9 tR:=aHN (by kernel_rfl) (by kernel_rfl)
theorem aND:uS Try.prog [(9, 0), (9, 1)] 0 (mL tR tR):=pM rd9 (aAK rd9)
theorem aNC:hQ Try.prog 48 eG:=rB (fs:=(match Try.prog.underlying 48 with | some (.struct fs)=>fs | _=>#[])) (by kernel_rfl) (by kernel_rfl) (cast (by kernel_rfl) aND)
theorem aOD:hQ Try.prog 36 eW:=aB7 (e:=48) (by kernel_rfl) (by kernel_rfl) aNC (by decide)
theorem aNI:uS Try.prog [(3, 0), (9, 1), (36, 2)] 0 (mL aKO (mL tR eW)):=pM rd3 (pM rd9 (aAK aOD))
theorem aNE:hQ Try.prog 38 dL:=rB (fs:=(match Try.prog.underlying 38 with | some (.struct fs)=>fs | _=>#[])) (by kernel_rfl) (by kernel_rfl) (cast (by kernel_rfl) aNI)
theorem args:aH0 Try.prog Try.f6.params.toList f336.args f336.wf f336.size:=cast (by kernel_rfl) (aKM (g:=true) (by kernel_rfl) aNE (.inl rfl))
theorem cz:bP Try.prog F 6 f336.C:=cast (by kernel_rfl) aNU
def bk (H:Type):aIO H:=⟨Rows.uptoBulk, Rows.uptoBulkAll, fun _=>by simp [Rows.uptoBulk], fun d=>by
 cases d with
 | lit l=>cases l <;> simp [Rows.uptoBulk]
 | _=>simp [Rows.uptoBulk], fun _ _=>by simp [Rows.uptoBulk], fun _=>by simp [Rows.uptoBulk], by simp [Rows.uptoBulkAll], fun _ _=>by simp [Rows.uptoBulkAll]⟩
theorem allowed:∀ t∈Try.f6.params.toList, Try.prog.readableRec t=true∧t < Try.prog.types.size:=by
 have h:(Try.f6.params.toList.all fun t=>Try.prog.readableRec t&&decide (t < Try.prog.types.size))=true:=by kernel_rfl
 intro t ht
 have:=List.all_eq_true.1 h t ht
 rw [Bool.and_eq_true, decide_eq_true_eq] at this
 exact this
set_option maxRecDepth 100000 in
theorem contract (H:Type) (enc:TypeId×Value→H) (W:World) (base:Nat) (args_:Array Value) (ds gs:List (DataW H)) (before:List MemPlace)
  (hval:∀ (j:Nat) t v, Try.f6.params[j]? = some t→args_[j]? = some v→Value.okWide Try.prog W .any base t v)
  (hW:DataW.Whole enc Try.prog Try.f6.params.toList Rows.labelsNilSpec.vars false W args_.toList ds gs before) (hk:Rows.uptoSmall H (ds++gs)=true) :
  Calls Try.prog 6 args_ W fun e W'=>∃ v, e=.returned v∧Rows.labelsNilSpec.post enc Try.prog Try.f6 false true false false W args_ v W' :=
 aAW (N:=1048576) (rt:=4) (fn:=Try.f6) (bk H) cz args (fun a h1 h2=>⟨h1, h2⟩) (by kernel_rfl) (fun t ht=>allowed t ht) (by kernel_rfl) (by kernel_rfl) rfl (fun ds h=>by
  match ds, h with
  | [d0], _=>rfl) hval hW (show Rows.uptoBulkAll (ds++gs)≤1048576 from of_decide_eq_true hk)
theorem own:ownKnob Try.prog.godebug=none:=by kernel_rfl
set_option maxRecDepth 100000 in
theorem lifted (os:Os) (started:os.Started) (H:Type) (enc:TypeId×Value→H) (Fi:Stop.Interp) :
  ReturnsInHanded {} Try.checked os 6 .any ((Rows.OpenSpec.upto Rows.labelsNilSpec).pre6 enc Try.prog Try.f6 Rows.labelsNilUptoRow.domain false) (((Rows.OpenSpec.upto Rows.labelsNilSpec).at Fi).post enc Try.prog Try.f6 false true false false):=by
 refine returnsInHanded_of_cond (C:=Try.checked) (s:=Rows.OpenSpec.upto Rows.labelsNilSpec) (k:=Rows.uptoSmall) rfl own started (by kernel_rfl) Try.func6
  (OpenSpec.witness (enc:=enc) (C:=Try.checked) (s:=Rows.OpenSpec.upto Rows.labelsNilSpec) (k:=Rows.uptoSmall) rfl false ⟨#[], #[.agg #[.int .i64 0, .string .empty, .slice none 0 0]], []⟩ 12 (by kernel_rfl) (by kernel_rfl) (by kernel_rfl)
   (x:=([.agg [.lit (.int .i64 0), .lit (.string []), .nil]], [], [])) (by kernel_rfl) rfl (by kernel_rfl)) ?_
 intro W base args ds gs before hval hW _ hk _
 exact contract H enc W base args ds gs before hval hW hk
theorem and_i {a b:Bool} (h:a=true) (k:b=true):(a&&b)=true:=by rw [h, k]; rfl
set_option maxHeartbeats 12800000 in
theorem facts:joinedFacts Try.checked.prog 6 Try.f6 (Rows.OpenSpec.upto Rows.labelsNilSpec).bare Rows.labelsNilUptoRow=true:=by
 unfold joinedFacts
 repeat' with_reducible refine and_i ?_ ?_
 all_goals as_aux_lemma=>kernel_rfl
theorem proved:Rows.LabelsNilUptoSaid :=
 OpenClaim.holds_of_cond 6 Try.f6 rfl rfl rfl rfl rfl rfl rfl ⟨rfl, rfl, rfl, rfl, rfl⟩ rfl rfl rfl rfl rfl (by kernel_rfl) Try.func6 facts
  (of_decide_eq_true (by kernel_rfl)) (by unfold Func.isWrapper; first | (rw [if_pos (by decide +kernel)]; kernel_rfl) | (rw [if_neg (by decide +kernel)]; exact ⟨rfl, rfl⟩))
  (fun os started H enc _ Fi=>lifted os started H enc Fi)
end Go.Proofs.Ytcmjinkfgbadoab.labelsNil
