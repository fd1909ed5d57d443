/- The law LabelsBoth: for every input it returns true, and the input reads as it did; where the input is of bulk at most 1048576. -/
import Derived.Shelf.Abstract
import Derived.Test.YtcmjinkfgbadoabRows
import Derived.JoinedCond
import Derived.KernelRfl
import Derived.Test.YtcmjinkfgbadoabLabelsBothP5
import Derived.Test.YtcmjinkfgbadoabLabelsBothP6
import Derived.Test.YtcmjinkfgbadoabLabelsBothP7
import Derived.Test.YtcmjinkfgbadoabLabelsBothP8
import Derived.Test.YtcmjinkfgbadoabLabelsBothP9
import Derived.Test.YtcmjinkfgbadoabLabelsBothP10
import Derived.Test.YtcmjinkfgbadoabLabelsBothP11
import Derived.Test.YtcmjinkfgbadoabLabelsBothP12
import Derived.Test.YtcmjinkfgbadoabLabelsBothP13
import Derived.Test.YtcmjinkfgbadoabLabelsBothP14
import Derived.Test.YtcmjinkfgbadoabLabelsBothP15
import Derived.Test.YtcmjinkfgbadoabLabelsBothP16
import Derived.Test.YtcmjinkfgbadoabLabelsBothP17
import Derived.Test.YtcmjinkfgbadoabLabelsBothP18
import Derived.Test.YtcmjinkfgbadoabLabelsBothP19
import Derived.Test.YtcmjinkfgbadoabLabelsBothP20
import Derived.Test.YtcmjinkfgbadoabLabelsBothP21
import Derived.Test.YtcmjinkfgbadoabLabelsBothP22
import Derived.Test.YtcmjinkfgbadoabLabelsBothP23
import Derived.Test.YtcmjinkfgbadoabLabelsBothP24
import Derived.Test.YtcmjinkfgbadoabLabelsBothP25
import Derived.Test.YtcmjinkfgbadoabLabelsBothP26
import Derived.Test.YtcmjinkfgbadoabLabelsBothP27
namespace Go.Proofs.Ytcmjinkfgbadoab.labelsBoth
open Go Go.Abs Go.RowKit Go.ChangeShapes
set_option linter.unusedVariables false
def aF4:Go.Shelf.Ren:=⟨fun | 7=>21 | 10=>26 | n=>n, fun | 23=>32 | 26=>9 | 3=>36 | 28=>58 | 0=>0 | 27=>57 | 33=>40 | 4=>4 | n=>n, fun | n=>n⟩
theorem aKI:Go.Proofs.SlLaysZ.n7 Try.prog aF4:={
 mixed:=by kernel_rfl
 f7:=⟨Try.f21.name, by decide, Try.func21.trans (congrArg some (by kernel_rfl))⟩
 f10:=⟨Try.f26.name, by decide, Try.func26.trans (congrArg some (by kernel_rfl))⟩
 t0:=Try.underlying0
 a0:=Try.isAgg0
 z0:=Try.sizeOf0
 v0:=Try.zeroValue0
 t4:=Try.underlying4
 a4:=Try.isAgg4
 z4:=Try.sizeOf4
 v4:=Try.zeroValue4
 t23:=Try.underlying32
 a23:=Try.isAgg32
 z23:=Try.sizeOf32
 v23:=Try.zeroValue32
 t26:=Try.underlying9
 a26:=Try.isAgg9
 z26:=Try.sizeOf9
 v26:=Try.zeroValue9
 t27:=Try.underlying57
 a27:=Try.isAgg57
 z27:=Try.sizeOf57
 v27:=Try.zeroValue57
 t28:=Try.underlying58
 a28:=Try.isAgg58
 z28:=Try.sizeOf58
 v28:=Try.zeroValue58
 t33:=Try.underlying40
 a33:=Try.isAgg40
 z33:=Try.sizeOf40
 v33:=Try.zeroValue40 }
def s6:Go.Shelf.Ren:=⟨fun | 6=>20 | 8=>25 | 9=>23 | 11=>29 | 13=>28 | 12=>27 | 23=>39 | 24=>40 | 14=>30 | 15=>31 | 16=>32 | 17=>33 | 18=>34 | 19=>35 | 20=>36 | 21=>37 | 22=>38 | 25=>41 | 26=>42 | 27=>43 | 28=>44 | 29=>45 | 30=>46 | 31=>47 | n=>n, fun | 26=>9 | 28=>58 | 24=>28 | 0=>0 | 3=>3 | 37=>65 | 48=>77 | 50=>79 | 4=>4 | 40=>69 | 39=>68 | 45=>74 | 5=>5 | 9=>9 | 51=>80 | 55=>84 | 57=>86 | 58=>87 | 33=>40 | n=>n, fun | n=>n⟩
theorem aJQ:Go.Proofs.SlLaysZ.n6 Try.prog s6:={
 mixed:=by kernel_rfl
 f6:=⟨Try.f20.name, by decide, Try.func20.trans (congrArg some (by kernel_rfl))⟩
 f8:=⟨Try.f25.name, by decide, Try.func25.trans (congrArg some (by kernel_rfl))⟩
 f11:=⟨Try.f29.name, by decide, Try.func29.trans (congrArg some (by kernel_rfl))⟩
 t0:=Try.underlying0
 a0:=Try.isAgg0
 z0:=Try.sizeOf0
 v0:=Try.zeroValue0
 t24:=Try.underlying28
 a24:=Try.isAgg28
 z24:=Try.sizeOf28
 v24:=Try.zeroValue28
 t26:=Try.underlying9
 a26:=Try.isAgg9
 z26:=Try.sizeOf9
 v26:=Try.zeroValue9
 t28:=Try.underlying58
 a28:=Try.isAgg58
 z28:=Try.sizeOf58
 v28:=Try.zeroValue58
 i26:=by kernel_rfl }
def aGJ:Go.Shelf.Ren:=⟨fun | 6=>23 | 8=>28 | 9=>27 | 19=>39 | 20=>40 | 21=>30 | 22=>31 | 23=>32 | 24=>33 | 25=>34 | 26=>35 | 27=>36 | 28=>37 | 29=>38 | 36=>41 | 31=>42 | 32=>43 | 37=>44 | 38=>45 | 39=>46 | 41=>47 | n=>n, fun | 27=>28 | 29=>9 | 3=>3 | 32=>65 | 26=>28 | 0=>0 | 44=>77 | 46=>79 | 4=>4 | 36=>69 | 35=>68 | 41=>74 | 5=>5 | 9=>9 | 53=>80 | 57=>84 | 63=>86 | 64=>87 | n=>n, fun | n=>n⟩
theorem aH2:Go.Proofs.SlLaysM.n6 Try.prog aGJ:={
 mixed:=by kernel_rfl
 f6:=⟨Try.f23.name, by decide, Try.func23.trans (congrArg some (by kernel_rfl))⟩
 f8:=Try.func28.trans (congrArg some (by kernel_rfl))
 f9:=⟨Try.f27.name, by decide, Try.func27.trans (congrArg some (by kernel_rfl))⟩
 f19:=Try.func39.trans (congrArg some (by kernel_rfl))
 f20:=Try.func40.trans (congrArg some (by kernel_rfl))
 f21:=⟨Try.f30.name, by decide, Try.func30.trans (congrArg some (by kernel_rfl))⟩
 f22:=⟨Try.f31.name, by decide, Try.func31.trans (congrArg some (by kernel_rfl))⟩
 f23:=⟨Try.f32.name, by decide, Try.func32.trans (congrArg some (by kernel_rfl))⟩
 f24:=⟨Try.f33.name, by decide, Try.func33.trans (congrArg some (by kernel_rfl))⟩
 f25:=⟨Try.f34.name, by decide, Try.func34.trans (congrArg some (by kernel_rfl))⟩
 f26:=⟨Try.f35.name, by decide, Try.func35.trans (congrArg some (by kernel_rfl))⟩
 f27:=⟨Try.f36.name, by decide, Try.func36.trans (congrArg some (by kernel_rfl))⟩
 f28:=⟨Try.f37.name, by decide, Try.func37.trans (congrArg some (by kernel_rfl))⟩
 f29:=⟨Try.f38.name, by decide, Try.func38.trans (congrArg some (by kernel_rfl))⟩
 f31:=Try.func42.trans (congrArg some (by kernel_rfl))
 f32:=Try.func43.trans (congrArg some (by kernel_rfl))
 f36:=⟨Try.f41.name, by decide, Try.func41.trans (congrArg some (by kernel_rfl))⟩
 f37:=⟨Try.f44.name, by decide, Try.func44.trans (congrArg some (by kernel_rfl))⟩
 f38:=⟨Try.f45.name, by decide, Try.func45.trans (congrArg some (by kernel_rfl))⟩
 f39:=⟨Try.f46.name, by decide, Try.func46.trans (congrArg some (by kernel_rfl))⟩
 f41:=⟨Try.f47.name, by decide, Try.func47.trans (congrArg some (by kernel_rfl))⟩
 t0:=Try.underlying0
 a0:=Try.isAgg0
 z0:=Try.sizeOf0
 v0:=Try.zeroValue0
 t3:=Try.underlying3
 a3:=Try.isAgg3
 z3:=Try.sizeOf3
 v3:=Try.zeroValue3
 t4:=Try.underlying4
 a4:=Try.isAgg4
 z4:=Try.sizeOf4
 v4:=Try.zeroValue4
 t5:=Try.underlying5
 a5:=Try.isAgg5
 z5:=Try.sizeOf5
 v5:=Try.zeroValue5
 t9:=Try.underlying9
 a9:=Try.isAgg9
 z9:=Try.sizeOf9
 v9:=Try.zeroValue9
 t26:=Try.underlying28
 a26:=Try.isAgg28
 z26:=Try.sizeOf28
 v26:=Try.zeroValue28
 t27:=Try.underlying28
 a27:=Try.isAgg28
 z27:=Try.sizeOf28
 v27:=Try.zeroValue28
 t29:=Try.underlying9
 a29:=Try.isAgg9
 z29:=Try.sizeOf9
 v29:=Try.zeroValue9
 t32:=Try.underlying65
 a32:=Try.isAgg65
 z32:=Try.sizeOf65
 v32:=Try.zeroValue65
 t35:=Try.underlying68
 a35:=Try.isAgg68
 z35:=Try.sizeOf68
 v35:=Try.zeroValue68
 t36:=Try.underlying69
 a36:=Try.isAgg69
 z36:=Try.sizeOf69
 v36:=Try.zeroValue69
 t41:=Try.underlying74
 a41:=Try.isAgg74
 z41:=Try.sizeOf74
 v41:=Try.zeroValue74
 t44:=Try.underlying77
 a44:=Try.isAgg77
 z44:=Try.sizeOf77
 v44:=Try.zeroValue77
 t46:=Try.underlying79
 a46:=Try.isAgg79
 z46:=Try.sizeOf79
 v46:=Try.zeroValue79
 t53:=Try.underlying80
 a53:=Try.isAgg80
 z53:=Try.sizeOf80
 v53:=Try.zeroValue80
 t57:=Try.underlying84
 a57:=Try.isAgg84
 z57:=Try.sizeOf84
 v57:=Try.zeroValue84
 t63:=Try.underlying86
 a63:=Try.isAgg86
 z63:=Try.sizeOf86
 v63:=Try.zeroValue86
 t64:=Try.underlying87
 a64:=Try.isAgg87
 z64:=Try.sizeOf87
 v64:=Try.zeroValue87 }
theorem aKU (m:Nat):Go.Proofs.AnyZ.SortsIn Try.prog s6 Go.Fence.wide m :=
 ⟨fun blk off cap ss W hH hblk hsz => callsIn_wide.2 (Go.Proofs.AnyM.slices_Sort_string aH2 blk off cap ss W hH hblk hsz),
  fun p cap W=>callsIn_wide.2 (Go.Proofs.AnyM.slices_Sort_string_none aH2 p cap W)⟩
def ft0:FT:=[(3, 333), (4, 334), (5, 335), (6, 336), (7, 343), (8, 344), (9, 144), (10, 146), (11, 345), (12, 165), (13, 346), (14, 150), (15, 149), (16, 347), (17, 262), (18, 348), (19, 166), (22, 170), (23, 167), (24, 360), (25, 195), (26, 196), (27, 193), (28, 194), (29, 221), (30, 211), (31, 212), (32, 213), (33, 214), (34, 215), (35, 216), (36, 217), (37, 218), (38, 219), (39, 220), (40, 45), (41, 228), (42, 229), (43, 230), (44, 231), (45, 232), (46, 200), (47, 247)]
def ft:FT:=(21, 1196000169)::(20, 2196000168)::ft0
def rt:List (Nat×Nat):=[(333, 3), (334, 4), (335, 5), (336, 6), (343, 7), (344, 8), (144, 9), (146, 10), (345, 11), (165, 12), (346, 13), (150, 14), (149, 15), (347, 16), (262, 17), (348, 18), (166, 19), (168, 20), (169, 21), (170, 22), (167, 23), (360, 24), (195, 25), (196, 26), (193, 27), (194, 28), (221, 29), (211, 30), (212, 31), (213, 32), (214, 33), (215, 34), (216, 35), (217, 36), (218, 37), (219, 38), (220, 39), (45, 40), (228, 41), (229, 42), (230, 43), (231, 44), (232, 45), (200, 46), (247, 47)]
def F (g:Nat):FuncId:=(ag rt (g % 1000)).getD 0
theorem hF (j q:Nat):F (j+1000 * q)=F j:=by unfold F; rw [Nat.add_mul_mod_self_left]
theorem aL4:pC Try.prog F ft0:=aLO (by kernel_rfl)
theorem aL2:qT Try.prog 20 (F (gOf 2196000168)):=cast (by kernel_rfl) (aGD aKI aJQ aKU (Go.Proofs.enters_of Try.func20 (by kernel_rfl) rfl) (Go.Proofs.enters_of Try.func23 (by kernel_rfl) rfl) (Go.Proofs.enters_of Try.func26 (by kernel_rfl) rfl))
theorem aMF:p9 Try.prog 21 (F (gOf 1196000169)):=cast (by kernel_rfl) (aFJ aKI (Go.Proofs.enters_of Try.func21 (by kernel_rfl) rfl))
theorem hft:pC Try.prog F ft:=aE5 (by kernel_rfl) (fun _ _=>aMF) (fun h=>absurd h (by decide)) (aE5 (by kernel_rfl) (fun _ h=>absurd h (by decide)) (fun _=>aL2) aL4)
theorem hmix:Try.prog.follows .mixedOrders=true:=by kernel_rfl
theorem aLE:dM Try.prog F (F 144) f144.C:=j6 (E:=f144.env) (ft:=ft) (np:=0) (fn:=Try.f9) (kills:=f144.kills) (cuts:=f144.cuts) (af:=f144.af) (fO hF) hft hmix (by kernel_rfl) (by kernel_rfl) (fun a=>by kernel_rfl) (fun _=>by kernel_rfl) (fun _=>by kernel_rfl) (fun a h=>Gv.of (f144.eq a) (f144.of a (f144.ok a h)))
theorem aMD:dM Try.prog F (F 165) f165.C:=j6 (E:=f165.env) (ft:=ft) (np:=1) (fn:=Try.f12) (kills:=f165.kills) (cuts:=f165.cuts) (af:=f165.af) (fO hF) hft hmix (by kernel_rfl) (by kernel_rfl) (fun a=>by kernel_rfl) (fun _=>by kernel_rfl) (fun _=>by kernel_rfl) (fun a h=>Gv.of (f165.eq a) (f165.of a (f165.ok a h)))
theorem aLT:dM Try.prog F (F 166) f166.C:=j6 (E:=f166.env) (ft:=ft) (np:=0) (fn:=Try.f19) (kills:=f166.kills) (cuts:=f166.cuts) (af:=f166.af) (fO hF) hft hmix (by kernel_rfl) (by kernel_rfl) (fun a=>by kernel_rfl) (fun _=>by kernel_rfl) (fun _=>by kernel_rfl) (fun a h=>Gv.of (f166.eq a) (f166.of a (f166.ok a h)))
theorem aLI:dM Try.prog F (F 146) f146.C:=j6 (E:=f146.env) (ft:=ft) (np:=1) (fn:=Try.f10) (kills:=f146.kills) (cuts:=f146.cuts) (af:=f146.af) (cU aMD (cU aLT (fO hF))) hft hmix (by kernel_rfl) (by kernel_rfl) (fun a=>by kernel_rfl) (fun _=>by kernel_rfl) (fun _=>by kernel_rfl) (fun a h=>Gv.of (f146.eq a) (f146.of a (f146.ok a h)))
theorem aL0:dM Try.prog F (F 167) f167.C:=cast (by kernel_rfl) (aD7 (F:=F) (aIU aH2 (Go.Proofs.enters_of Try.func23 (by kernel_rfl) rfl)))
theorem aL7:dM Try.prog F (F 170) f170.C:=j6 (E:=f170.env) (ft:=ft) (np:=1) (fn:=Try.f22) (kills:=f170.kills) (cuts:=f170.cuts) (af:=f170.af) (fO hF) hft hmix (by kernel_rfl) (by kernel_rfl) (fun a=>by kernel_rfl) (fun _=>by kernel_rfl) (fun _=>by kernel_rfl) (fun a h=>Gv.of (f170.eq a) (f170.of a (f170.ok a h)))
theorem aLA:dM Try.prog F (F 149) f149.C:=j6 (E:=f149.env) (ft:=ft) (np:=1) (fn:=Try.f15) (kills:=f149.kills) (cuts:=f149.cuts) (af:=f149.af) (cU aL0 (cU aL7 (fO hF))) hft hmix (by kernel_rfl) (by kernel_rfl) (fun a=>by kernel_rfl) (fun _=>by kernel_rfl) (fun _=>by kernel_rfl) (fun a h=>Gv.of (f149.eq a) (f149.of a (f149.ok a h)))
theorem aL3:dM Try.prog F (F 262) f262.C:=j6 (E:=f262.env) (ft:=ft) (np:=1) (fn:=Try.f17) (kills:=f262.kills) (cuts:=f262.cuts) (af:=f262.af) (fO hF) hft hmix (by kernel_rfl) (by kernel_rfl) (fun a=>by kernel_rfl) (fun _=>by kernel_rfl) (fun _=>by kernel_rfl) (fun a h=>Gv.of (f262.eq a) (f262.of a (f262.ok a h)))
theorem aL5:dM Try.prog F (F 343) f343.C:=j6 (E:=f343.env) (ft:=ft) (np:=0) (fn:=Try.f7) (kills:=f343.kills) (cuts:=f343.cuts) (af:=f343.af) (cU aLE (cU aLI (cU aLA (cU aL3 (fO hF))))) hft hmix (by kernel_rfl) (by kernel_rfl) (fun a=>by kernel_rfl) (fun _=>by kernel_rfl) (fun _=>by kernel_rfl) (fun a h=>Gv.of (f343.eq a) (f343.of a (f343.ok a h)))
theorem aLH:dM Try.prog F (F 348) f348.C:=j6 (E:=f348.env) (ft:=ft) (np:=0) (fn:=Try.f18) (kills:=f348.kills) (cuts:=f348.cuts) (af:=f348.af) (fO hF) hft hmix (by kernel_rfl) (by kernel_rfl) (fun a=>by kernel_rfl) (fun _=>by kernel_rfl) (fun _=>by kernel_rfl) (fun a h=>Gv.of (f348.eq a) (f348.of a (f348.ok a h)))
theorem aME:dM Try.prog F (F 344) f344.C:=j6 (E:=f344.env) (ft:=ft) (np:=0) (fn:=Try.f8) (kills:=f344.kills) (cuts:=f344.cuts) (af:=f344.af) (cU aLH (fO hF)) hft hmix (by kernel_rfl) (by kernel_rfl) (fun a=>by kernel_rfl) (fun _=>by kernel_rfl) (fun _=>by kernel_rfl) (fun a h=>Gv.of (f344.eq a) (f344.of a (f344.ok a h)))
theorem aLU:dM Try.prog F (F 150) f150.C:=j6 (E:=f150.env) (ft:=ft) (np:=0) (fn:=Try.f14) (kills:=f150.kills) (cuts:=f150.cuts) (af:=f150.af) (fO hF) hft hmix (by kernel_rfl) (by kernel_rfl) (fun a=>by kernel_rfl) (fun _=>by kernel_rfl) (fun _=>by kernel_rfl) (fun a h=>Gv.of (f150.eq a) (f150.of a (f150.ok a h)))
theorem aMA:dM Try.prog F (F 334) f334.C:=j6 (E:=f334.env) (ft:=ft) (np:=0) (fn:=Try.f4) (kills:=f334.kills) (cuts:=f334.cuts) (af:=f334.af) (cU aL5 (cU aME (cU aLH (cU aLE (cU aLI (cU aLA (cU aLU (fO hF)))))))) hft hmix (by kernel_rfl) (by kernel_rfl) (fun a=>by kernel_rfl) (fun _=>by kernel_rfl) (fun _=>by kernel_rfl) (fun a h=>Gv.of (f334.eq a) (f334.of a (f334.ok a h)))
theorem rd3:gH Try.prog 3 aIZ:=aG3 (by kernel_rfl) (by kernel_rfl)
theorem rd9:gH Try.prog 9 sQ:=aGA (by kernel_rfl) (by kernel_rfl)
theorem aMG:uP Try.prog [(9, 0), (9, 1)] 0 (kS sQ sQ):=pG rd9 (xM rd9)
theorem aLX:gH Try.prog 48 eK:=qD (fs:=(match Try.prog.underlying 48 with | some (.struct fs)=>fs | _=>#[])) (by kernel_rfl) (by kernel_rfl) (cast (by kernel_rfl) aMG)
theorem aKW:gH Try.prog 36 bZ:=s7 (e:=48) (by kernel_rfl) (by kernel_rfl) aLX (by decide)
theorem aL6:uP Try.prog [(3, 0), (9, 1), (36, 2)] 0 (kS aIZ (kS sQ bZ)):=pG rd3 (pG rd9 (xM aKW))
theorem aL8:gH Try.prog 38 bU:=qD (fs:=(match Try.prog.underlying 38 with | some (.struct fs)=>fs | _=>#[])) (by kernel_rfl) (by kernel_rfl) (cast (by kernel_rfl) aL6)
theorem aLY:gH Try.prog 22 bD:=s7 (e:=38) (by kernel_rfl) (by kernel_rfl) aL8 (by decide)
theorem args:aFI Try.prog Try.f4.params.toList f334.args f334.wf f334.size:=cast (by kernel_rfl) (rK (g:=false) (by kernel_rfl) aLY (.inr rfl) (rK (g:=false) (by kernel_rfl) aKW (.inr rfl) (aI6 (g:=false) (by kernel_rfl) aKW (.inr rfl))))
theorem cz:dM Try.prog F 4 f334.C:=cast (by kernel_rfl) aMA
def bk (H:Type):aGE H:=⟨Rows.uptoBulk, Rows.uptoBulkAll, fun _=>by simp [Rows.uptoBulk], fun d=>by
 cases d with
 | lit l=>cases l <;> simp [Rows.uptoBulk]
 | _=>simp [Rows.uptoBulk], fun _ _=>by simp [Rows.uptoBulk], fun _=>by simp [Rows.uptoBulk], by simp [Rows.uptoBulkAll], fun _ _=>by simp [Rows.uptoBulkAll]⟩
theorem allowed:∀ t∈Try.f4.params.toList, Try.prog.readableRec t=true∧t < Try.prog.types.size:=by
 have h:(Try.f4.params.toList.all fun t=>Try.prog.readableRec t&&decide (t < Try.prog.types.size))=true:=by kernel_rfl
 intro t ht
 have:=List.all_eq_true.1 h t ht
 rw [Bool.and_eq_true, decide_eq_true_eq] at this
 exact this
set_option maxRecDepth 100000 in
theorem contract (H:Type) (enc:TypeId×Value→H) (W:World) (base:Nat) (args_:Array Value) (ds gs:List (DataW H)) (before:List MemPlace)
  (hval:∀ (j:Nat) t v, Try.f4.params[j]? = some t→args_[j]? = some v→Value.okWide Try.prog W .any base t v)
  (hW:DataW.Whole enc Try.prog Try.f4.params.toList Rows.labelsBothSpec.vars false W args_.toList ds gs before) (hk:Rows.uptoSmall H (ds++gs)=true) :
  Calls Try.prog 4 args_ W fun e W'=>∃ v, e=.returned v∧Rows.labelsBothSpec.post enc Try.prog Try.f4 false true false false W args_ v W' :=
 yZ (N:=1048576) (rt:=4) (fn:=Try.f4) (bk H) cz args (fun a h1 h2=>⟨h1, h2⟩) (by kernel_rfl) (fun t ht=>allowed t ht) (by kernel_rfl) (by kernel_rfl) rfl (fun ds h=>by
  match ds, h with
  | [d0, d1, d2], _=>rfl) hval hW (show Rows.uptoBulkAll (ds++gs)≤1048576 from of_decide_eq_true hk)
theorem own:ownKnob Try.prog.godebug=none:=by kernel_rfl
set_option maxRecDepth 100000 in
theorem lifted (os:Os) (started:os.Started) (H:Type) (enc:TypeId×Value→H) (Fi:Stop.Interp) :
  ReturnsInHanded {} Try.checked os 4 .any ((Rows.OpenSpec.upto Rows.labelsBothSpec).pre6 enc Try.prog Try.f4 Rows.labelsBothUptoRow.domain false) (((Rows.OpenSpec.upto Rows.labelsBothSpec).at Fi).post enc Try.prog Try.f4 false true false false):=by
 refine returnsInHanded_of_cond (C:=Try.checked) (s:=Rows.OpenSpec.upto Rows.labelsBothSpec) (k:=Rows.uptoSmall) rfl own started (by kernel_rfl) Try.func4
  (OpenSpec.witness (enc:=enc) (C:=Try.checked) (s:=Rows.OpenSpec.upto Rows.labelsBothSpec) (k:=Rows.uptoSmall) rfl false ⟨#[], #[.slice none 0 0, .slice none 0 0, .slice none 0 0], []⟩ 12 (by kernel_rfl) (by kernel_rfl) (by kernel_rfl)
   (x:=([.nil, .nil, .nil], [], [])) (by kernel_rfl) rfl (by kernel_rfl)) ?_
 intro W base args ds gs before hval hW _ hk _
 exact contract H enc W base args ds gs before hval hW hk
theorem and_i {a b:Bool} (h:a=true) (k:b=true):(a&&b)=true:=by rw [h, k]; rfl
set_option maxHeartbeats 12800000 in
theorem facts:joinedFacts Try.checked.prog 4 Try.f4 (Rows.OpenSpec.upto Rows.labelsBothSpec).bare Rows.labelsBothUptoRow=true:=by
 unfold joinedFacts
 repeat' with_reducible refine and_i ?_ ?_
 all_goals as_aux_lemma=>kernel_rfl
theorem proved:Rows.LabelsBothUptoSaid :=
 OpenClaim.holds_of_cond 4 Try.f4 rfl rfl rfl rfl rfl rfl rfl ⟨rfl, rfl, rfl, rfl, rfl⟩ rfl rfl rfl rfl rfl (by kernel_rfl) Try.func4 facts
  (of_decide_eq_true (by kernel_rfl)) (by unfold Func.isWrapper; first | (rw [if_pos (by decide +kernel)]; kernel_rfl) | (rw [if_neg (by decide +kernel)]; exact ⟨rfl, rfl⟩))
  (fun os started H enc _ Fi=>lifted os started H enc Fi)
end Go.Proofs.Ytcmjinkfgbadoab.labelsBoth
