/- The law OrderOnce: for every input it returns true, and the input reads as it did; where the input is of bulk at most 1048576. -/
import Derived.Test.YtjlehbennimkgabRows
import Derived.JoinedCond
import Derived.KernelRfl
import Derived.Test.YtjlehbennimkgabOrderOnceP4
import Derived.Test.YtjlehbennimkgabOrderOnceP5
import Derived.Test.YtjlehbennimkgabOrderOnceP6
import Derived.Test.YtjlehbennimkgabOrderOnceP7
import Derived.Test.YtjlehbennimkgabOrderOnceP8
import Derived.Test.YtjlehbennimkgabOrderOnceP9
import Derived.Test.YtjlehbennimkgabOrderOnceP10
import Derived.Test.YtjlehbennimkgabOrderOnceP11
import Derived.Test.YtjlehbennimkgabOrderOnceP12
import Derived.Test.YtjlehbennimkgabOrderOnceP13
import Derived.Test.YtjlehbennimkgabOrderOnceP14
import Derived.Test.YtjlehbennimkgabOrderOnceP15
import Derived.Test.YtjlehbennimkgabOrderOnceP16
import Derived.Test.YtjlehbennimkgabOrderOnceP17
import Derived.Test.YtjlehbennimkgabOrderOnceP18
import Derived.Test.YtjlehbennimkgabOrderOnceP19
import Derived.Test.YtjlehbennimkgabOrderOnceP20
import Derived.Test.YtjlehbennimkgabOrderOnceP21
import Derived.Test.YtjlehbennimkgabOrderOnceP22
namespace Go.Proofs.Ytjlehbennimkgab.orderOnce
open Go Go.Abs Go.RowKit Go.ChangeShapes
set_option linter.unusedVariables false
def ft:FT:=[(3, 80), (4, 81), (5, 82), (6, 83), (7, 84), (8, 88), (9, 91), (10, 92), (11, 93), (12, 94), (13, 95), (14, 96), (15, 97), (16, 98), (17, 100), (18, 102), (19, 103), (20, 107), (21, 106), (22, 101), (23, 105), (24, 33), (25, 114), (26, 115), (27, 116), (28, 117), (29, 118), (30, 119), (31, 99), (32, 108), (33, 121), (34, 128), (35, 129), (36, 130), (37, 120), (38, 48), (39, 49), (40, 52), (41, 34), (42, 133), (43, 134), (44, 135), (45, 66), (46, 67), (47, 54), (48, 137), (49, 70), (50, 71), (51, 69), (52, 138), (53, 72), (54, 73), (55, 74), (56, 75), (57, 76), (58, 77), (59, 78), (60, 79)]
def rt:List (Nat×Nat):=[(80, 3), (81, 4), (82, 5), (83, 6), (84, 7), (88, 8), (91, 9), (92, 10), (93, 11), (94, 12), (95, 13), (96, 14), (97, 15), (98, 16), (100, 17), (102, 18), (103, 19), (107, 20), (106, 21), (101, 22), (105, 23), (33, 24), (114, 25), (115, 26), (116, 27), (117, 28), (118, 29), (119, 30), (99, 31), (108, 32), (121, 33), (128, 34), (129, 35), (130, 36), (120, 37), (48, 38), (49, 39), (52, 40), (34, 41), (133, 42), (134, 43), (135, 44), (66, 45), (67, 46), (54, 47), (137, 48), (70, 49), (71, 50), (69, 51), (138, 52), (72, 53), (73, 54), (74, 55), (75, 56), (76, 57), (77, 58), (78, 59), (79, 60)]
def F (g:Nat):FuncId:=(ag rt g).getD 0
theorem hft:∀ f j, ag ft f=some j→F j=f:=aG3 (by kernel_rfl)
theorem hmix:Try.prog.follows .mixedOrders=true:=by kernel_rfl
theorem c33:cM Try.prog F (F 33) f33.C:=fQ (E:=f33.env) (ft:=ft) (np:=0) (fn:=Try.f24) (kills:=f33.kills) (cuts:=f33.cuts) (af:=f33.af) c8 hft hmix (by kernel_rfl) (by kernel_rfl) (fun a=>by kernel_rfl) (fun _=>by kernel_rfl) (fun _=>by kernel_rfl) (fun a h=>Gv.of (f33.eq a) (f33.of a (f33.ok a h)))
theorem aH7:cM Try.prog F (F 135) f135.C:=fQ (E:=f135.env) (ft:=ft) (np:=0) (fn:=Try.f44) (kills:=f135.kills) (cuts:=f135.cuts) (af:=f135.af) c8 hft hmix (by kernel_rfl) (by kernel_rfl) (fun a=>by kernel_rfl) (fun _=>by kernel_rfl) (fun _=>by kernel_rfl) (fun a h=>Gv.of (f135.eq a) (f135.of a (f135.ok a h)))
theorem aH5:cM Try.prog F (F 130) f130.C:=fQ (E:=f130.env) (ft:=ft) (np:=0) (fn:=Try.f36) (kills:=f130.kills) (cuts:=f130.cuts) (af:=f130.af) (cB aH7 c8) hft hmix (by kernel_rfl) (by kernel_rfl) (fun a=>by kernel_rfl) (fun _=>by kernel_rfl) (fun _=>by kernel_rfl) (fun a h=>Gv.of (f130.eq a) (f130.of a (f130.ok a h)))
theorem aIF:cM Try.prog F (F 129) f129.C:=fQ (E:=f129.env) (ft:=ft) (np:=0) (fn:=Try.f35) (kills:=f129.kills) (cuts:=f129.cuts) (af:=f129.af) c8 hft hmix (by kernel_rfl) (by kernel_rfl) (fun a=>by kernel_rfl) (fun _=>by kernel_rfl) (fun _=>by kernel_rfl) (fun a h=>Gv.of (f129.eq a) (f129.of a (f129.ok a h)))
theorem aH2:cM Try.prog F (F 116) f116.C:=fQ (E:=f116.env) (ft:=ft) (np:=0) (fn:=Try.f27) (kills:=f116.kills) (cuts:=f116.cuts) (af:=f116.af) (cB aH5 (cB aIF c8)) hft hmix (by kernel_rfl) (by kernel_rfl) (fun a=>by kernel_rfl) (fun _=>by kernel_rfl) (fun _=>by kernel_rfl) (fun a h=>Gv.of (f116.eq a) (f116.of a (f116.ok a h)))
theorem aHA:cM Try.prog F (F 115) f115.C:=fQ (E:=f115.env) (ft:=ft) (np:=0) (fn:=Try.f26) (kills:=f115.kills) (cuts:=f115.cuts) (af:=f115.af) (cB aH2 c8) hft hmix (by kernel_rfl) (by kernel_rfl) (fun a=>by kernel_rfl) (fun _=>by kernel_rfl) (fun _=>by kernel_rfl) (fun a h=>Gv.of (f115.eq a) (f115.of a (f115.ok a h)))
theorem aHZ:cM Try.prog F (F 133) f133.C:=fQ (E:=f133.env) (ft:=ft) (np:=1) (fn:=Try.f42) (kills:=f133.kills) (cuts:=f133.cuts) (af:=f133.af) (cB aHA c8) hft hmix (by kernel_rfl) (by kernel_rfl) (fun a=>by kernel_rfl) (fun _=>by kernel_rfl) (fun _=>by kernel_rfl) (fun a h=>Gv.of (f133.eq a) (f133.of a (f133.ok a h)))
theorem aHV:cM Try.prog F (F 138) f138.C:=fQ (E:=f138.env) (ft:=ft) (np:=1) (fn:=Try.f52) (kills:=f138.kills) (cuts:=f138.cuts) (af:=f138.af) c8 hft hmix (by kernel_rfl) (by kernel_rfl) (fun a=>by kernel_rfl) (fun _=>by kernel_rfl) (fun _=>by kernel_rfl) (fun a h=>Gv.of (f138.eq a) (f138.of a (f138.ok a h)))
theorem aH8:cM Try.prog F (F 137) f137.C:=fQ (E:=f137.env) (ft:=ft) (np:=1) (fn:=Try.f48) (kills:=f137.kills) (cuts:=f137.cuts) (af:=f137.af) (cB aHV c8) hft hmix (by kernel_rfl) (by kernel_rfl) (fun a=>by kernel_rfl) (fun _=>by kernel_rfl) (fun _=>by kernel_rfl) (fun a h=>Gv.of (f137.eq a) (f137.of a (f137.ok a h)))
theorem aIJ:cM Try.prog F (F 134) f134.C:=aGR (ft:=ft) (np:=1) (fn:=Try.f43) (kills:=f134.kills) (cuts:=f134.cuts) (af:=f134.af) (cB aHA (cB aH8 c8)) hft hmix (by kernel_rfl) (by kernel_rfl) (fun a=>by kernel_rfl) rT (fun _=>by kernel_rfl) (fun _=>by kernel_rfl) (En:=f134.env) (fun _=>rfl) (fun n a h hn=>Gv.of (f134.eq a n) (f134.of a n (f134.ok a h n hn)))
theorem aIE:cM Try.prog F (F 128) f128.C:=fQ (E:=f128.env) (ft:=ft) (np:=1) (fn:=Try.f34) (kills:=f128.kills) (cuts:=f128.cuts) (af:=f128.af) (cB aHZ (cB aIJ c8)) hft hmix (by kernel_rfl) (by kernel_rfl) (fun a=>by kernel_rfl) (fun _=>by kernel_rfl) (fun _=>by kernel_rfl) (fun a h=>Gv.of (f128.eq a) (f128.of a (f128.ok a h)))
theorem aIC:cM Try.prog F (F 114) f114.C:=fQ (E:=f114.env) (ft:=ft) (np:=1) (fn:=Try.f25) (kills:=f114.kills) (cuts:=f114.cuts) (af:=f114.af) (cB aIE c8) hft hmix (by kernel_rfl) (by kernel_rfl) (fun a=>by kernel_rfl) (fun _=>by kernel_rfl) (fun _=>by kernel_rfl) (fun a h=>Gv.of (f114.eq a) (f114.of a (f114.ok a h)))
theorem aHS:cM Try.prog F (F 117) f117.C:=fQ (E:=f117.env) (ft:=ft) (np:=0) (fn:=Try.f28) (kills:=f117.kills) (cuts:=f117.cuts) (af:=f117.af) c8 hft hmix (by kernel_rfl) (by kernel_rfl) (fun a=>by kernel_rfl) (fun _=>by kernel_rfl) (fun _=>by kernel_rfl) (fun a h=>Gv.of (f117.eq a) (f117.of a (f117.ok a h)))
theorem c93:cM Try.prog F (F 93) f93.C:=fQ (E:=f93.env) (ft:=ft) (np:=0) (fn:=Try.f11) (kills:=f93.kills) (cuts:=f93.cuts) (af:=f93.af) (cB c33 (cB aIC (cB aHS c8))) hft hmix (by kernel_rfl) (by kernel_rfl) (fun a=>by kernel_rfl) (fun _=>by kernel_rfl) (fun _=>by kernel_rfl) (fun a h=>Gv.of (f93.eq a) (f93.of a (f93.ok a h)))
theorem c91:cM Try.prog F (F 91) f91.C:=fQ (E:=f91.env) (ft:=ft) (np:=0) (fn:=Try.f9) (kills:=f91.kills) (cuts:=f91.cuts) (af:=f91.af) (cB c93 c8) hft hmix (by kernel_rfl) (by kernel_rfl) (fun a=>by kernel_rfl) (fun _=>by kernel_rfl) (fun _=>by kernel_rfl) (fun a h=>Gv.of (f91.eq a) (f91.of a (f91.ok a h)))
theorem c92:cM Try.prog F (F 92) f92.C:=fQ (E:=f92.env) (ft:=ft) (np:=0) (fn:=Try.f10) (kills:=f92.kills) (cuts:=f92.cuts) (af:=f92.af) c8 hft hmix (by kernel_rfl) (by kernel_rfl) (fun a=>by kernel_rfl) (fun _=>by kernel_rfl) (fun _=>by kernel_rfl) (fun a h=>Gv.of (f92.eq a) (f92.of a (f92.ok a h)))
theorem c80:cM Try.prog F (F 80) f80.C:=fQ (E:=f80.env) (ft:=ft) (np:=0) (fn:=Try.f3) (kills:=f80.kills) (cuts:=f80.cuts) (af:=f80.af) (cB c91 (cB c92 (cB c93 c8))) hft hmix (by kernel_rfl) (by kernel_rfl) (fun a=>by kernel_rfl) (fun _=>by kernel_rfl) (fun _=>by kernel_rfl) (fun a h=>Gv.of (f80.eq a) (f80.of a (f80.ok a h)))
theorem rd9:fD Try.prog 9 eP:=aCK (by kernel_rfl) (by kernel_rfl)
theorem rd3:fD Try.prog 3 eO:=aCI (by kernel_rfl) (by kernel_rfl)
theorem aH0:nL Try.prog [(3, 0), (3, 1), (3, 2)] 0 (bM eO (bM eO eO)):=cF rd3 (cF rd3 (mU rd3))
theorem aHU:fD Try.prog 29 cZ:=zM (m:=3) (e:=3) (by kernel_rfl) (by kernel_rfl) (cast (by kernel_rfl) aH0)
theorem aHK:nL Try.prog [(9, 0), (9, 1)] 0 (bM eP eP):=cF rd9 (mU rd9)
theorem aHB:fD Try.prog 122 qL:=kA (fs:=(match Try.prog.underlying 122 with | some (.struct fs)=>fs | _=>#[])) (by kernel_rfl) (by kernel_rfl) (cast (by kernel_rfl) aHK)
theorem aIM:fD Try.prog 30 iN:=qU (e:=122) (by kernel_rfl) (by kernel_rfl) aHB (by decide)
theorem aIA:nL Try.prog [(9, 0), (9, 1), (3, 2), (29, 3), (30, 6), (9, 7), (9, 8), (3, 9)] 0 (bM eP (bM eP (bM eO (bM cZ (bM iN (bM eP (bM eP eO))))))):=cF rd9 (cF rd9 (cF rd3 (cF aHU (cF aIM (cF rd9 (cF rd9 (mU rd3)))))))
theorem aH1:fD Try.prog 32 nT:=kA (fs:=(match Try.prog.underlying 32 with | some (.struct fs)=>fs | _=>#[])) (by kernel_rfl) (by kernel_rfl) (cast (by kernel_rfl) aIA)
theorem aHT:nL Try.prog [(32, 0), (3, 10), (9, 11), (3, 12)] 0 (bM nT (bM eO (bM eP eO))):=cF aH1 (cF rd3 (cF rd9 (mU rd3)))
theorem aIL:fD Try.prog 34 mP:=kA (fs:=(match Try.prog.underlying 34 with | some (.struct fs)=>fs | _=>#[])) (by kernel_rfl) (by kernel_rfl) (cast (by kernel_rfl) aHT)
theorem aID:fD Try.prog 22 fK:=qU (e:=34) (by kernel_rfl) (by kernel_rfl) aIL (by decide)
theorem args:aB8 Try.prog Try.f3.params.toList f80.args f80.wf f80.size:=cast (by kernel_rfl) (aDQ (g:=false) (by kernel_rfl) aID (.inr rfl))
theorem cz:cM Try.prog F 3 f80.C:=cast (by kernel_rfl) c80
def bk (H:Type):aCY H:=⟨Rows.uptoBulk, Rows.uptoBulkAll, fun _=>by simp [Rows.uptoBulk], fun d=>by
 cases d with
 | lit l=>cases l <;> simp [Rows.uptoBulk]
 | _=>simp [Rows.uptoBulk], fun _ _=>by simp [Rows.uptoBulk], fun _=>by simp [Rows.uptoBulk], by simp [Rows.uptoBulkAll], fun _ _=>by simp [Rows.uptoBulkAll]⟩
theorem allowed:∀ t∈Try.f3.params.toList, Try.prog.readableRec t=true∧t < Try.prog.types.size:=by
 have h:(Try.f3.params.toList.all fun t=>Try.prog.readableRec t&&decide (t < Try.prog.types.size))=true:=by kernel_rfl
 intro t ht
 have:=List.all_eq_true.1 h t ht
 rw [Bool.and_eq_true, decide_eq_true_eq] at this
 exact this
set_option maxRecDepth 100000 in
theorem contract (H:Type) (enc:TypeId×Value→H) (W:World) (base:Nat) (args_:Array Value) (ds gs:List (DataW H)) (before:List MemPlace)
  (hval:∀ (j:Nat) t v, Try.f3.params[j]? = some t→args_[j]? = some v→Value.okWide Try.prog W .any base t v)
  (hW:DataW.Whole enc Try.prog Try.f3.params.toList Rows.orderOnceSpec.vars false W args_.toList ds gs before) (hk:Rows.uptoSmall H (ds++gs)=true) :
  Calls Try.prog 3 args_ W fun e W'=>∃ v, e=.returned v∧Rows.orderOnceSpec.post enc Try.prog Try.f3 false true false false W args_ v W' :=
 w3 (N:=1048576) (rt:=4) (fn:=Try.f3) (bk H) cz args (fun a h1 h2=>⟨h1, h2⟩) (by kernel_rfl) (fun t ht=>allowed t ht) (by kernel_rfl) (by kernel_rfl) rfl (fun ds h=>by
  match ds, h with
  | [d0], _=>rfl) hval hW (show Rows.uptoBulkAll (ds++gs)≤1048576 from of_decide_eq_true hk)
theorem own:ownKnob Try.prog.godebug=none:=by kernel_rfl
set_option maxRecDepth 100000 in
theorem lifted (os:Os) (started:os.Started) (H:Type) (enc:TypeId×Value→H) (Fi:Stop.Interp) :
  ReturnsInHanded {} Try.checked os 3 .any ((Rows.OpenSpec.upto Rows.orderOnceSpec).pre6 enc Try.prog Try.f3 Rows.orderOnceUptoRow.domain false) (((Rows.OpenSpec.upto Rows.orderOnceSpec).at Fi).post enc Try.prog Try.f3 false true false false):=by
 refine returnsInHanded_of_cond (C:=Try.checked) (s:=Rows.OpenSpec.upto Rows.orderOnceSpec) (k:=Rows.uptoSmall) rfl own started (by kernel_rfl) Try.func3
  (OpenSpec.witness (enc:=enc) (C:=Try.checked) (s:=Rows.OpenSpec.upto Rows.orderOnceSpec) (k:=Rows.uptoSmall) rfl false ⟨#[], #[.slice none 0 0], []⟩ 12 (by kernel_rfl) (by kernel_rfl) (by kernel_rfl)
   (x:=([.nil], [], [])) (by kernel_rfl) rfl (by kernel_rfl)) ?_
 intro W base args ds gs before hval hW _ hk _
 exact contract H enc W base args ds gs before hval hW hk
theorem and_i {a b:Bool} (h:a=true) (k:b=true):(a&&b)=true:=by rw [h, k]; rfl
set_option maxHeartbeats 12800000 in
theorem facts:joinedFacts Try.checked.prog 3 Try.f3 (Rows.OpenSpec.upto Rows.orderOnceSpec).bare Rows.orderOnceUptoRow=true:=by
 unfold joinedFacts
 repeat' with_reducible refine and_i ?_ ?_
 all_goals as_aux_lemma=>kernel_rfl
theorem proved:Rows.OrderOnceUptoSaid :=
 OpenClaim.holds_of_cond 3 Try.f3 rfl rfl rfl rfl rfl rfl rfl ⟨rfl, rfl, rfl, rfl, rfl⟩ rfl rfl rfl rfl rfl (by kernel_rfl) Try.func3 facts
  (of_decide_eq_true (by kernel_rfl)) (by unfold Func.isWrapper; first | (rw [if_pos (by decide +kernel)]; kernel_rfl) | (rw [if_neg (by decide +kernel)]; exact ⟨rfl, rfl⟩))
  (fun os started H enc _ Fi=>lifted os started H enc Fi)
end Go.Proofs.Ytjlehbennimkgab.orderOnce
