/- The law PackOne: for every input it returns true, and the input reads as it did; where the input is of bulk at most 1048576. -/
import Derived.Test.YtabnaedcnfkmiaaRows
import Derived.JoinedCond
import Derived.KernelRfl
import Derived.Test.YtabnaedcnfkmiaaBa2e537dc
namespace Go.Proofs.Ytabnaedcnfkmiaa.packOne
open Go Go.Abs Go.RowKit Go.ChangeShapes
set_option linter.unusedVariables false
def ft : FT := [(3, 1), (4, 2), (5, 3), (6, 4), (7, 5), (8, 6), (9, 7), (10, 8), (11, 9), (12, 10), (13, 11), (14, 12), (15, 13), (16, 14), (17, 15), (18, 16), (19, 17), (20, 18), (21, 19), (22, 20), (23, 21), (24, 22), (25, 23), (26, 24), (27, 25), (28, 26), (29, 27), (30, 28), (31, 29), (32, 30), (33, 31), (34, 32), (35, 33), (36, 34), (37, 35), (38, 36), (39, 37), (40, 38), (41, 39), (42, 40), (43, 41), (44, 42), (45, 43), (46, 44), (47, 45), (48, 46), (49, 47), (50, 48), (51, 49), (52, 50), (53, 51), (54, 52), (55, 53), (56, 54), (57, 55), (58, 56), (59, 57), (60, 58), (61, 59), (62, 60), (63, 61), (64, 62), (65, 63), (66, 64), (67, 65), (68, 66), (69, 67), (70, 68), (71, 69), (72, 70), (73, 71), (74, 72), (75, 73), (76, 74), (77, 75), (78, 76), (79, 77), (80, 78), (81, 79)]
def rt : List (Nat × Nat) := [(1, 3), (2, 4), (3, 5), (4, 6), (5, 7), (6, 8), (7, 9), (8, 10), (9, 11), (10, 12), (11, 13), (12, 14), (13, 15), (14, 16), (15, 17), (16, 18), (17, 19), (18, 20), (19, 21), (20, 22), (21, 23), (22, 24), (23, 25), (24, 26), (25, 27), (26, 28), (27, 29), (28, 30), (29, 31), (30, 32), (31, 33), (32, 34), (33, 35), (34, 36), (35, 37), (36, 38), (37, 39), (38, 40), (39, 41), (40, 42), (41, 43), (42, 44), (43, 45), (44, 46), (45, 47), (46, 48), (47, 49), (48, 50), (49, 51), (50, 52), (51, 53), (52, 54), (53, 55), (54, 56), (55, 57), (56, 58), (57, 59), (58, 60), (59, 61), (60, 62), (61, 63), (62, 64), (63, 65), (64, 66), (65, 67), (66, 68), (67, 69), (68, 70), (69, 71), (70, 72), (71, 73), (72, 74), (73, 75), (74, 76), (75, 77), (76, 78), (77, 79), (78, 80), (79, 81)]
def F (g : Nat) : FuncId := (ag rt g).getD 0
theorem hft : ∀ f j, ag ft f = some j → F j = f := ft_ok (by kernel_rfl)
theorem hmix : Try.prog.follows .mixedOrders = true := by kernel_rfl
theorem c45 : CSound Try.prog F (F 45) f45.C := fn_ok (E := f45.env) (ft := ft) (np := 0) (fn := Try.f47) (kills := f45.kills) (cuts := f45.cuts) (af := f45.af) env_nil hft hmix (by kernel_rfl) (by kernel_rfl) (fun a => by kernel_rfl) (fun _ => by kernel_rfl) (fun _ => by kernel_rfl) (fun a h => (f45.eq a).mpr (f45.of a (f45.ok a h)))
theorem c46 : CSound Try.prog F (F 46) f46.C := fn_ok (E := f46.env) (ft := ft) (np := 0) (fn := Try.f48) (kills := f46.kills) (cuts := f46.cuts) (af := f46.af) env_nil hft hmix (by kernel_rfl) (by kernel_rfl) (fun a => by kernel_rfl) (fun _ => by kernel_rfl) (fun _ => by kernel_rfl) (fun a h => (f46.eq a).mpr (f46.of a (f46.ok a h)))
theorem c14 : CSound Try.prog F (F 14) f14.C := fn_ok (E := f14.env) (ft := ft) (np := 0) (fn := Try.f16) (kills := f14.kills) (cuts := f14.cuts) (af := f14.af) (env_cons c45 (env_cons c46 env_nil)) hft hmix (by kernel_rfl) (by kernel_rfl) (fun a => by kernel_rfl) (fun _ => by kernel_rfl) (fun _ => by kernel_rfl) (fun a h => (f14.eq a).mpr (f14.of a (f14.ok a h)))
theorem c13 : CSound Try.prog F (F 13) f13.C := fn_ok (E := f13.env) (ft := ft) (np := 0) (fn := Try.f15) (kills := f13.kills) (cuts := f13.cuts) (af := f13.af) (env_cons c14 env_nil) hft hmix (by kernel_rfl) (by kernel_rfl) (fun a => by kernel_rfl) (fun _ => by kernel_rfl) (fun _ => by kernel_rfl) (fun a h => (f13.eq a).mpr (f13.of a (f13.ok a h)))
theorem c18 : CSound Try.prog F (F 18) f18.C := fn_ok (E := f18.env) (ft := ft) (np := 0) (fn := Try.f20) (kills := f18.kills) (cuts := f18.cuts) (af := f18.af) env_nil hft hmix (by kernel_rfl) (by kernel_rfl) (fun a => by kernel_rfl) (fun _ => by kernel_rfl) (fun _ => by kernel_rfl) (fun a h => (f18.eq a).mpr (f18.of a (f18.ok a h)))
theorem c20 : CSound Try.prog F (F 20) f20.C := fn_ok (E := f20.env) (ft := ft) (np := 0) (fn := Try.f22) (kills := f20.kills) (cuts := f20.cuts) (af := f20.af) (env_cons c18 env_nil) hft hmix (by kernel_rfl) (by kernel_rfl) (fun a => by kernel_rfl) (fun _ => by kernel_rfl) (fun _ => by kernel_rfl) (fun a h => (f20.eq a).mpr (f20.of a (f20.ok a h)))
theorem c16 : CSound Try.prog F (F 16) f16.C := fn_ok (E := f16.env) (ft := ft) (np := 0) (fn := Try.f18) (kills := f16.kills) (cuts := f16.cuts) (af := f16.af) (env_cons c14 env_nil) hft hmix (by kernel_rfl) (by kernel_rfl) (fun a => by kernel_rfl) (fun _ => by kernel_rfl) (fun _ => by kernel_rfl) (fun a h => (f16.eq a).mpr (f16.of a (f16.ok a h)))
theorem c6 : CSound Try.prog F (F 6) f6.C := fn_ok (E := f6.env) (ft := ft) (np := 0) (fn := Try.f8) (kills := f6.kills) (cuts := f6.cuts) (af := f6.af) (env_cons c13 (env_cons c18 (env_cons c20 (env_cons c14 (env_cons c16 env_nil))))) hft hmix (by kernel_rfl) (by kernel_rfl) (fun a => by kernel_rfl) (fun _ => by kernel_rfl) (fun _ => by kernel_rfl) (fun a h => (f6.eq a).mpr (f6.of a (f6.ok a h)))
theorem rd9 : Reads Try.prog 9 k_str := str_reads (by kernel_rfl) (by kernel_rfl)
theorem rd3 : Reads Try.prog 3 k_i64 := int_reads (by kernel_rfl) (by kernel_rfl)
theorem args : Args Try.prog Try.f8.params.toList f6.args f6.wf f6.size := cast (by kernel_rfl) (args_cons (g := false) (by kernel_rfl) rd9 (.inr rfl) (args_cons (g := false) (by kernel_rfl) rd3 (.inr rfl) (args_one (g := false) (by kernel_rfl) rd3 (.inr rfl))))
theorem cz : CSound Try.prog F 8 f6.C := cast (by kernel_rfl) c6
def bk (H : Type) : Bulk H := ⟨Rows.uptoBulk, Rows.uptoBulkAll, fun _ => by simp [Rows.uptoBulk], fun d => by
  cases d with
  | lit l => cases l <;> simp [Rows.uptoBulk]
  | _ => simp [Rows.uptoBulk], fun _ _ => by simp [Rows.uptoBulk], fun _ => by simp [Rows.uptoBulk], by simp [Rows.uptoBulkAll], fun _ _ => by simp [Rows.uptoBulkAll]⟩
theorem allowed : ∀ t ∈ Try.f8.params.toList, Try.prog.readableRec t = true ∧ t < Try.prog.types.size := by
  have h : (Try.f8.params.toList.all fun t => Try.prog.readableRec t && decide (t < Try.prog.types.size)) = true := by kernel_rfl
  intro t ht
  have := List.all_eq_true.1 h t ht
  rw [Bool.and_eq_true, decide_eq_true_eq] at this
  exact this
set_option maxRecDepth 100000 in
theorem contract (H : Type) (enc : TypeId × Value → H) (W : World) (base : Nat) (args_ : Array Value) (ds gs : List (DataW H)) (before : List MemPlace)
    (hval : ∀ (j : Nat) t v, Try.f8.params[j]? = some t → args_[j]? = some v → Value.okWide Try.prog W .any base t v)
    (hW : DataW.Whole enc Try.prog Try.f8.params.toList Rows.packOneSpec.vars false W args_.toList ds gs before) (hk : Rows.uptoSmall H (ds ++ gs) = true) :
    Calls Try.prog 8 args_ W fun e W' => ∃ v, e = .returned v ∧ Rows.packOneSpec.post enc Try.prog Try.f8 false true false false W args_ v W' :=
  law_contract (N := 1048576) (rt := 4) (fn := Try.f8) (bk H) cz args (fun a h1 h2 => ⟨h1, h2⟩) (by kernel_rfl) (fun t ht => allowed t ht) (by kernel_rfl) (by kernel_rfl) rfl (fun ds h => by
    match ds, h with
    | [d0, d1, d2], _ => rfl) hval hW (show Rows.uptoBulkAll (ds ++ gs) ≤ 1048576 from of_decide_eq_true hk)
theorem own : ownKnob Try.prog.godebug = none := by kernel_rfl
set_option maxRecDepth 100000 in
theorem lifted (os : Os) (started : os.Started) (H : Type) (enc : TypeId × Value → H) (Fi : Stop.Interp) :
    ReturnsInHanded {} Try.checked os 8 .any ((Rows.OpenSpec.upto Rows.packOneSpec).pre6 enc Try.prog Try.f8 Rows.packOneUptoRow.domain false) (((Rows.OpenSpec.upto Rows.packOneSpec).at Fi).post enc Try.prog Try.f8 false true false false) := by
  refine returnsInHanded_of_cond (C := Try.checked) (s := Rows.OpenSpec.upto Rows.packOneSpec) (k := Rows.uptoSmall) rfl own started (by kernel_rfl) Try.func8
    (OpenSpec.witness (enc := enc) (C := Try.checked) (s := Rows.OpenSpec.upto Rows.packOneSpec) (k := Rows.uptoSmall) rfl false ⟨#[], #[.string .empty, .int .i64 0, .int .i64 0], []⟩ 12 (by kernel_rfl) (by kernel_rfl) (by kernel_rfl)
      (x := ([.lit (.string []), .lit (.int .i64 0), .lit (.int .i64 0)], [], [])) (by kernel_rfl) rfl (by kernel_rfl)) ?_
  intro W base args ds gs before hval hW _ hk _
  exact contract H enc W base args ds gs before hval hW hk
theorem proved : Rows.PackOneUptoSaid :=
  OpenClaim.holds_of_cond 8 Try.f8 rfl rfl rfl rfl rfl rfl rfl ⟨rfl, rfl, rfl, rfl, rfl⟩ rfl rfl rfl rfl rfl (by kernel_rfl) Try.func8 (by kernel_rfl)
    (of_decide_eq_true (by kernel_rfl)) (by unfold Func.isWrapper; first | (rw [if_pos (by decide +kernel)]; kernel_rfl) | (rw [if_neg (by decide +kernel)]; exact ⟨rfl, rfl⟩))
    (fun os started H enc _ Fi => lifted os started H enc Fi)
end Go.Proofs.Ytabnaedcnfkmiaa.packOne
