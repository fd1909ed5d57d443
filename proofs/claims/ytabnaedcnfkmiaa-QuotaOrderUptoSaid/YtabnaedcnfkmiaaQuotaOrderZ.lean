/- The law QuotaOrder: for every input it returns true, and the input reads as it did; where the input is of bulk at most 1048576. -/
import Derived.Test.YtabnaedcnfkmiaaRows
import Derived.JoinedCond
import Derived.KernelRfl
import Derived.Test.YtabnaedcnfkmiaaB7cd1d56a
import Derived.Test.YtabnaedcnfkmiaaBb8ca02f9
import Derived.Test.YtabnaedcnfkmiaaBae9badd5
import Derived.Test.YtabnaedcnfkmiaaB1dc209c5
import Derived.Test.YtabnaedcnfkmiaaB46dfef1f
namespace Go.Proofs.Ytabnaedcnfkmiaa.quotaOrder
open Go Go.Abs Go.RowKit Go.ChangeShapes
set_option linter.unusedVariables false
def ft : FT := [(3, 1), (4, 2), (5, 3), (6, 4), (7, 5), (8, 6), (9, 7), (10, 8), (11, 9), (12, 10), (13, 11), (14, 12), (15, 13), (16, 14), (17, 15), (18, 16), (19, 17), (20, 18), (21, 19), (22, 20), (23, 21), (24, 22), (25, 23), (26, 24), (27, 25), (28, 26), (29, 27), (30, 28), (31, 29), (32, 30), (33, 31), (34, 32), (35, 33), (36, 34), (37, 35), (38, 36), (39, 37), (40, 38), (41, 39), (42, 40), (43, 41), (44, 42), (45, 43), (46, 44), (47, 45), (48, 46), (49, 47), (50, 48), (51, 49), (52, 50), (53, 51), (54, 52), (55, 53), (56, 54), (57, 55), (58, 56), (59, 57), (60, 58), (61, 59), (62, 60), (63, 61), (64, 62), (65, 63), (66, 64), (67, 65), (68, 66), (69, 67), (70, 68), (71, 69), (72, 70), (73, 71), (74, 72), (75, 73), (76, 74), (77, 75), (78, 76), (79, 77), (80, 78), (81, 79)]
def rt : List (Nat × Nat) := [(1, 3), (2, 4), (3, 5), (4, 6), (5, 7), (6, 8), (7, 9), (8, 10), (9, 11), (10, 12), (11, 13), (12, 14), (13, 15), (14, 16), (15, 17), (16, 18), (17, 19), (18, 20), (19, 21), (20, 22), (21, 23), (22, 24), (23, 25), (24, 26), (25, 27), (26, 28), (27, 29), (28, 30), (29, 31), (30, 32), (31, 33), (32, 34), (33, 35), (34, 36), (35, 37), (36, 38), (37, 39), (38, 40), (39, 41), (40, 42), (41, 43), (42, 44), (43, 45), (44, 46), (45, 47), (46, 48), (47, 49), (48, 50), (49, 51), (50, 52), (51, 53), (52, 54), (53, 55), (54, 56), (55, 57), (56, 58), (57, 59), (58, 60), (59, 61), (60, 62), (61, 63), (62, 64), (63, 65), (64, 66), (65, 67), (66, 68), (67, 69), (68, 70), (69, 71), (70, 72), (71, 73), (72, 74), (73, 75), (74, 76), (75, 77), (76, 78), (77, 79), (78, 80), (79, 81)]
def F (g : Nat) : FuncId := (ag rt g).getD 0
theorem hft : ∀ f j, ag ft f = some j → F j = f := ft_ok (by kernel_rfl)
theorem hmix : Try.prog.follows .mixedOrders = true := by kernel_rfl
theorem c79 : CExt Try.prog F (F 79) f79.C := indexByte_ext (fn := Try.f81) (by kernel_rfl) (by kernel_rfl) (by kernel_rfl) (by kernel_rfl) (by kernel_rfl)
theorem c78 : CSound Try.prog F (F 78) f78.C := fn_ok (E := f78.env) (ft := ft) (np := 0) (fn := Try.f80) (kills := f78.kills) (cuts := f78.cuts) (af := f78.af) (env_ext c79 env_nil) hft hmix (by kernel_rfl) (by kernel_rfl) (fun a => by kernel_rfl) (fun _ => by kernel_rfl) (fun _ => by kernel_rfl) (fun a h => Gv.of (f78.eq a) (f78.of a (f78.ok a h)))
theorem c74 : CSound Try.prog F (F 74) f74.C := fn_ok (E := f74.env) (ft := ft) (np := 0) (fn := Try.f76) (kills := f74.kills) (cuts := f74.cuts) (af := f74.af) (env_cons c78 env_nil) hft hmix (by kernel_rfl) (by kernel_rfl) (fun a => by kernel_rfl) (fun _ => by kernel_rfl) (fun _ => by kernel_rfl) (fun a h => Gv.of (f74.eq a) (f74.of a (f74.ok a h)))
theorem c75 : CSound Try.prog F (F 75) f75.C := fn_ok (E := f75.env) (ft := ft) (np := 0) (fn := Try.f77) (kills := f75.kills) (cuts := f75.cuts) (af := f75.af) env_nil hft hmix (by kernel_rfl) (by kernel_rfl) (fun a => by kernel_rfl) (fun _ => by kernel_rfl) (fun _ => by kernel_rfl) (fun a h => Gv.of (f75.eq a) (f75.of a (f75.ok a h)))
theorem c73 : CSound Try.prog F (F 73) f73.C := fn_ok (E := f73.env) (ft := ft) (np := 0) (fn := Try.f75) (kills := f73.kills) (cuts := f73.cuts) (af := f73.af) (env_cons c74 (env_cons c75 env_nil)) hft hmix (by kernel_rfl) (by kernel_rfl) (fun a => by kernel_rfl) (fun _ => by kernel_rfl) (fun _ => by kernel_rfl) (fun a h => Gv.of (f73.eq a) (f73.of a (f73.ok a h)))
theorem c71 : CSound Try.prog F (F 71) f71.C := fn_ok (E := f71.env) (ft := ft) (np := 0) (fn := Try.f73) (kills := f71.kills) (cuts := f71.cuts) (af := f71.af) (env_cons c73 env_nil) hft hmix (by kernel_rfl) (by kernel_rfl) (fun a => by kernel_rfl) (fun _ => by kernel_rfl) (fun _ => by kernel_rfl) (fun a h => Gv.of (f71.eq a) (f71.of a (f71.ok a h)))
theorem c67 : CSound Try.prog F (F 67) f67.C := fn_ok (E := f67.env) (ft := ft) (np := 0) (fn := Try.f69) (kills := f67.kills) (cuts := f67.cuts) (af := f67.af) (env_cons c71 env_nil) hft hmix (by kernel_rfl) (by kernel_rfl) (fun a => by kernel_rfl) (fun _ => by kernel_rfl) (fun _ => by kernel_rfl) (fun a h => Gv.of (f67.eq a) (f67.of a (f67.ok a h)))
theorem c72 : CSound Try.prog F (F 72) f72.C := fn_ok (E := f72.env) (ft := ft) (np := 0) (fn := Try.f74) (kills := f72.kills) (cuts := f72.cuts) (af := f72.af) (env_cons c67 env_nil) hft hmix (by kernel_rfl) (by kernel_rfl) (fun a => by kernel_rfl) (fun _ => by kernel_rfl) (fun _ => by kernel_rfl) (fun a h => Gv.of (f72.eq a) (f72.of a (f72.ok a h)))
theorem c70 : CSound Try.prog F (F 70) f70.C := fn_ok (E := f70.env) (ft := ft) (np := 0) (fn := Try.f72) (kills := f70.kills) (cuts := f70.cuts) (af := f70.af) (env_cons c72 env_nil) hft hmix (by kernel_rfl) (by kernel_rfl) (fun a => by kernel_rfl) (fun _ => by kernel_rfl) (fun _ => by kernel_rfl) (fun a h => Gv.of (f70.eq a) (f70.of a (f70.ok a h)))
theorem c66 : CSound Try.prog F (F 66) f66.C := fn_ok (E := f66.env) (ft := ft) (np := 0) (fn := Try.f68) (kills := f66.kills) (cuts := f66.cuts) (af := f66.af) (env_cons c70 env_nil) hft hmix (by kernel_rfl) (by kernel_rfl) (fun a => by kernel_rfl) (fun _ => by kernel_rfl) (fun _ => by kernel_rfl) (fun a h => Gv.of (f66.eq a) (f66.of a (f66.ok a h)))
theorem c48 : CSound Try.prog F (F 48) f48.C := fn_ok (E := f48.env) (ft := ft) (np := 0) (fn := Try.f50) (kills := f48.kills) (cuts := f48.cuts) (af := f48.af) (env_cons c66 env_nil) hft hmix (by kernel_rfl) (by kernel_rfl) (fun a => by kernel_rfl) (fun _ => by kernel_rfl) (fun _ => by kernel_rfl) (fun a h => Gv.of (f48.eq a) (f48.of a (f48.ok a h)))
theorem c49 : CSound Try.prog F (F 49) f49.C := fn_ok (E := f49.env) (ft := ft) (np := 0) (fn := Try.f51) (kills := f49.kills) (cuts := f49.cuts) (af := f49.af) env_nil hft hmix (by kernel_rfl) (by kernel_rfl) (fun a => by kernel_rfl) (fun _ => by kernel_rfl) (fun _ => by kernel_rfl) (fun a h => Gv.of (f49.eq a) (f49.of a (f49.ok a h)))
theorem c25 : CSound Try.prog F (F 25) f25.C := fn_ok (E := f25.env) (ft := ft) (np := 0) (fn := Try.f27) (kills := f25.kills) (cuts := f25.cuts) (af := f25.af) (env_cons c48 (env_cons c49 env_nil)) hft hmix (by kernel_rfl) (by kernel_rfl) (fun a => by kernel_rfl) (fun _ => by kernel_rfl) (fun _ => by kernel_rfl) (fun a h => Gv.of (f25.eq a) (f25.of a (f25.ok a h)))
theorem c69 : CSound Try.prog F (F 69) f69.C := fn_ok (E := f69.env) (ft := ft) (np := 0) (fn := Try.f71) (kills := f69.kills) (cuts := f69.cuts) (af := f69.af) (env_cons c49 env_nil) hft hmix (by kernel_rfl) (by kernel_rfl) (fun a => by kernel_rfl) (fun _ => by kernel_rfl) (fun _ => by kernel_rfl) (fun a h => Gv.of (f69.eq a) (f69.of a (f69.ok a h)))
theorem c54 : CSound Try.prog F (F 54) f54.C := fn_ok (E := f54.env) (ft := ft) (np := 0) (fn := Try.f56) (kills := f54.kills) (cuts := f54.cuts) (af := f54.af) (env_cons c69 env_nil) hft hmix (by kernel_rfl) (by kernel_rfl) (fun a => by kernel_rfl) (fun _ => by kernel_rfl) (fun _ => by kernel_rfl) (fun a h => Gv.of (f54.eq a) (f54.of a (f54.ok a h)))
theorem c52 : CSound Try.prog F (F 52) f52.C := fn_ok (E := f52.env) (ft := ft) (np := 0) (fn := Try.f54) (kills := f52.kills) (cuts := f52.cuts) (af := f52.af) (env_cons c54 env_nil) hft hmix (by kernel_rfl) (by kernel_rfl) (fun a => by kernel_rfl) (fun _ => by kernel_rfl) (fun _ => by kernel_rfl) (fun a h => Gv.of (f52.eq a) (f52.of a (f52.ok a h)))
theorem c27 : CSound Try.prog F (F 27) f27.C := fn_ok (E := f27.env) (ft := ft) (np := 0) (fn := Try.f29) (kills := f27.kills) (cuts := f27.cuts) (af := f27.af) (env_cons c52 env_nil) hft hmix (by kernel_rfl) (by kernel_rfl) (fun a => by kernel_rfl) (fun _ => by kernel_rfl) (fun _ => by kernel_rfl) (fun a h => Gv.of (f27.eq a) (f27.of a (f27.ok a h)))
theorem c34 : CSound Try.prog F (F 34) f34.C := fn_ok (E := f34.env) (ft := ft) (np := 0) (fn := Try.f36) (kills := f34.kills) (cuts := f34.cuts) (af := f34.af) env_nil hft hmix (by kernel_rfl) (by kernel_rfl) (fun a => by kernel_rfl) (fun _ => by kernel_rfl) (fun _ => by kernel_rfl) (fun a h => Gv.of (f34.eq a) (f34.of a (f34.ok a h)))
theorem c29 : CSound Try.prog F (F 29) f29.C := fn_ok (E := f29.env) (ft := ft) (np := 0) (fn := Try.f31) (kills := f29.kills) (cuts := f29.cuts) (af := f29.af) (env_cons c25 (env_cons c49 (env_cons c27 (env_cons c54 (env_cons c34 env_nil))))) hft hmix (by kernel_rfl) (by kernel_rfl) (fun a => by kernel_rfl) (fun _ => by kernel_rfl) (fun _ => by kernel_rfl) (fun a h => Gv.of (f29.eq a) (f29.of a (f29.ok a h)))
theorem c33 : CSound Try.prog F (F 33) f33.C := fn_ok (E := f33.env) (ft := ft) (np := 0) (fn := Try.f35) (kills := f33.kills) (cuts := f33.cuts) (af := f33.af) env_nil hft hmix (by kernel_rfl) (by kernel_rfl) (fun a => by kernel_rfl) (fun _ => by kernel_rfl) (fun _ => by kernel_rfl) (fun a h => Gv.of (f33.eq a) (f33.of a (f33.ok a h)))
theorem c57 : CSound Try.prog F (F 57) f57.C := fn_ok (E := f57.env) (ft := ft) (np := 0) (fn := Try.f59) (kills := f57.kills) (cuts := f57.cuts) (af := f57.af) env_nil hft hmix (by kernel_rfl) (by kernel_rfl) (fun a => by kernel_rfl) (fun _ => by kernel_rfl) (fun _ => by kernel_rfl) (fun a h => Gv.of (f57.eq a) (f57.of a (f57.ok a h)))
theorem c56 : CSound Try.prog F (F 56) f56.C := fn_ok (E := f56.env) (ft := ft) (np := 0) (fn := Try.f58) (kills := f56.kills) (cuts := f56.cuts) (af := f56.af) (env_cons c57 env_nil) hft hmix (by kernel_rfl) (by kernel_rfl) (fun a => by kernel_rfl) (fun _ => by kernel_rfl) (fun _ => by kernel_rfl) (fun a h => Gv.of (f56.eq a) (f56.of a (f56.ok a h)))
theorem c31 : CSound Try.prog F (F 31) f31.C := fn_ok (E := f31.env) (ft := ft) (np := 0) (fn := Try.f33) (kills := f31.kills) (cuts := f31.cuts) (af := f31.af) (env_cons c56 env_nil) hft hmix (by kernel_rfl) (by kernel_rfl) (fun a => by kernel_rfl) (fun _ => by kernel_rfl) (fun _ => by kernel_rfl) (fun a h => Gv.of (f31.eq a) (f31.of a (f31.ok a h)))
theorem c26 : CSound Try.prog F (F 26) f26.C := fn_ok (E := f26.env) (ft := ft) (np := 0) (fn := Try.f28) (kills := f26.kills) (cuts := f26.cuts) (af := f26.af) (env_cons c29 (env_cons c33 (env_cons c31 env_nil))) hft hmix (by kernel_rfl) (by kernel_rfl) (fun a => by kernel_rfl) (fun _ => by kernel_rfl) (fun _ => by kernel_rfl) (fun a h => Gv.of (f26.eq a) (f26.of a (f26.ok a h)))
theorem c11 : CSound Try.prog F (F 11) f11.C := fn_ok (E := f11.env) (ft := ft) (np := 0) (fn := Try.f13) (kills := f11.kills) (cuts := f11.cuts) (af := f11.af) (env_cons c26 (env_cons c27 (env_cons c29 env_nil))) hft hmix (by kernel_rfl) (by kernel_rfl) (fun a => by kernel_rfl) (fun _ => by kernel_rfl) (fun _ => by kernel_rfl) (fun a h => Gv.of (f11.eq a) (f11.of a (f11.ok a h)))
theorem rd9 : Reads Try.prog 9 k_str := str_reads (by kernel_rfl) (by kernel_rfl)
theorem rd3 : Reads Try.prog 3 k_i64 := int_reads (by kernel_rfl) (by kernel_rfl)
theorem pt46 : Parts Try.prog [(3, 0), (3, 1), (3, 2)] 0 (pairC k_i64 (pairC k_i64 k_i64)) := parts_cons rd3 (parts_cons rd3 (parts_one rd3))
theorem rd46 : Reads Try.prog 46 k_ar3_i64 := array_reads (m := 3) (e := 3) (by kernel_rfl) (by kernel_rfl) (cast (by kernel_rfl) pt46)
theorem pt97 : Parts Try.prog [(9, 0), (9, 1)] 0 (pairC k_str k_str) := parts_cons rd9 (parts_one rd9)
theorem rd97 : Reads Try.prog 97 k_api_Label := struct_reads (fs := (match Try.prog.underlying 97 with | some (.struct fs) => fs | _ => #[])) (by kernel_rfl) (by kernel_rfl) (cast (by kernel_rfl) pt97)
theorem rd47 : Reads Try.prog 47 k_sl_api_Label := slice_reads (e := 97) (by kernel_rfl) (by kernel_rfl) rd97 (by decide)
theorem pt49 : Parts Try.prog [(9, 0), (9, 1), (3, 2), (46, 3), (47, 6), (9, 7), (9, 8), (3, 9)] 0 (pairC k_str (pairC k_str (pairC k_i64 (pairC k_ar3_i64 (pairC k_sl_api_Label (pairC k_str (pairC k_str k_i64))))))) := parts_cons rd9 (parts_cons rd9 (parts_cons rd3 (parts_cons rd46 (parts_cons rd47 (parts_cons rd9 (parts_cons rd9 (parts_one rd3)))))))
theorem rd49 : Reads Try.prog 49 k_api_Task := struct_reads (fs := (match Try.prog.underlying 49 with | some (.struct fs) => fs | _ => #[])) (by kernel_rfl) (by kernel_rfl) (cast (by kernel_rfl) pt49)
theorem pt68 : Parts Try.prog [(49, 0), (3, 10), (9, 11), (3, 12)] 0 (pairC k_api_Task (pairC k_i64 (pairC k_str k_i64))) := parts_cons rd49 (parts_cons rd3 (parts_cons rd9 (parts_one rd3)))
theorem rd68 : Reads Try.prog 68 k_api_Job := struct_reads (fs := (match Try.prog.underlying 68 with | some (.struct fs) => fs | _ => #[])) (by kernel_rfl) (by kernel_rfl) (cast (by kernel_rfl) pt68)
theorem rd58 : Reads Try.prog 58 k_sl_api_Job := slice_reads (e := 68) (by kernel_rfl) (by kernel_rfl) rd68 (by decide)
theorem pt54 : Parts Try.prog [(9, 0), (46, 1)] 0 (pairC k_str k_ar3_i64) := parts_cons rd9 (parts_one rd46)
theorem rd54 : Reads Try.prog 54 k_api_Queue := struct_reads (fs := (match Try.prog.underlying 54 with | some (.struct fs) => fs | _ => #[])) (by kernel_rfl) (by kernel_rfl) (cast (by kernel_rfl) pt54)
theorem args : Args Try.prog Try.f13.params.toList f11.args f11.wf f11.size := cast (by kernel_rfl) (args_cons (g := false) (by kernel_rfl) rd58 (.inr rfl) (args_cons (g := true) (by kernel_rfl) rd54 (.inl rfl) (args_one (g := true) (by kernel_rfl) rd46 (.inl rfl))))
theorem cz : CSound Try.prog F 13 f11.C := cast (by kernel_rfl) c11
def bk (H : Type) : Bulk H := ⟨Rows.uptoBulk, Rows.uptoBulkAll, fun _ => by simp [Rows.uptoBulk], fun d => by
  cases d with
  | lit l => cases l <;> simp [Rows.uptoBulk]
  | _ => simp [Rows.uptoBulk], fun _ _ => by simp [Rows.uptoBulk], fun _ => by simp [Rows.uptoBulk], by simp [Rows.uptoBulkAll], fun _ _ => by simp [Rows.uptoBulkAll]⟩
theorem allowed : ∀ t ∈ Try.f13.params.toList, Try.prog.readableRec t = true ∧ t < Try.prog.types.size := by
  have h : (Try.f13.params.toList.all fun t => Try.prog.readableRec t && decide (t < Try.prog.types.size)) = true := by kernel_rfl
  intro t ht
  have := List.all_eq_true.1 h t ht
  rw [Bool.and_eq_true, decide_eq_true_eq] at this
  exact this
set_option maxRecDepth 100000 in
theorem contract (H : Type) (enc : TypeId × Value → H) (W : World) (base : Nat) (args_ : Array Value) (ds gs : List (DataW H)) (before : List MemPlace)
    (hval : ∀ (j : Nat) t v, Try.f13.params[j]? = some t → args_[j]? = some v → Value.okWide Try.prog W .any base t v)
    (hW : DataW.Whole enc Try.prog Try.f13.params.toList Rows.quotaOrderSpec.vars false W args_.toList ds gs before) (hk : Rows.uptoSmall H (ds ++ gs) = true) :
    Calls Try.prog 13 args_ W fun e W' => ∃ v, e = .returned v ∧ Rows.quotaOrderSpec.post enc Try.prog Try.f13 false true false false W args_ v W' :=
  law_contract (N := 1048576) (rt := 4) (fn := Try.f13) (bk H) cz args (fun a h1 h2 => ⟨h1, h2⟩) (by kernel_rfl) (fun t ht => allowed t ht) (by kernel_rfl) (by kernel_rfl) rfl (fun ds h => by
    match ds, h with
    | [d0, d1, d2], _ => rfl) hval hW (show Rows.uptoBulkAll (ds ++ gs) ≤ 1048576 from of_decide_eq_true hk)
theorem own : ownKnob Try.prog.godebug = none := by kernel_rfl
set_option maxRecDepth 100000 in
theorem lifted (os : Os) (started : os.Started) (H : Type) (enc : TypeId × Value → H) (Fi : Stop.Interp) :
    ReturnsInHanded {} Try.checked os 13 .any ((Rows.OpenSpec.upto Rows.quotaOrderSpec).pre6 enc Try.prog Try.f13 Rows.quotaOrderUptoRow.domain false) (((Rows.OpenSpec.upto Rows.quotaOrderSpec).at Fi).post enc Try.prog Try.f13 false true false false) := by
  refine returnsInHanded_of_cond (C := Try.checked) (s := Rows.OpenSpec.upto Rows.quotaOrderSpec) (k := Rows.uptoSmall) rfl own started (by kernel_rfl) Try.func13
    (OpenSpec.witness (enc := enc) (C := Try.checked) (s := Rows.OpenSpec.upto Rows.quotaOrderSpec) (k := Rows.uptoSmall) rfl false ⟨#[], #[.slice none 0 0, .agg #[.string .empty, .int .i64 0, .int .i64 0, .int .i64 0], .agg #[.int .i64 0, .int .i64 0, .int .i64 0]], []⟩ 12 (by kernel_rfl) (by kernel_rfl) (by kernel_rfl)
      (x := ([.nil, .agg [.lit (.string []), .agg [.lit (.int .i64 0), .lit (.int .i64 0), .lit (.int .i64 0)]], .agg [.lit (.int .i64 0), .lit (.int .i64 0), .lit (.int .i64 0)]], [], [])) (by kernel_rfl) rfl (by kernel_rfl)) ?_
  intro W base args ds gs before hval hW _ hk _
  exact contract H enc W base args ds gs before hval hW hk
theorem proved : Rows.QuotaOrderUptoSaid :=
  OpenClaim.holds_of_cond 13 Try.f13 rfl rfl rfl rfl rfl rfl rfl ⟨rfl, rfl, rfl, rfl, rfl⟩ rfl rfl rfl rfl rfl (by kernel_rfl) Try.func13 (by kernel_rfl)
    (of_decide_eq_true (by kernel_rfl)) (by unfold Func.isWrapper; first | (rw [if_pos (by decide +kernel)]; kernel_rfl) | (rw [if_neg (by decide +kernel)]; exact ⟨rfl, rfl⟩))
    (fun os started H enc _ Fi => lifted os started H enc Fi)
end Go.Proofs.Ytabnaedcnfkmiaa.quotaOrder
