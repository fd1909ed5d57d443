/- The law AgentLatest: for every input it returns true, and the input reads as it did; where the input is of bulk at most 1048576. -/
import Derived.Test.YtabnaedcnfkmiabRows
import Derived.JoinedCond
import Derived.KernelRfl
import Derived.Test.YtabnaedcnfkmiabB37aea0bf
import Derived.Test.YtabnaedcnfkmiabB11639c58
import Derived.Test.YtabnaedcnfkmiabBafceca8d
import Derived.Test.YtabnaedcnfkmiabB99e8e87d
import Derived.Test.YtabnaedcnfkmiabB4237630a
import Derived.Test.YtabnaedcnfkmiabB30e92804
import Derived.Test.YtabnaedcnfkmiabBa82c8e14
import Derived.Test.YtabnaedcnfkmiabB3546d1ad
import Derived.Test.YtabnaedcnfkmiabB8eba9ece
import Derived.Test.YtabnaedcnfkmiabB6bb589cd
namespace Go.Proofs.Ytabnaedcnfkmiab.agentLatest
open Go Go.Abs Go.RowKit Go.ChangeShapes
set_option linter.unusedVariables false
def ft : FT := [(3, 80), (4, 81), (5, 82), (6, 83), (7, 84), (8, 85), (9, 86), (10, 87), (11, 88), (12, 89), (13, 90), (14, 91), (15, 92), (16, 93), (17, 94), (18, 95), (19, 96), (20, 97), (21, 98), (22, 99), (23, 100), (24, 101), (25, 102), (26, 103), (27, 104), (28, 105), (29, 106), (30, 107), (31, 108), (32, 109), (33, 110), (34, 111), (35, 112), (36, 113), (37, 34), (38, 49), (39, 33), (40, 114), (41, 115), (42, 116), (43, 117), (44, 118), (45, 119), (46, 120), (47, 121), (48, 122), (49, 123), (50, 48), (51, 52), (52, 35), (53, 24), (54, 124), (55, 125), (56, 126), (57, 127), (58, 69), (59, 128), (60, 129), (61, 130), (62, 58), (63, 55), (64, 53), (65, 131), (66, 66), (67, 67), (68, 54), (69, 50), (70, 51), (71, 132), (72, 56), (73, 133), (74, 134), (75, 135), (76, 68), (77, 70), (78, 71), (79, 136), (80, 137), (81, 72), (82, 73), (83, 138), (84, 74), (85, 75), (86, 76), (87, 77), (88, 78), (89, 79)]
def rt : List (Nat × Nat) := [(80, 3), (81, 4), (82, 5), (83, 6), (84, 7), (85, 8), (86, 9), (87, 10), (88, 11), (89, 12), (90, 13), (91, 14), (92, 15), (93, 16), (94, 17), (95, 18), (96, 19), (97, 20), (98, 21), (99, 22), (100, 23), (101, 24), (102, 25), (103, 26), (104, 27), (105, 28), (106, 29), (107, 30), (108, 31), (109, 32), (110, 33), (111, 34), (112, 35), (113, 36), (34, 37), (49, 38), (33, 39), (114, 40), (115, 41), (116, 42), (117, 43), (118, 44), (119, 45), (120, 46), (121, 47), (122, 48), (123, 49), (48, 50), (52, 51), (35, 52), (24, 53), (124, 54), (125, 55), (126, 56), (127, 57), (69, 58), (128, 59), (129, 60), (130, 61), (58, 62), (55, 63), (53, 64), (131, 65), (66, 66), (67, 67), (54, 68), (50, 69), (51, 70), (132, 71), (56, 72), (133, 73), (134, 74), (135, 75), (68, 76), (70, 77), (71, 78), (136, 79), (137, 80), (72, 81), (73, 82), (138, 83), (74, 84), (75, 85), (76, 86), (77, 87), (78, 88), (79, 89)]
def F (g : Nat) : FuncId := (ag rt g).getD 0
theorem hft : ∀ f j, ag ft f = some j → F j = f := ft_ok (by kernel_rfl)
theorem hmix : Try.prog.follows .mixedOrders = true := by kernel_rfl
theorem c101 : CSound Try.prog F (F 101) f101.C := fn_ok (E := f101.env) (ft := ft) (np := 0) (fn := Try.f24) (kills := f101.kills) (cuts := f101.cuts) (af := f101.af) env_nil hft hmix (by kernel_rfl) (by kernel_rfl) (fun a => by kernel_rfl) (fun _ => by kernel_rfl) (fun _ => by kernel_rfl) (fun a h => Gv.of (f101.eq a) (f101.of a (f101.ok a h)))
theorem c79 : CExt Try.prog F (F 79) f79.C := indexByte_ext (fn := Try.f89) (by kernel_rfl) (by kernel_rfl) (by kernel_rfl) (by kernel_rfl) (by kernel_rfl)
theorem c78 : CSound Try.prog F (F 78) f78.C := fn_ok (E := f78.env) (ft := ft) (np := 0) (fn := Try.f88) (kills := f78.kills) (cuts := f78.cuts) (af := f78.af) (env_ext c79 env_nil) hft hmix (by kernel_rfl) (by kernel_rfl) (fun a => by kernel_rfl) (fun _ => by kernel_rfl) (fun _ => by kernel_rfl) (fun a h => Gv.of (f78.eq a) (f78.of a (f78.ok a h)))
theorem c74 : CSound Try.prog F (F 74) f74.C := fn_ok (E := f74.env) (ft := ft) (np := 0) (fn := Try.f84) (kills := f74.kills) (cuts := f74.cuts) (af := f74.af) (env_cons c78 env_nil) hft hmix (by kernel_rfl) (by kernel_rfl) (fun a => by kernel_rfl) (fun _ => by kernel_rfl) (fun _ => by kernel_rfl) (fun a h => Gv.of (f74.eq a) (f74.of a (f74.ok a h)))
theorem c75 : CSound Try.prog F (F 75) f75.C := fn_ok (E := f75.env) (ft := ft) (np := 0) (fn := Try.f85) (kills := f75.kills) (cuts := f75.cuts) (af := f75.af) env_nil hft hmix (by kernel_rfl) (by kernel_rfl) (fun a => by kernel_rfl) (fun _ => by kernel_rfl) (fun _ => by kernel_rfl) (fun a h => Gv.of (f75.eq a) (f75.of a (f75.ok a h)))
theorem c73 : CSound Try.prog F (F 73) f73.C := fn_ok (E := f73.env) (ft := ft) (np := 0) (fn := Try.f82) (kills := f73.kills) (cuts := f73.cuts) (af := f73.af) (env_cons c74 (env_cons c75 env_nil)) hft hmix (by kernel_rfl) (by kernel_rfl) (fun a => by kernel_rfl) (fun _ => by kernel_rfl) (fun _ => by kernel_rfl) (fun a h => Gv.of (f73.eq a) (f73.of a (f73.ok a h)))
theorem c71 : CSound Try.prog F (F 71) f71.C := fn_ok (E := f71.env) (ft := ft) (np := 0) (fn := Try.f78) (kills := f71.kills) (cuts := f71.cuts) (af := f71.af) (env_cons c73 env_nil) hft hmix (by kernel_rfl) (by kernel_rfl) (fun a => by kernel_rfl) (fun _ => by kernel_rfl) (fun _ => by kernel_rfl) (fun a h => Gv.of (f71.eq a) (f71.of a (f71.ok a h)))
theorem c67 : CSound Try.prog F (F 67) f67.C := fn_ok (E := f67.env) (ft := ft) (np := 0) (fn := Try.f67) (kills := f67.kills) (cuts := f67.cuts) (af := f67.af) (env_cons c71 env_nil) hft hmix (by kernel_rfl) (by kernel_rfl) (fun a => by kernel_rfl) (fun _ => by kernel_rfl) (fun _ => by kernel_rfl) (fun a h => Gv.of (f67.eq a) (f67.of a (f67.ok a h)))
theorem c72 : CSound Try.prog F (F 72) f72.C := fn_ok (E := f72.env) (ft := ft) (np := 0) (fn := Try.f81) (kills := f72.kills) (cuts := f72.cuts) (af := f72.af) (env_cons c67 env_nil) hft hmix (by kernel_rfl) (by kernel_rfl) (fun a => by kernel_rfl) (fun _ => by kernel_rfl) (fun _ => by kernel_rfl) (fun a h => Gv.of (f72.eq a) (f72.of a (f72.ok a h)))
theorem c70 : CSound Try.prog F (F 70) f70.C := fn_ok (E := f70.env) (ft := ft) (np := 0) (fn := Try.f77) (kills := f70.kills) (cuts := f70.cuts) (af := f70.af) (env_cons c72 env_nil) hft hmix (by kernel_rfl) (by kernel_rfl) (fun a => by kernel_rfl) (fun _ => by kernel_rfl) (fun _ => by kernel_rfl) (fun a h => Gv.of (f70.eq a) (f70.of a (f70.ok a h)))
theorem c66 : CSound Try.prog F (F 66) f66.C := fn_ok (E := f66.env) (ft := ft) (np := 0) (fn := Try.f66) (kills := f66.kills) (cuts := f66.cuts) (af := f66.af) (env_cons c70 env_nil) hft hmix (by kernel_rfl) (by kernel_rfl) (fun a => by kernel_rfl) (fun _ => by kernel_rfl) (fun _ => by kernel_rfl) (fun a h => Gv.of (f66.eq a) (f66.of a (f66.ok a h)))
theorem c48 : CSound Try.prog F (F 48) f48.C := fn_ok (E := f48.env) (ft := ft) (np := 0) (fn := Try.f50) (kills := f48.kills) (cuts := f48.cuts) (af := f48.af) (env_cons c66 env_nil) hft hmix (by kernel_rfl) (by kernel_rfl) (fun a => by kernel_rfl) (fun _ => by kernel_rfl) (fun _ => by kernel_rfl) (fun a h => Gv.of (f48.eq a) (f48.of a (f48.ok a h)))
theorem c49 : CSound Try.prog F (F 49) f49.C := fn_ok (E := f49.env) (ft := ft) (np := 0) (fn := Try.f38) (kills := f49.kills) (cuts := f49.cuts) (af := f49.af) env_nil hft hmix (by kernel_rfl) (by kernel_rfl) (fun a => by kernel_rfl) (fun _ => by kernel_rfl) (fun _ => by kernel_rfl) (fun a h => Gv.of (f49.eq a) (f49.of a (f49.ok a h)))
theorem c69 : CSound Try.prog F (F 69) f69.C := fn_ok (E := f69.env) (ft := ft) (np := 0) (fn := Try.f58) (kills := f69.kills) (cuts := f69.cuts) (af := f69.af) (env_cons c49 env_nil) hft hmix (by kernel_rfl) (by kernel_rfl) (fun a => by kernel_rfl) (fun _ => by kernel_rfl) (fun _ => by kernel_rfl) (fun a h => Gv.of (f69.eq a) (f69.of a (f69.ok a h)))
theorem c54 : CSound Try.prog F (F 54) f54.C := fn_ok (E := f54.env) (ft := ft) (np := 0) (fn := Try.f68) (kills := f54.kills) (cuts := f54.cuts) (af := f54.af) (env_cons c69 env_nil) hft hmix (by kernel_rfl) (by kernel_rfl) (fun a => by kernel_rfl) (fun _ => by kernel_rfl) (fun _ => by kernel_rfl) (fun a h => Gv.of (f54.eq a) (f54.of a (f54.ok a h)))
theorem c52 : CSound Try.prog F (F 52) f52.C := fn_ok (E := f52.env) (ft := ft) (np := 0) (fn := Try.f51) (kills := f52.kills) (cuts := f52.cuts) (af := f52.af) (env_cons c54 env_nil) hft hmix (by kernel_rfl) (by kernel_rfl) (fun a => by kernel_rfl) (fun _ => by kernel_rfl) (fun _ => by kernel_rfl) (fun a h => Gv.of (f52.eq a) (f52.of a (f52.ok a h)))
theorem c34 : CSound Try.prog F (F 34) f34.C := fn_ok (E := f34.env) (ft := ft) (np := 0) (fn := Try.f37) (kills := f34.kills) (cuts := f34.cuts) (af := f34.af) env_nil hft hmix (by kernel_rfl) (by kernel_rfl) (fun a => by kernel_rfl) (fun _ => by kernel_rfl) (fun _ => by kernel_rfl) (fun a h => Gv.of (f34.eq a) (f34.of a (f34.ok a h)))
theorem c108 : CSound Try.prog F (F 108) f108.C := fn_ok (E := f108.env) (ft := ft) (np := 0) (fn := Try.f31) (kills := f108.kills) (cuts := f108.cuts) (af := f108.af) (env_cons c48 (env_cons c49 (env_cons c52 (env_cons c34 env_nil)))) hft hmix (by kernel_rfl) (by kernel_rfl) (fun a => by kernel_rfl) (fun _ => by kernel_rfl) (fun _ => by kernel_rfl) (fun a h => Gv.of (f108.eq a) (f108.of a (f108.ok a h)))
theorem c135 : CSound Try.prog F (F 135) f135.C := fn_ok (E := f135.env) (ft := ft) (np := 0) (fn := Try.f75) (kills := f135.kills) (cuts := f135.cuts) (af := f135.af) env_nil hft hmix (by kernel_rfl) (by kernel_rfl) (fun a => by kernel_rfl) (fun _ => by kernel_rfl) (fun _ => by kernel_rfl) (fun a h => Gv.of (f135.eq a) (f135.of a (f135.ok a h)))
theorem c130 : CSound Try.prog F (F 130) f130.C := fn_ok (E := f130.env) (ft := ft) (np := 0) (fn := Try.f61) (kills := f130.kills) (cuts := f130.cuts) (af := f130.af) (env_cons c135 env_nil) hft hmix (by kernel_rfl) (by kernel_rfl) (fun a => by kernel_rfl) (fun _ => by kernel_rfl) (fun _ => by kernel_rfl) (fun a h => Gv.of (f130.eq a) (f130.of a (f130.ok a h)))
theorem c120 : CSound Try.prog F (F 120) f120.C := fn_ok (E := f120.env) (ft := ft) (np := 0) (fn := Try.f46) (kills := f120.kills) (cuts := f120.cuts) (af := f120.af) (env_cons c130 env_nil) hft hmix (by kernel_rfl) (by kernel_rfl) (fun a => by kernel_rfl) (fun _ => by kernel_rfl) (fun _ => by kernel_rfl) (fun a h => Gv.of (f120.eq a) (f120.of a (f120.ok a h)))
theorem c99 : CSound Try.prog F (F 99) f99.C := fn_ok (E := f99.env) (ft := ft) (np := 0) (fn := Try.f22) (kills := f99.kills) (cuts := f99.cuts) (af := f99.af) (env_cons c120 env_nil) hft hmix (by kernel_rfl) (by kernel_rfl) (fun a => by kernel_rfl) (fun _ => by kernel_rfl) (fun _ => by kernel_rfl) (fun a h => Gv.of (f99.eq a) (f99.of a (f99.ok a h)))
theorem c107 : CSound Try.prog F (F 107) f107.C := fn_ok (E := f107.env) (ft := ft) (np := 1) (fn := Try.f30) (kills := f107.kills) (cuts := f107.cuts) (af := f107.af) env_nil hft hmix (by kernel_rfl) (by kernel_rfl) (fun a => by kernel_rfl) (fun _ => by kernel_rfl) (fun _ => by kernel_rfl) (fun a h => Gv.of (f107.eq a) (f107.of a (f107.ok a h)))
theorem c121 : CSound Try.prog F (F 121) f121.C := fn_ok (E := f121.env) (ft := ft) (np := 0) (fn := Try.f47) (kills := f121.kills) (cuts := f121.cuts) (af := f121.af) env_nil hft hmix (by kernel_rfl) (by kernel_rfl) (fun a => by kernel_rfl) (fun _ => by kernel_rfl) (fun _ => by kernel_rfl) (fun a h => Gv.of (f121.eq a) (f121.of a (f121.ok a h)))
theorem c102 : CSound Try.prog F (F 102) f102.C := fn_ok (E := f102.env) (ft := ft) (np := 1) (fn := Try.f25) (kills := f102.kills) (cuts := f102.cuts) (af := f102.af) (env_cons c108 (env_cons c99 (env_cons c107 (env_cons c121 env_nil)))) hft hmix (by kernel_rfl) (by kernel_rfl) (fun a => by kernel_rfl) (fun _ => by kernel_rfl) (fun _ => by kernel_rfl) (fun a h => Gv.of (f102.eq a) (f102.of a (f102.ok a h)))
theorem c98 : CSound Try.prog F (F 98) f98.C := fn_ok (E := f98.env) (ft := ft) (np := 0) (fn := Try.f21) (kills := f98.kills) (cuts := f98.cuts) (af := f98.af) (env_cons c101 (env_cons c102 (env_cons c99 env_nil))) hft hmix (by kernel_rfl) (by kernel_rfl) (fun a => by kernel_rfl) (fun _ => by kernel_rfl) (fun _ => by kernel_rfl) (fun a h => Gv.of (f98.eq a) (f98.of a (f98.ok a h)))
theorem c100 : CSound Try.prog F (F 100) f100.C := fn_ok (E := f100.env) (ft := ft) (np := 0) (fn := Try.f23) (kills := f100.kills) (cuts := f100.cuts) (af := f100.af) env_nil hft hmix (by kernel_rfl) (by kernel_rfl) (fun a => by kernel_rfl) (fun _ => by kernel_rfl) (fun _ => by kernel_rfl) (fun a h => Gv.of (f100.eq a) (f100.of a (f100.ok a h)))
theorem c103 : CSound Try.prog F (F 103) f103.C := fn_ok (E := f103.env) (ft := ft) (np := 0) (fn := Try.f26) (kills := f103.kills) (cuts := f103.cuts) (af := f103.af) env_nil hft hmix (by kernel_rfl) (by kernel_rfl) (fun a => by kernel_rfl) (fun _ => by kernel_rfl) (fun _ => by kernel_rfl) (fun a h => Gv.of (f103.eq a) (f103.of a (f103.ok a h)))
theorem c106 : CSound Try.prog F (F 106) f106.C := fn_ok (E := f106.env) (ft := ft) (np := 1) (fn := Try.f29) (kills := f106.kills) (cuts := f106.cuts) (af := f106.af) (env_cons c121 env_nil) hft hmix (by kernel_rfl) (by kernel_rfl) (fun a => by kernel_rfl) (fun _ => by kernel_rfl) (fun _ => by kernel_rfl) (fun a h => Gv.of (f106.eq a) (f106.of a (f106.ok a h)))
theorem c105 : CSound Try.prog F (F 105) f105.C := fn_ok (E := f105.env) (ft := ft) (np := 0) (fn := Try.f28) (kills := f105.kills) (cuts := f105.cuts) (af := f105.af) env_nil hft hmix (by kernel_rfl) (by kernel_rfl) (fun a => by kernel_rfl) (fun _ => by kernel_rfl) (fun _ => by kernel_rfl) (fun a h => Gv.of (f105.eq a) (f105.of a (f105.ok a h)))
theorem c87 : CSound Try.prog F (F 87) f87.C := fn_ok (E := f87.env) (ft := ft) (np := 0) (fn := Try.f10) (kills := f87.kills) (cuts := f87.cuts) (af := f87.af) (env_cons c98 (env_cons c100 (env_cons c103 (env_cons c108 (env_cons c99 (env_cons c101 (env_cons c102 (env_cons c106 (env_cons c105 (env_cons c107 env_nil)))))))))) hft hmix (by kernel_rfl) (by kernel_rfl) (fun a => by kernel_rfl) (fun _ => by kernel_rfl) (fun _ => by kernel_rfl) (fun a h => Gv.of (f87.eq a) (f87.of a (f87.ok a h)))
theorem rd9 : Reads Try.prog 9 k_str := str_reads (by kernel_rfl) (by kernel_rfl)
theorem rd3 : Reads Try.prog 3 k_i64 := int_reads (by kernel_rfl) (by kernel_rfl)
theorem pt28 : Parts Try.prog [(3, 0), (3, 1), (3, 2)] 0 (pairC k_i64 (pairC k_i64 k_i64)) := parts_cons rd3 (parts_cons rd3 (parts_one rd3))
theorem rd28 : Reads Try.prog 28 k_ar3_i64 := array_reads (m := 3) (e := 3) (by kernel_rfl) (by kernel_rfl) (cast (by kernel_rfl) pt28)
theorem pt29 : Parts Try.prog [(3, 0), (3, 1), (3, 2)] 0 (pairC k_i64 (pairC k_i64 k_i64)) := parts_cons rd3 (parts_cons rd3 (parts_one rd3))
theorem rd29 : Reads Try.prog 29 k_ar3_i64 := array_reads (m := 3) (e := 3) (by kernel_rfl) (by kernel_rfl) (cast (by kernel_rfl) pt29)
theorem pt99 : Parts Try.prog [(9, 0), (3, 1), (3, 2), (29, 3)] 0 (pairC k_str (pairC k_i64 (pairC k_i64 k_ar3_i64))) := parts_cons rd9 (parts_cons rd3 (parts_cons rd3 (parts_one rd29)))
theorem rd99 : Reads Try.prog 99 k_interregnumref24_Item := struct_reads (fs := (match Try.prog.underlying 99 with | some (.struct fs) => fs | _ => #[])) (by kernel_rfl) (by kernel_rfl) (cast (by kernel_rfl) pt99)
theorem rd49 : Reads Try.prog 49 k_sl_interregnumref24_Item := slice_reads (e := 99) (by kernel_rfl) (by kernel_rfl) rd99 (by decide)
theorem pt62 : Parts Try.prog [(9, 0), (28, 1), (29, 4), (49, 7)] 0 (pairC k_str (pairC k_ar3_i64 (pairC k_ar3_i64 k_sl_interregnumref24_Item))) := parts_cons rd9 (parts_cons rd28 (parts_cons rd29 (parts_one rd49)))
theorem rd62 : Reads Try.prog 62 k_interregnumref24_Order := struct_reads (fs := (match Try.prog.underlying 62 with | some (.struct fs) => fs | _ => #[])) (by kernel_rfl) (by kernel_rfl) (cast (by kernel_rfl) pt62)
theorem rd44 : Reads Try.prog 44 k_sl_interregnumref24_Order := slice_reads (e := 62) (by kernel_rfl) (by kernel_rfl) rd62 (by decide)
theorem rd35 : Reads Try.prog 35 k_u64 := int_reads (by kernel_rfl) (by kernel_rfl)
theorem rd68 : Reads Try.prog 68 k_sl_u64 := slice_reads (e := 35) (by kernel_rfl) (by kernel_rfl) rd35 (by decide)
theorem args : Args Try.prog Try.f10.params.toList f87.args f87.wf f87.size := cast (by kernel_rfl) (args_cons (g := false) (by kernel_rfl) rd9 (.inr rfl) (args_cons (g := false) (by kernel_rfl) rd44 (.inr rfl) (args_one (g := false) (by kernel_rfl) rd68 (.inr rfl))))
theorem cz : CSound Try.prog F 10 f87.C := cast (by kernel_rfl) c87
def bk (H : Type) : Bulk H := ⟨Rows.uptoBulk, Rows.uptoBulkAll, fun _ => by simp [Rows.uptoBulk], fun d => by
  cases d with
  | lit l => cases l <;> simp [Rows.uptoBulk]
  | _ => simp [Rows.uptoBulk], fun _ _ => by simp [Rows.uptoBulk], fun _ => by simp [Rows.uptoBulk], by simp [Rows.uptoBulkAll], fun _ _ => by simp [Rows.uptoBulkAll]⟩
theorem allowed : ∀ t ∈ Try.f10.params.toList, Try.prog.readableRec t = true ∧ t < Try.prog.types.size := by
  have h : (Try.f10.params.toList.all fun t => Try.prog.readableRec t && decide (t < Try.prog.types.size)) = true := by kernel_rfl
  intro t ht
  have := List.all_eq_true.1 h t ht
  rw [Bool.and_eq_true, decide_eq_true_eq] at this
  exact this
set_option maxRecDepth 100000 in
theorem contract (H : Type) (enc : TypeId × Value → H) (W : World) (base : Nat) (args_ : Array Value) (ds gs : List (DataW H)) (before : List MemPlace)
    (hval : ∀ (j : Nat) t v, Try.f10.params[j]? = some t → args_[j]? = some v → Value.okWide Try.prog W .any base t v)
    (hW : DataW.Whole enc Try.prog Try.f10.params.toList Rows.agentLatestSpec.vars false W args_.toList ds gs before) (hk : Rows.uptoSmall H (ds ++ gs) = true) :
    Calls Try.prog 10 args_ W fun e W' => ∃ v, e = .returned v ∧ Rows.agentLatestSpec.post enc Try.prog Try.f10 false true false false W args_ v W' :=
  law_contract (N := 1048576) (rt := 4) (fn := Try.f10) (bk H) cz args (fun a h1 h2 => ⟨h1, h2⟩) (by kernel_rfl) (fun t ht => allowed t ht) (by kernel_rfl) (by kernel_rfl) rfl (fun ds h => by
    match ds, h with
    | [d0, d1, d2], _ => rfl) hval hW (show Rows.uptoBulkAll (ds ++ gs) ≤ 1048576 from of_decide_eq_true hk)
theorem own : ownKnob Try.prog.godebug = none := by kernel_rfl
set_option maxRecDepth 100000 in
theorem lifted (os : Os) (started : os.Started) (H : Type) (enc : TypeId × Value → H) (Fi : Stop.Interp) :
    ReturnsInHanded {} Try.checked os 10 .any ((Rows.OpenSpec.upto Rows.agentLatestSpec).pre6 enc Try.prog Try.f10 Rows.agentLatestUptoRow.domain false) (((Rows.OpenSpec.upto Rows.agentLatestSpec).at Fi).post enc Try.prog Try.f10 false true false false) := by
  refine returnsInHanded_of_cond (C := Try.checked) (s := Rows.OpenSpec.upto Rows.agentLatestSpec) (k := Rows.uptoSmall) rfl own started (by kernel_rfl) Try.func10
    (OpenSpec.witness (enc := enc) (C := Try.checked) (s := Rows.OpenSpec.upto Rows.agentLatestSpec) (k := Rows.uptoSmall) rfl false ⟨#[], #[.string .empty, .slice none 0 0, .slice none 0 0], []⟩ 12 (by kernel_rfl) (by kernel_rfl) (by kernel_rfl)
      (x := ([.lit (.string []), .nil, .nil], [], [])) (by kernel_rfl) rfl (by kernel_rfl)) ?_
  intro W base args ds gs before hval hW _ hk _
  exact contract H enc W base args ds gs before hval hW hk
theorem proved : Rows.AgentLatestUptoSaid :=
  OpenClaim.holds_of_cond 10 Try.f10 rfl rfl rfl rfl rfl rfl rfl ⟨rfl, rfl, rfl, rfl, rfl⟩ rfl rfl rfl rfl rfl (by kernel_rfl) Try.func10 (by kernel_rfl)
    (of_decide_eq_true (by kernel_rfl)) (by unfold Func.isWrapper; first | (rw [if_pos (by decide +kernel)]; kernel_rfl) | (rw [if_neg (by decide +kernel)]; exact ⟨rfl, rfl⟩))
    (fun os started H enc _ Fi => lifted os started H enc Fi)
end Go.Proofs.Ytabnaedcnfkmiab.agentLatest
