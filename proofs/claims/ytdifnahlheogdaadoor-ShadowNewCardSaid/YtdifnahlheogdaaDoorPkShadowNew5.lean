/- ShadowNew: texts merged, part 5 of 5. The last part proves that the law ShadowNew holds for every input. -/
import Derived.Test.YtdifnahlheogdaaDoorPkShadowNew4
import Derived.Test.YtdifnahlheogdaaDoorCards
import Derived.Test.YtdifnahlheogdaaDoorTie
import Derived.OpenShut
import Derived.ProofKit
import Derived.ChangeOld
import Derived.Below
import Derived.SizedLaws
import Derived.SevenTiedAt
set_option maxRecDepth 100000
set_option maxHeartbeats 4000000
set_option linter.unusedVariables false
set_option linter.unusedSimpArgs false
namespace Go.Proofs.YtdifnahlheogdaaDoor
open Go Go.Xw Go.Yw
def shadow_Store_Turn.f (fu : Nat) (a0 : S_shadow_Store) (a1 : Int) (a2 : List Int) : Option (Int × Int × S_shadow_Store) := (if (!decide ((List.length a2 : Int) = 64)) = true then some (0, 2, a0) else ((alloc_Alloc_Works.f fu a0.blocks).bind fun t2 => ((bits_Set_Has.f fu t2 a1).bind fun t4 => (if (!t4) = true then some (0, 2, a0) else ((alloc_Alloc_Own.f fu a0.blocks a1).bind fun t7 => (if t7 = true then ((shadow_Store_written.f fu a0 a1 a2).bind fun t10 => some (t10.1, t10.2.1, t10.2.2)) else ((shadow_Store_Make.f fu a0 a2).bind fun t12 => (if (!decide (t12.2.1 = 0)) = true then some (0, t12.2.1, t12.2.2) else ((alloc_Alloc_Give.f fu t12.2.2.blocks a1).bind fun t15 => some (t12.1, t15.1, (⟨t12.2.2.device, t15.2⟩ : S_shadow_Store)))))))))))
theorem shadow_Store_Turn.sc (fu : Nat) (a0 : S_shadow_Store) (a1 : Int) (a2 : List Int) (r : Int × Int × S_shadow_Store) (h : shadow_Store_Turn.f fu a0 a1 a2 = some r) : SC Tryd.prog CT 19 [.ptr 0 0, vi .i64 a1, .v (.sl (.int .u8)) (a2 : List Int)] [.box 114 (.agg [.ptr 1 0, .ptr 4 0]), .box 105 (.agg [.sl 2 4 [], .agg [.sl 3 1 [], vi .i64 a0.device.plan.at_], vb a0.device.off, vb a0.device.armed, vi .i64 a0.device.left, vi .i64 a0.device.steps]), .row (.st .S_pmem_cell) 125 (a0.device.cells : List S_pmem_cell), .row (.int .i64) 3 (a0.device.plan.list : List Int), .box 108 (.agg [vi .i64 a0.blocks.reserve, .agg [.ptr 5 0, .ptr 7 0, .ptr 9 0, .ptr 11 0]]), .box 112 (.agg [vi .i64 a0.blocks.sets.1.size, .sl 6 1 []]), .row (.int .u64) 119 (a0.blocks.sets.1.words : List Int), .box 112 (.agg [vi .i64 a0.blocks.sets.2.1.size, .sl 8 1 []]), .row (.int .u64) 119 (a0.blocks.sets.2.1.words : List Int), .box 112 (.agg [vi .i64 a0.blocks.sets.2.2.1.size, .sl 10 1 []]), .row (.int .u64) 119 (a0.blocks.sets.2.2.1.words : List Int), .box 112 (.agg [vi .i64 a0.blocks.sets.2.2.2.size, .sl 12 1 []]), .row (.int .u64) 119 (a0.blocks.sets.2.2.2.words : List Int)] (.tup [vi .i64 r.1, vi .i64 r.2.1]) [.box 114 (.agg [.ptr 1 0, .ptr 4 0]), .box 105 (.agg [.sl 2 4 [], .agg [.sl 3 1 [], vi .i64 r.2.2.device.plan.at_], vb r.2.2.device.off, vb r.2.2.device.armed, vi .i64 r.2.2.device.left, vi .i64 r.2.2.device.steps]), .row (.st .S_pmem_cell) 125 (r.2.2.device.cells : List S_pmem_cell), .row (.int .i64) 3 (r.2.2.device.plan.list : List Int), .box 108 (.agg [vi .i64 r.2.2.blocks.reserve, .agg [.ptr 5 0, .ptr 7 0, .ptr 9 0, .ptr 11 0]]), .box 112 (.agg [vi .i64 r.2.2.blocks.sets.1.size, .sl 6 1 []]), .row (.int .u64) 119 (r.2.2.blocks.sets.1.words : List Int), .box 112 (.agg [vi .i64 r.2.2.blocks.sets.2.1.size, .sl 8 1 []]), .row (.int .u64) 119 (r.2.2.blocks.sets.2.1.words : List Int), .box 112 (.agg [vi .i64 r.2.2.blocks.sets.2.2.1.size, .sl 10 1 []]), .row (.int .u64) 119 (r.2.2.blocks.sets.2.2.1.words : List Int), .box 112 (.agg [vi .i64 r.2.2.blocks.sets.2.2.2.size, .sl 12 1 []]), .row (.int .u64) 119 (r.2.2.blocks.sets.2.2.2.words : List Int)] := by
 unfold shadow_Store_Turn.f at h
 refine sc_of (r := r) (N := 51) (rs := [.tmp 6, .tmp 7]) (V := fun (r : Int × Int × S_shadow_Store) => .tup [vi .i64 r.1, vi .i64 r.2.1]) (R' := fun (r : Int × Int × S_shadow_Store) => [.box 114 (.agg [.ptr 1 0, .ptr 4 0]), .box 105 (.agg [.sl 2 4 [], .agg [.sl 3 1 [], vi .i64 r.2.2.device.plan.at_], vb r.2.2.device.off, vb r.2.2.device.armed, vi .i64 r.2.2.device.left, vi .i64 r.2.2.device.steps]), .row (.st .S_pmem_cell) 125 (r.2.2.device.cells : List S_pmem_cell), .row (.int .i64) 3 (r.2.2.device.plan.list : List Int), .box 108 (.agg [vi .i64 r.2.2.blocks.reserve, .agg [.ptr 5 0, .ptr 7 0, .ptr 9 0, .ptr 11 0]]), .box 112 (.agg [vi .i64 r.2.2.blocks.sets.1.size, .sl 6 1 []]), .row (.int .u64) 119 (r.2.2.blocks.sets.1.words : List Int), .box 112 (.agg [vi .i64 r.2.2.blocks.sets.2.1.size, .sl 8 1 []]), .row (.int .u64) 119 (r.2.2.blocks.sets.2.1.words : List Int), .box 112 (.agg [vi .i64 r.2.2.blocks.sets.2.2.1.size, .sl 10 1 []]), .row (.int .u64) 119 (r.2.2.blocks.sets.2.2.1.words : List Int), .box 112 (.agg [vi .i64 r.2.2.blocks.sets.2.2.2.size, .sl 12 1 []]), .row (.int .u64) 119 (r.2.2.blocks.sets.2.2.2.words : List Int)]) cok Tryd.func19 rfl rfl rfl (by kernel_rfl) (by kernel_rfl) rfl rfl fun X => ?_
 refine t_reg cok ?_
 refine bi h (fun c1 h => ?_) (fun c1 h => ?_)
 ·skip
  refine t_cond cok ?_
  exact fi h (by kernel_rfl)
 refine bk h fun t2 k3 h => ?_
 refine cl3 cok.g (alloc_Alloc_Works.sc fu a0.blocks _ k3) (.ptr 22 0) [(4, .box 108 (.agg [vi .i64 a0.blocks.reserve, .agg [.ptr 5 0, .ptr 7 0, .ptr 9 0, .ptr 11 0]])), (5, .box 112 (.agg [vi .i64 a0.blocks.sets.1.size, .sl 6 1 []])), (6, .row (.int .u64) 119 (a0.blocks.sets.1.words : List Int)), (7, .box 112 (.agg [vi .i64 a0.blocks.sets.2.1.size, .sl 8 1 []])), (8, .row (.int .u64) 119 (a0.blocks.sets.2.1.words : List Int)), (9, .box 112 (.agg [vi .i64 a0.blocks.sets.2.2.1.size, .sl 10 1 []])), (10, .row (.int .u64) 119 (a0.blocks.sets.2.2.1.words : List Int)), (11, .box 112 (.agg [vi .i64 a0.blocks.sets.2.2.2.size, .sl 12 1 []])), (12, .row (.int .u64) 119 (a0.blocks.sets.2.2.2.words : List Int)), (22, .box 112 (.agg [vi .i64 t2.size, .sl 23 1 []])), (23, .row (.int .u64) 119 (t2.words : List Int))] 24 (by kernel_rfl) (by kernel_rfl) ?_
 refine bk h fun t4 k5 h => ?_
 refine cl3 cok.g (bits_Set_Has.sc fu t2 a1 _ k5) (vb t4) [(22, .box 112 (.agg [vi .i64 t2.size, .sl 23 1 []])), (23, .row (.int .u64) 119 (t2.words : List Int))] 26 (by kernel_rfl) (by kernel_rfl) ?_
 refine t_cond cok ?_
 refine bi h (fun c6 h => ?_) (fun c6 h => ?_)
 ·skip
  exact fi h (by kernel_rfl)
 refine bk h fun t7 k8 h => ?_
 refine cl3 cok.g (alloc_Alloc_Own.sc fu a0.blocks a1 _ k8) (vb t7) [(4, .box 108 (.agg [vi .i64 a0.blocks.reserve, .agg [.ptr 5 0, .ptr 7 0, .ptr 9 0, .ptr 11 0]])), (5, .box 112 (.agg [vi .i64 a0.blocks.sets.1.size, .sl 6 1 []])), (6, .row (.int .u64) 119 (a0.blocks.sets.1.words : List Int)), (7, .box 112 (.agg [vi .i64 a0.blocks.sets.2.1.size, .sl 8 1 []])), (8, .row (.int .u64) 119 (a0.blocks.sets.2.1.words : List Int)), (9, .box 112 (.agg [vi .i64 a0.blocks.sets.2.2.1.size, .sl 10 1 []])), (10, .row (.int .u64) 119 (a0.blocks.sets.2.2.1.words : List Int)), (11, .box 112 (.agg [vi .i64 a0.blocks.sets.2.2.2.size, .sl 12 1 []])), (12, .row (.int .u64) 119 (a0.blocks.sets.2.2.2.words : List Int))] 35 (by kernel_rfl) (by kernel_rfl) ?_
 refine t_cond cok ?_
 refine bi h (fun c9 h => ?_) (fun c9 h => ?_)
 ·skip
  refine bk h fun t10 k11 h => ?_
  refine cl3 cok.g (shadow_Store_written.sc fu a0 a1 a2 _ k11) (.tup [vi .i64 t10.1, vi .i64 t10.2.1]) [(0, .box 114 (.agg [.ptr 1 0, .ptr 4 0])), (1, .box 105 (.agg [.sl 2 4 [], .agg [.sl 3 1 [], vi .i64 t10.2.2.device.plan.at_], vb t10.2.2.device.off, vb t10.2.2.device.armed, vi .i64 t10.2.2.device.left, vi .i64 t10.2.2.device.steps])), (2, .row (.st .S_pmem_cell) 125 (t10.2.2.device.cells : List S_pmem_cell)), (3, .row (.int .i64) 3 (t10.2.2.device.plan.list : List Int)), (4, .box 108 (.agg [vi .i64 t10.2.2.blocks.reserve, .agg [.ptr 5 0, .ptr 7 0, .ptr 9 0, .ptr 11 0]])), (5, .box 112 (.agg [vi .i64 t10.2.2.blocks.sets.1.size, .sl 6 1 []])), (6, .row (.int .u64) 119 (t10.2.2.blocks.sets.1.words : List Int)), (7, .box 112 (.agg [vi .i64 t10.2.2.blocks.sets.2.1.size, .sl 8 1 []])), (8, .row (.int .u64) 119 (t10.2.2.blocks.sets.2.1.words : List Int)), (9, .box 112 (.agg [vi .i64 t10.2.2.blocks.sets.2.2.1.size, .sl 10 1 []])), (10, .row (.int .u64) 119 (t10.2.2.blocks.sets.2.2.1.words : List Int)), (11, .box 112 (.agg [vi .i64 t10.2.2.blocks.sets.2.2.2.size, .sl 12 1 []])), (12, .row (.int .u64) 119 (t10.2.2.blocks.sets.2.2.2.words : List Int))] 48 (by kernel_rfl) (by kernel_rfl) ?_
  exact fi h (by kernel_rfl)
 refine bk h fun t12 k13 h => ?_
 refine cl3 cok.g (shadow_Store_Make.sc fu a0 a2 _ k13) (.tup [vi .i64 t12.1, vi .i64 t12.2.1]) [(0, .box 114 (.agg [.ptr 1 0, .ptr 4 0])), (1, .box 105 (.agg [.sl 2 4 [], .agg [.sl 3 1 [], vi .i64 t12.2.2.device.plan.at_], vb t12.2.2.device.off, vb t12.2.2.device.armed, vi .i64 t12.2.2.device.left, vi .i64 t12.2.2.device.steps])), (2, .row (.st .S_pmem_cell) 125 (t12.2.2.device.cells : List S_pmem_cell)), (3, .row (.int .i64) 3 (t12.2.2.device.plan.list : List Int)), (4, .box 108 (.agg [vi .i64 t12.2.2.blocks.reserve, .agg [.ptr 5 0, .ptr 7 0, .ptr 9 0, .ptr 11 0]])), (5, .box 112 (.agg [vi .i64 t12.2.2.blocks.sets.1.size, .sl 6 1 []])), (6, .row (.int .u64) 119 (t12.2.2.blocks.sets.1.words : List Int)), (7, .box 112 (.agg [vi .i64 t12.2.2.blocks.sets.2.1.size, .sl 8 1 []])), (8, .row (.int .u64) 119 (t12.2.2.blocks.sets.2.1.words : List Int)), (9, .box 112 (.agg [vi .i64 t12.2.2.blocks.sets.2.2.1.size, .sl 10 1 []])), (10, .row (.int .u64) 119 (t12.2.2.blocks.sets.2.2.1.words : List Int)), (11, .box 112 (.agg [vi .i64 t12.2.2.blocks.sets.2.2.2.size, .sl 12 1 []])), (12, .row (.int .u64) 119 (t12.2.2.blocks.sets.2.2.2.words : List Int))] 48 (by kernel_rfl) (by kernel_rfl) ?_
 refine t_cond cok ?_
 refine bi h (fun c14 h => ?_) (fun c14 h => ?_)
 ·skip
  exact fi h (by kernel_rfl)
 refine bk h fun t15 k16 h => ?_
 refine cl3 cok.g (alloc_Alloc_Give.sc fu t12.2.2.blocks a1 _ k16) (vi .i64 t15.1) [(4, .box 108 (.agg [vi .i64 t15.2.reserve, .agg [.ptr 5 0, .ptr 7 0, .ptr 9 0, .ptr 11 0]])), (5, .box 112 (.agg [vi .i64 t15.2.sets.1.size, .sl 6 1 []])), (6, .row (.int .u64) 119 (t15.2.sets.1.words : List Int)), (7, .box 112 (.agg [vi .i64 t15.2.sets.2.1.size, .sl 8 1 []])), (8, .row (.int .u64) 119 (t15.2.sets.2.1.words : List Int)), (9, .box 112 (.agg [vi .i64 t15.2.sets.2.2.1.size, .sl 10 1 []])), (10, .row (.int .u64) 119 (t15.2.sets.2.2.1.words : List Int)), (11, .box 112 (.agg [vi .i64 t15.2.sets.2.2.2.size, .sl 12 1 []])), (12, .row (.int .u64) 119 (t15.2.sets.2.2.2.words : List Int))] 57 (by kernel_rfl) (by kernel_rfl) ?_
 exact fi h (by kernel_rfl)
def rickyardlaw19_awake.f (fu : Nat) : Option Bool := ((rickyardlaw19_Made.f fu 9 0).bind fun t1 => (Option.elim t1.1 ((Option.elim t1.2.1 ((Option.elim t1.2.2 (some (false)) (fun o7 => some (false)))) (fun o5 => (Option.elim t1.2.2 (some (false)) (fun o9 => some (false)))))) (fun o3 => (Option.elim t1.2.1 ((Option.elim t1.2.2 (none) (fun o13 => none))) (fun o11 => (Option.elim t1.2.2 (none) (fun o15 => ((rickyardlaw19_whole.f fu 1).bind fun t17 => ((shadow_Store_Make.f fu (⟨o11, o15⟩ : S_shadow_Store) t17).bind fun t19 => ((rickyardlaw19_whole.f fu 2).bind fun t21 => ((shadow_Store_Turn.f fu t19.2.2 t19.1 t21).bind fun t23 => ((alloc_Alloc_Mark.f fu t23.2.2.blocks).bind fun t25 => ((rickyardlaw19_whole.f fu 3).bind fun t27 => ((shadow_Store_Turn.f fu (⟨t23.2.2.device, t25⟩ : S_shadow_Store) t19.1 t27).bind fun t29 => (if (decide (t19.2.1 = 0)) = true then (if (decide (t23.2.1 = 0)) = true then (if (decide (t29.2.1 = 0)) = true then (if (decide (t19.1 = 2)) = true then (if (decide (t23.1 = 2)) = true then some ((decide (t29.1 = 3))) else some (false)) else some (false)) else some (false)) else some (false)) else some (false))))))))))))))))
theorem rickyardlaw19_awake.sc (fu : Nat) (r : Bool) (h : rickyardlaw19_awake.f fu = some r) : SC Tryd.prog CT 10 [] [] (vb r) [] := by
 unfold rickyardlaw19_awake.f at h
 refine sc_of (r := r) (N := 65) (rs := [.tmp 0]) (V := fun (r : Bool) => vb r) (R' := fun (r : Bool) => []) cok Tryd.func10 rfl rfl rfl (by kernel_rfl) (by kernel_rfl) rfl rfl fun X => ?_
 refine bk h fun t1 k2 h => ?_
 refine oe (x := t1.1) h (fun q4 h => ?_) (fun o3 q4 h => ?_)
 ·skip
  refine oe (x := t1.2.1) h (fun q6 h => ?_) (fun o5 q6 h => ?_)
  ·skip
   refine oe (x := t1.2.2) h (fun q8 h => ?_) (fun o7 q8 h => ?_)
   ·skip
    refine cl3 cok.g (rickyardlaw19_Made.scnnn fu 9 0 _ k2 q4 q6 q8) (.tup [.nilp, .nilp, .nilp]) [] 0 (by kernel_rfl) (by kernel_rfl) ?_
    refine t_reg cok ?_
    refine t_cond cok ?_
    exact fi h (by kernel_rfl)
   refine cl3 cok.g (rickyardlaw19_Made.scnns fu 9 0 _ k2 q4 q6 o7 q8) (.tup [.nilp, .nilp, .ptr 0 0]) [(0, .box 108 (.agg [vi .i64 o7.reserve, .agg [.ptr 1 0, .ptr 3 0, .ptr 5 0, .ptr 7 0]])), (1, .box 112 (.agg [vi .i64 o7.sets.1.size, .sl 2 1 []])), (2, .row (.int .u64) 119 (o7.sets.1.words : List Int)), (3, .box 112 (.agg [vi .i64 o7.sets.2.1.size, .sl 4 1 []])), (4, .row (.int .u64) 119 (o7.sets.2.1.words : List Int)), (5, .box 112 (.agg [vi .i64 o7.sets.2.2.1.size, .sl 6 1 []])), (6, .row (.int .u64) 119 (o7.sets.2.2.1.words : List Int)), (7, .box 112 (.agg [vi .i64 o7.sets.2.2.2.size, .sl 8 1 []])), (8, .row (.int .u64) 119 (o7.sets.2.2.2.words : List Int))] 9 (by kernel_rfl) (by kernel_rfl) ?_
   refine t_reg cok ?_
   refine t_cond cok ?_
   exact fi h (by kernel_rfl)
  refine oe (x := t1.2.2) h (fun q10 h => ?_) (fun o9 q10 h => ?_)
  ·skip
   refine cl3 cok.g (rickyardlaw19_Made.scnsn fu 9 0 _ k2 q4 o5 q6 q10) (.tup [.nilp, .ptr 0 0, .nilp]) [(0, .box 105 (.agg [.sl 1 4 [], .agg [.sl 2 1 [], vi .i64 o5.plan.at_], vb o5.off, vb o5.armed, vi .i64 o5.left, vi .i64 o5.steps])), (1, .row (.st .S_pmem_cell) 125 (o5.cells : List S_pmem_cell)), (2, .row (.int .i64) 3 (o5.plan.list : List Int))] 3 (by kernel_rfl) (by kernel_rfl) ?_
   refine t_reg cok ?_
   refine t_cond cok ?_
   exact fi h (by kernel_rfl)
  refine cl3 cok.g (rickyardlaw19_Made.scnss fu 9 0 _ k2 q4 o5 q6 o9 q10) (.tup [.nilp, .ptr 0 0, .ptr 3 0]) [(0, .box 105 (.agg [.sl 1 4 [], .agg [.sl 2 1 [], vi .i64 o5.plan.at_], vb o5.off, vb o5.armed, vi .i64 o5.left, vi .i64 o5.steps])), (1, .row (.st .S_pmem_cell) 125 (o5.cells : List S_pmem_cell)), (2, .row (.int .i64) 3 (o5.plan.list : List Int)), (3, .box 108 (.agg [vi .i64 o9.reserve, .agg [.ptr 4 0, .ptr 6 0, .ptr 8 0, .ptr 10 0]])), (4, .box 112 (.agg [vi .i64 o9.sets.1.size, .sl 5 1 []])), (5, .row (.int .u64) 119 (o9.sets.1.words : List Int)), (6, .box 112 (.agg [vi .i64 o9.sets.2.1.size, .sl 7 1 []])), (7, .row (.int .u64) 119 (o9.sets.2.1.words : List Int)), (8, .box 112 (.agg [vi .i64 o9.sets.2.2.1.size, .sl 9 1 []])), (9, .row (.int .u64) 119 (o9.sets.2.2.1.words : List Int)), (10, .box 112 (.agg [vi .i64 o9.sets.2.2.2.size, .sl 11 1 []])), (11, .row (.int .u64) 119 (o9.sets.2.2.2.words : List Int))] 12 (by kernel_rfl) (by kernel_rfl) ?_
  refine t_reg cok ?_
  refine t_cond cok ?_
  exact fi h (by kernel_rfl)
 refine oe (x := t1.2.1) h (fun q12 h => ?_) (fun o11 q12 h => ?_)
 ·skip
  refine oe (x := t1.2.2) h (fun q14 h => ?_) (fun o13 q14 h => ?_)
  ·skip
   cases h
  cases h
 refine oe (x := t1.2.2) h (fun q16 h => ?_) (fun o15 q16 h => ?_)
 ·skip
  cases h
 refine cl3 cok.g (rickyardlaw19_Made.scsss fu 9 0 _ k2 o3 q4 o11 q12 o15 q16) (.tup [.ptr 12 0, .ptr 0 0, .ptr 3 0]) [(0, .box 105 (.agg [.sl 1 4 [], .agg [.sl 2 1 [], vi .i64 o11.plan.at_], vb o11.off, vb o11.armed, vi .i64 o11.left, vi .i64 o11.steps])), (1, .row (.st .S_pmem_cell) 125 (o11.cells : List S_pmem_cell)), (2, .row (.int .i64) 3 (o11.plan.list : List Int)), (3, .box 108 (.agg [vi .i64 o15.reserve, .agg [.ptr 4 0, .ptr 6 0, .ptr 8 0, .ptr 10 0]])), (4, .box 112 (.agg [vi .i64 o15.sets.1.size, .sl 5 1 []])), (5, .row (.int .u64) 119 (o15.sets.1.words : List Int)), (6, .box 112 (.agg [vi .i64 o15.sets.2.1.size, .sl 7 1 []])), (7, .row (.int .u64) 119 (o15.sets.2.1.words : List Int)), (8, .box 112 (.agg [vi .i64 o15.sets.2.2.1.size, .sl 9 1 []])), (9, .row (.int .u64) 119 (o15.sets.2.2.1.words : List Int)), (10, .box 112 (.agg [vi .i64 o15.sets.2.2.2.size, .sl 11 1 []])), (11, .row (.int .u64) 119 (o15.sets.2.2.2.words : List Int)), (12, .box 114 (.agg [.ptr 0 0, .ptr 3 0]))] 13 (by kernel_rfl) (by kernel_rfl) ?_
 refine t_reg cok ?_
 refine t_cond cok ?_
 refine bk h fun t17 k18 h => ?_
 refine cl3 cok.g (rickyardlaw19_whole.sc fu 1 _ k18) (.sl 13 1 []) [(13, .row (.int .u8) 5 (t17 : List Int))] 14 (by kernel_rfl) (by kernel_rfl) ?_
 refine bk h fun t19 k20 h => ?_
 refine cl3 cok.g (shadow_Store_Make.sc fu (⟨o11, o15⟩ : S_shadow_Store) t17 _ k20) (.tup [vi .i64 t19.1, vi .i64 t19.2.1]) [(12, .box 114 (.agg [.ptr 0 0, .ptr 3 0])), (0, .box 105 (.agg [.sl 1 4 [], .agg [.sl 2 1 [], vi .i64 t19.2.2.device.plan.at_], vb t19.2.2.device.off, vb t19.2.2.device.armed, vi .i64 t19.2.2.device.left, vi .i64 t19.2.2.device.steps])), (1, .row (.st .S_pmem_cell) 125 (t19.2.2.device.cells : List S_pmem_cell)), (2, .row (.int .i64) 3 (t19.2.2.device.plan.list : List Int)), (3, .box 108 (.agg [vi .i64 t19.2.2.blocks.reserve, .agg [.ptr 4 0, .ptr 6 0, .ptr 8 0, .ptr 10 0]])), (4, .box 112 (.agg [vi .i64 t19.2.2.blocks.sets.1.size, .sl 5 1 []])), (5, .row (.int .u64) 119 (t19.2.2.blocks.sets.1.words : List Int)), (6, .box 112 (.agg [vi .i64 t19.2.2.blocks.sets.2.1.size, .sl 7 1 []])), (7, .row (.int .u64) 119 (t19.2.2.blocks.sets.2.1.words : List Int)), (8, .box 112 (.agg [vi .i64 t19.2.2.blocks.sets.2.2.1.size, .sl 9 1 []])), (9, .row (.int .u64) 119 (t19.2.2.blocks.sets.2.2.1.words : List Int)), (10, .box 112 (.agg [vi .i64 t19.2.2.blocks.sets.2.2.2.size, .sl 11 1 []])), (11, .row (.int .u64) 119 (t19.2.2.blocks.sets.2.2.2.words : List Int))] 27 (by kernel_rfl) (by kernel_rfl) ?_
 refine bk h fun t21 k22 h => ?_
 refine cl3 cok.g (rickyardlaw19_whole.sc fu 2 _ k22) (.sl 27 1 []) [(27, .row (.int .u8) 5 (t21 : List Int))] 28 (by kernel_rfl) (by kernel_rfl) ?_
 refine bk h fun t23 k24 h => ?_
 refine cl3 cok.g (shadow_Store_Turn.sc fu t19.2.2 t19.1 t21 _ k24) (.tup [vi .i64 t23.1, vi .i64 t23.2.1]) [(12, .box 114 (.agg [.ptr 0 0, .ptr 3 0])), (0, .box 105 (.agg [.sl 1 4 [], .agg [.sl 2 1 [], vi .i64 t23.2.2.device.plan.at_], vb t23.2.2.device.off, vb t23.2.2.device.armed, vi .i64 t23.2.2.device.left, vi .i64 t23.2.2.device.steps])), (1, .row (.st .S_pmem_cell) 125 (t23.2.2.device.cells : List S_pmem_cell)), (2, .row (.int .i64) 3 (t23.2.2.device.plan.list : List Int)), (3, .box 108 (.agg [vi .i64 t23.2.2.blocks.reserve, .agg [.ptr 4 0, .ptr 6 0, .ptr 8 0, .ptr 10 0]])), (4, .box 112 (.agg [vi .i64 t23.2.2.blocks.sets.1.size, .sl 5 1 []])), (5, .row (.int .u64) 119 (t23.2.2.blocks.sets.1.words : List Int)), (6, .box 112 (.agg [vi .i64 t23.2.2.blocks.sets.2.1.size, .sl 7 1 []])), (7, .row (.int .u64) 119 (t23.2.2.blocks.sets.2.1.words : List Int)), (8, .box 112 (.agg [vi .i64 t23.2.2.blocks.sets.2.2.1.size, .sl 9 1 []])), (9, .row (.int .u64) 119 (t23.2.2.blocks.sets.2.2.1.words : List Int)), (10, .box 112 (.agg [vi .i64 t23.2.2.blocks.sets.2.2.2.size, .sl 11 1 []])), (11, .row (.int .u64) 119 (t23.2.2.blocks.sets.2.2.2.words : List Int))] 41 (by kernel_rfl) (by kernel_rfl) ?_
 refine bk h fun t25 k26 h => ?_
 refine cl3 cok.g (alloc_Alloc_Mark.sc fu t23.2.2.blocks _ k26) (.tup []) [(3, .box 108 (.agg [vi .i64 t25.reserve, .agg [.ptr 4 0, .ptr 6 0, .ptr 50 0, .ptr 10 0]])), (4, .box 112 (.agg [vi .i64 t25.sets.1.size, .sl 5 1 []])), (5, .row (.int .u64) 119 (t25.sets.1.words : List Int)), (6, .box 112 (.agg [vi .i64 t25.sets.2.1.size, .sl 7 1 []])), (7, .row (.int .u64) 119 (t25.sets.2.1.words : List Int)), (8, .gone), (9, .gone), (10, .box 112 (.agg [vi .i64 t25.sets.2.2.2.size, .sl 11 1 []])), (11, .row (.int .u64) 119 (t25.sets.2.2.2.words : List Int)), (50, .box 112 (.agg [vi .i64 t25.sets.2.2.1.size, .sl 51 1 []])), (51, .row (.int .u64) 119 (t25.sets.2.2.1.words : List Int))] 52 (by kernel_rfl) (by kernel_rfl) ?_
 refine bk h fun t27 k28 h => ?_
 refine cl3 cok.g (rickyardlaw19_whole.sc fu 3 _ k28) (.sl 52 1 []) [(52, .row (.int .u8) 5 (t27 : List Int))] 53 (by kernel_rfl) (by kernel_rfl) ?_
 refine bk h fun t29 k30 h => ?_
 refine cl3 cok.g (shadow_Store_Turn.sc fu (⟨t23.2.2.device, t25⟩ : S_shadow_Store) t19.1 t27 _ k30) (.tup [vi .i64 t29.1, vi .i64 t29.2.1]) [(12, .box 114 (.agg [.ptr 0 0, .ptr 3 0])), (0, .box 105 (.agg [.sl 1 4 [], .agg [.sl 2 1 [], vi .i64 t29.2.2.device.plan.at_], vb t29.2.2.device.off, vb t29.2.2.device.armed, vi .i64 t29.2.2.device.left, vi .i64 t29.2.2.device.steps])), (1, .row (.st .S_pmem_cell) 125 (t29.2.2.device.cells : List S_pmem_cell)), (2, .row (.int .i64) 3 (t29.2.2.device.plan.list : List Int)), (3, .box 108 (.agg [vi .i64 t29.2.2.blocks.reserve, .agg [.ptr 4 0, .ptr 6 0, .ptr 50 0, .ptr 10 0]])), (4, .box 112 (.agg [vi .i64 t29.2.2.blocks.sets.1.size, .sl 5 1 []])), (5, .row (.int .u64) 119 (t29.2.2.blocks.sets.1.words : List Int)), (6, .box 112 (.agg [vi .i64 t29.2.2.blocks.sets.2.1.size, .sl 7 1 []])), (7, .row (.int .u64) 119 (t29.2.2.blocks.sets.2.1.words : List Int)), (50, .box 112 (.agg [vi .i64 t29.2.2.blocks.sets.2.2.1.size, .sl 51 1 []])), (51, .row (.int .u64) 119 (t29.2.2.blocks.sets.2.2.1.words : List Int)), (10, .box 112 (.agg [vi .i64 t29.2.2.blocks.sets.2.2.2.size, .sl 11 1 []])), (11, .row (.int .u64) 119 (t29.2.2.blocks.sets.2.2.2.words : List Int))] 66 (by kernel_rfl) (by kernel_rfl) ?_
 refine t_reg cok ?_
 refine bi h (fun c31 h => ?_) (fun c31 h => ?_)
 ·skip
  refine bi h (fun c32 h => ?_) (fun c32 h => ?_)
  ·skip
   refine bi h (fun c33 h => ?_) (fun c33 h => ?_)
   ·skip
    refine bi h (fun c34 h => ?_) (fun c34 h => ?_)
    ·skip
     refine bi h (fun c35 h => ?_) (fun c35 h => ?_)
     ·skip
      exact fi h (by kernel_rfl)
     exact fi h (by kernel_rfl)
    exact fi h (by kernel_rfl)
   exact fi h (by kernel_rfl)
  exact fi h (by kernel_rfl)
 exact fi h (by kernel_rfl)
def shadow_Store_Alloc.f (fu : Nat) (a0 : S_shadow_Store) : Option Unit := some ()
theorem shadow_Store_Alloc.sc (fu : Nat) (a0 : S_shadow_Store) (r : Unit) (h : shadow_Store_Alloc.f fu a0 = some r) : SC Tryd.prog CT 15 [.ptr 0 0] [.box 114 (.agg [.ptr 1 0, .ptr 4 0]), .box 105 (.agg [.sl 2 4 [], .agg [.sl 3 1 [], vi .i64 a0.device.plan.at_], vb a0.device.off, vb a0.device.armed, vi .i64 a0.device.left, vi .i64 a0.device.steps]), .row (.st .S_pmem_cell) 125 (a0.device.cells : List S_pmem_cell), .row (.int .i64) 3 (a0.device.plan.list : List Int), .box 108 (.agg [vi .i64 a0.blocks.reserve, .agg [.ptr 5 0, .ptr 7 0, .ptr 9 0, .ptr 11 0]]), .box 112 (.agg [vi .i64 a0.blocks.sets.1.size, .sl 6 1 []]), .row (.int .u64) 119 (a0.blocks.sets.1.words : List Int), .box 112 (.agg [vi .i64 a0.blocks.sets.2.1.size, .sl 8 1 []]), .row (.int .u64) 119 (a0.blocks.sets.2.1.words : List Int), .box 112 (.agg [vi .i64 a0.blocks.sets.2.2.1.size, .sl 10 1 []]), .row (.int .u64) 119 (a0.blocks.sets.2.2.1.words : List Int), .box 112 (.agg [vi .i64 a0.blocks.sets.2.2.2.size, .sl 12 1 []]), .row (.int .u64) 119 (a0.blocks.sets.2.2.2.words : List Int)] (.ptr 4 0) [.box 114 (.agg [.ptr 1 0, .ptr 4 0]), .box 105 (.agg [.sl 2 4 [], .agg [.sl 3 1 [], vi .i64 a0.device.plan.at_], vb a0.device.off, vb a0.device.armed, vi .i64 a0.device.left, vi .i64 a0.device.steps]), .row (.st .S_pmem_cell) 125 (a0.device.cells : List S_pmem_cell), .row (.int .i64) 3 (a0.device.plan.list : List Int), .box 108 (.agg [vi .i64 a0.blocks.reserve, .agg [.ptr 5 0, .ptr 7 0, .ptr 9 0, .ptr 11 0]]), .box 112 (.agg [vi .i64 a0.blocks.sets.1.size, .sl 6 1 []]), .row (.int .u64) 119 (a0.blocks.sets.1.words : List Int), .box 112 (.agg [vi .i64 a0.blocks.sets.2.1.size, .sl 8 1 []]), .row (.int .u64) 119 (a0.blocks.sets.2.1.words : List Int), .box 112 (.agg [vi .i64 a0.blocks.sets.2.2.1.size, .sl 10 1 []]), .row (.int .u64) 119 (a0.blocks.sets.2.2.1.words : List Int), .box 112 (.agg [vi .i64 a0.blocks.sets.2.2.2.size, .sl 12 1 []]), .row (.int .u64) 119 (a0.blocks.sets.2.2.2.words : List Int)] := by
 unfold shadow_Store_Alloc.f at h
 refine sc_of (r := r) (N := 7) (rs := [.tmp 2]) (V := fun (r : Unit) => .ptr 4 0) (R' := fun (r : Unit) => [.box 114 (.agg [.ptr 1 0, .ptr 4 0]), .box 105 (.agg [.sl 2 4 [], .agg [.sl 3 1 [], vi .i64 a0.device.plan.at_], vb a0.device.off, vb a0.device.armed, vi .i64 a0.device.left, vi .i64 a0.device.steps]), .row (.st .S_pmem_cell) 125 (a0.device.cells : List S_pmem_cell), .row (.int .i64) 3 (a0.device.plan.list : List Int), .box 108 (.agg [vi .i64 a0.blocks.reserve, .agg [.ptr 5 0, .ptr 7 0, .ptr 9 0, .ptr 11 0]]), .box 112 (.agg [vi .i64 a0.blocks.sets.1.size, .sl 6 1 []]), .row (.int .u64) 119 (a0.blocks.sets.1.words : List Int), .box 112 (.agg [vi .i64 a0.blocks.sets.2.1.size, .sl 8 1 []]), .row (.int .u64) 119 (a0.blocks.sets.2.1.words : List Int), .box 112 (.agg [vi .i64 a0.blocks.sets.2.2.1.size, .sl 10 1 []]), .row (.int .u64) 119 (a0.blocks.sets.2.2.1.words : List Int), .box 112 (.agg [vi .i64 a0.blocks.sets.2.2.2.size, .sl 12 1 []]), .row (.int .u64) 119 (a0.blocks.sets.2.2.2.words : List Int)]) cok Tryd.func15 rfl rfl rfl (by kernel_rfl) (by kernel_rfl) rfl rfl fun X => ?_
 exact fi h (by kernel_rfl)
def rickyardlaw19_ShadowNew.f (fu : Nat) (a0 : Int) (a1 : Int) : Option Bool := ((rickyardlaw19_awake.f fu).bind fun t1 => (if (!t1) = true then some (false) else ((pmem_New.f fu (IntKind.i64.wrap a0)).bind fun t4 => (Option.elim t4.1 (((bits_Of.f fu (IntKind.i64.wrap a1) []).bind fun t8 => ((bits_Of.f fu (IntKind.i64.wrap a1) []).bind fun t10 => ((alloc_New.f fu t8 t10 0).bind fun t12 => (Option.elim t12.1 (((shadow_New_n0_n1.f fu).bind fun t16 => ((shadow_New_n0_n1.f fu).bind fun t18 => ((shadow_New_n0_n1.f fu).bind fun t20 => (if (!decide (t16 = 1)) = true then some (false) else (if (!decide (t18 = 1)) = true then some (false) else (if (decide (a1 > a0)) = true then some ((decide (t20 = 2))) else some (false)))))))) (fun o14 => ((shadow_New_n0.f fu o14).bind fun t25 => ((shadow_New_n0_n1.f fu).bind fun t27 => ((shadow_New_n0.f fu o14).bind fun t29 => (if (!decide (t25 = 1)) = true then some (false) else (if (!decide (t27 = 1)) = true then some (false) else (if (decide (a1 > a0)) = true then some ((decide (t29 = 2))) else some (false))))))))))))) (fun o6 => ((bits_Of.f fu (IntKind.i64.wrap a1) []).bind fun t34 => ((bits_Of.f fu (IntKind.i64.wrap a1) []).bind fun t36 => ((alloc_New.f fu t34 t36 0).bind fun t38 => (Option.elim t38.1 (((shadow_New_n0_n1.f fu).bind fun t42 => ((shadow_New_n1.f fu o6).bind fun t44 => ((shadow_New_n1.f fu o6).bind fun t46 => (if (!decide (t42 = 1)) = true then some (false) else (if (!decide (t44 = 1)) = true then some (false) else (if (decide (a1 > a0)) = true then some ((decide (t46 = 2))) else some (false)))))))) (fun o40 => ((shadow_New_n0.f fu o40).bind fun t51 => ((shadow_New_n1.f fu o6).bind fun t53 => ((shadow_New.f fu o6 o40).bind fun t55 => (Option.elim t55.1 ((if (!decide (t51 = 1)) = true then some (false) else (if (!decide (t53 = 1)) = true then some (false) else (if (decide (a1 > a0)) = true then some ((decide (t55.2 = 2))) else some (false))))) (fun o57 => (if (!decide (t51 = 1)) = true then some (false) else (if (!decide (t53 = 1)) = true then some (false) else (if (decide (a1 > a0)) = true then some (false) else (if (decide (t55.2 = 0)) = true then ((shadow_Store_Alloc.f fu (⟨o6, o40⟩ : S_shadow_Store)).bind fun t66 => some (true)) else some (false))))))))))))))))))))
theorem rickyardlaw19_ShadowNew.sc (fu : Nat) (a0 : Int) (a1 : Int) (r : Bool) (h : rickyardlaw19_ShadowNew.f fu a0 a1 = some r) : SC Tryd.prog CT 3 [vi .u8 a0, vi .u8 a1] [] (vb r) [] := by
 unfold rickyardlaw19_ShadowNew.f at h
 refine sc_of (r := r) (N := 84) (rs := [.tmp 4]) (V := fun (r : Bool) => vb r) (R' := fun (r : Bool) => []) cok Tryd.func3 rfl rfl rfl (by kernel_rfl) (by kernel_rfl) rfl rfl fun X => ?_
 refine bk h fun t1 k2 h => ?_
 refine cl3 cok.g (rickyardlaw19_awake.sc fu _ k2) (vb t1) [] 0 (by kernel_rfl) (by kernel_rfl) ?_
 refine t_cond cok ?_
 refine bi h (fun c3 h => ?_) (fun c3 h => ?_)
 ·skip
  exact fi h (by kernel_rfl)
 refine bk h fun t4 k5 h => ?_
 refine oe (x := t4.1) h (fun q7 h => ?_) (fun o6 q7 h => ?_)
 ·skip
  refine cl3 cok.g (pmem_New.scn fu (IntKind.i64.wrap a0) _ k5 q7) (.tup [.nilp, vi .i64 t4.2]) [] 0 (by kernel_rfl) (by kernel_rfl) ?_
  refine bk h fun t8 k9 h => ?_
  refine cl3 cok.g (bits_Of.sc fu (IntKind.i64.wrap a1) [] _ k9) (.ptr 0 0) [(0, .box 112 (.agg [vi .i64 t8.size, .sl 1 1 []])), (1, .row (.int .u64) 119 (t8.words : List Int))] 2 (by kernel_rfl) (by kernel_rfl) ?_
  refine bk h fun t10 k11 h => ?_
  refine cl3 cok.g (bits_Of.sc fu (IntKind.i64.wrap a1) [] _ k11) (.ptr 2 0) [(2, .box 112 (.agg [vi .i64 t10.size, .sl 3 1 []])), (3, .row (.int .u64) 119 (t10.words : List Int))] 4 (by kernel_rfl) (by kernel_rfl) ?_
  refine bk h fun t12 k13 h => ?_
  refine oe (x := t12.1) h (fun q15 h => ?_) (fun o14 q15 h => ?_)
  ·skip
   refine cl3 cok.g (alloc_New.scn fu t8 t10 0 _ k13 q15) (.tup [.nilp, vi .i64 t12.2]) [(0, .box 112 (.agg [vi .i64 t8.size, .sl 1 1 []])), (1, .row (.int .u64) 119 (t8.words : List Int)), (2, .box 112 (.agg [vi .i64 t10.size, .sl 3 1 []])), (3, .row (.int .u64) 119 (t10.words : List Int))] 8 (by kernel_rfl) (by kernel_rfl) ?_
   refine bk h fun t16 k17 h => ?_
   refine cl3 cok.g (shadow_New_n0_n1.sc fu _ k17) (.tup [.nilp, vi .i64 t16]) [] 8 (by kernel_rfl) (by kernel_rfl) ?_
   refine bk h fun t18 k19 h => ?_
   refine cl3 cok.g (shadow_New_n0_n1.sc fu _ k19) (.tup [.nilp, vi .i64 t18]) [] 8 (by kernel_rfl) (by kernel_rfl) ?_
   refine bk h fun t20 k21 h => ?_
   refine cl3 cok.g (shadow_New_n0_n1.sc fu _ k21) (.tup [.nilp, vi .i64 t20]) [] 8 (by kernel_rfl) (by kernel_rfl) ?_
   refine t_reg cok ?_
   refine bi h (fun c22 h => ?_) (fun c22 h => ?_)
   ·skip
    refine t_cond cok ?_
    exact fi h (by kernel_rfl)
   refine t_cond cok ?_
   refine bi h (fun c23 h => ?_) (fun c23 h => ?_)
   ·skip
    exact fi h (by kernel_rfl)
   refine t_cond cok ?_
   refine bi h (fun c24 h => ?_) (fun c24 h => ?_)
   ·skip
    refine t_reg cok ?_
    exact fi h (by kernel_rfl)
   refine t_reg cok ?_
   exact fi h (by kernel_rfl)
  refine cl3 cok.g (alloc_New.scs fu t8 t10 0 _ k13 o14 q15) (.tup [.ptr 8 0, vi .i64 t12.2]) [(0, .box 112 (.agg [vi .i64 t8.size, .sl 1 1 []])), (1, .row (.int .u64) 119 (t8.words : List Int)), (2, .box 112 (.agg [vi .i64 t10.size, .sl 3 1 []])), (3, .row (.int .u64) 119 (t10.words : List Int)), (8, .box 108 (.agg [vi .i64 o14.reserve, .agg [.ptr 9 0, .ptr 11 0, .ptr 13 0, .ptr 15 0]])), (9, .box 112 (.agg [vi .i64 o14.sets.1.size, .sl 10 1 []])), (10, .row (.int .u64) 119 (o14.sets.1.words : List Int)), (11, .box 112 (.agg [vi .i64 o14.sets.2.1.size, .sl 12 1 []])), (12, .row (.int .u64) 119 (o14.sets.2.1.words : List Int)), (13, .box 112 (.agg [vi .i64 o14.sets.2.2.1.size, .sl 14 1 []])), (14, .row (.int .u64) 119 (o14.sets.2.2.1.words : List Int)), (15, .box 112 (.agg [vi .i64 o14.sets.2.2.2.size, .sl 16 1 []])), (16, .row (.int .u64) 119 (o14.sets.2.2.2.words : List Int))] 17 (by kernel_rfl) (by kernel_rfl) ?_
  refine bk h fun t25 k26 h => ?_
  refine cl3 cok.g (shadow_New_n0.sc fu o14 _ k26) (.tup [.nilp, vi .i64 t25]) [(8, .box 108 (.agg [vi .i64 o14.reserve, .agg [.ptr 9 0, .ptr 11 0, .ptr 13 0, .ptr 15 0]])), (9, .box 112 (.agg [vi .i64 o14.sets.1.size, .sl 10 1 []])), (10, .row (.int .u64) 119 (o14.sets.1.words : List Int)), (11, .box 112 (.agg [vi .i64 o14.sets.2.1.size, .sl 12 1 []])), (12, .row (.int .u64) 119 (o14.sets.2.1.words : List Int)), (13, .box 112 (.agg [vi .i64 o14.sets.2.2.1.size, .sl 14 1 []])), (14, .row (.int .u64) 119 (o14.sets.2.2.1.words : List Int)), (15, .box 112 (.agg [vi .i64 o14.sets.2.2.2.size, .sl 16 1 []])), (16, .row (.int .u64) 119 (o14.sets.2.2.2.words : List Int))] 26 (by kernel_rfl) (by kernel_rfl) ?_
  refine bk h fun t27 k28 h => ?_
  refine cl3 cok.g (shadow_New_n0_n1.sc fu _ k28) (.tup [.nilp, vi .i64 t27]) [] 26 (by kernel_rfl) (by kernel_rfl) ?_
  refine bk h fun t29 k30 h => ?_
  refine cl3 cok.g (shadow_New_n0.sc fu o14 _ k30) (.tup [.nilp, vi .i64 t29]) [(8, .box 108 (.agg [vi .i64 o14.reserve, .agg [.ptr 9 0, .ptr 11 0, .ptr 13 0, .ptr 15 0]])), (9, .box 112 (.agg [vi .i64 o14.sets.1.size, .sl 10 1 []])), (10, .row (.int .u64) 119 (o14.sets.1.words : List Int)), (11, .box 112 (.agg [vi .i64 o14.sets.2.1.size, .sl 12 1 []])), (12, .row (.int .u64) 119 (o14.sets.2.1.words : List Int)), (13, .box 112 (.agg [vi .i64 o14.sets.2.2.1.size, .sl 14 1 []])), (14, .row (.int .u64) 119 (o14.sets.2.2.1.words : List Int)), (15, .box 112 (.agg [vi .i64 o14.sets.2.2.2.size, .sl 16 1 []])), (16, .row (.int .u64) 119 (o14.sets.2.2.2.words : List Int))] 35 (by kernel_rfl) (by kernel_rfl) ?_
  refine t_reg cok ?_
  refine bi h (fun c31 h => ?_) (fun c31 h => ?_)
  ·skip
   refine t_cond cok ?_
   exact fi h (by kernel_rfl)
  refine t_cond cok ?_
  refine bi h (fun c32 h => ?_) (fun c32 h => ?_)
  ·skip
   exact fi h (by kernel_rfl)
  refine t_cond cok ?_
  refine bi h (fun c33 h => ?_) (fun c33 h => ?_)
  ·skip
   refine t_reg cok ?_
   exact fi h (by kernel_rfl)
  refine t_reg cok ?_
  exact fi h (by kernel_rfl)
 refine cl3 cok.g (pmem_New.scs fu (IntKind.i64.wrap a0) _ k5 o6 q7) (.tup [.ptr 0 0, vi .i64 t4.2]) [(0, .box 105 (.agg [.sl 1 4 [], .agg [.sl 2 1 [], vi .i64 o6.plan.at_], vb o6.off, vb o6.armed, vi .i64 o6.left, vi .i64 o6.steps])), (1, .row (.st .S_pmem_cell) 125 (o6.cells : List S_pmem_cell)), (2, .row (.int .i64) 3 (o6.plan.list : List Int))] 3 (by kernel_rfl) (by kernel_rfl) ?_
 refine bk h fun t34 k35 h => ?_
 refine cl3 cok.g (bits_Of.sc fu (IntKind.i64.wrap a1) [] _ k35) (.ptr 3 0) [(3, .box 112 (.agg [vi .i64 t34.size, .sl 4 1 []])), (4, .row (.int .u64) 119 (t34.words : List Int))] 5 (by kernel_rfl) (by kernel_rfl) ?_
 refine bk h fun t36 k37 h => ?_
 refine cl3 cok.g (bits_Of.sc fu (IntKind.i64.wrap a1) [] _ k37) (.ptr 5 0) [(5, .box 112 (.agg [vi .i64 t36.size, .sl 6 1 []])), (6, .row (.int .u64) 119 (t36.words : List Int))] 7 (by kernel_rfl) (by kernel_rfl) ?_
 refine bk h fun t38 k39 h => ?_
 refine oe (x := t38.1) h (fun q41 h => ?_) (fun o40 q41 h => ?_)
 ·skip
  refine cl3 cok.g (alloc_New.scn fu t34 t36 0 _ k39 q41) (.tup [.nilp, vi .i64 t38.2]) [(3, .box 112 (.agg [vi .i64 t34.size, .sl 4 1 []])), (4, .row (.int .u64) 119 (t34.words : List Int)), (5, .box 112 (.agg [vi .i64 t36.size, .sl 6 1 []])), (6, .row (.int .u64) 119 (t36.words : List Int))] 11 (by kernel_rfl) (by kernel_rfl) ?_
  refine bk h fun t42 k43 h => ?_
  refine cl3 cok.g (shadow_New_n0_n1.sc fu _ k43) (.tup [.nilp, vi .i64 t42]) [] 11 (by kernel_rfl) (by kernel_rfl) ?_
  refine bk h fun t44 k45 h => ?_
  refine cl3 cok.g (shadow_New_n1.sc fu o6 _ k45) (.tup [.nilp, vi .i64 t44]) [(0, .box 105 (.agg [.sl 1 4 [], .agg [.sl 2 1 [], vi .i64 o6.plan.at_], vb o6.off, vb o6.armed, vi .i64 o6.left, vi .i64 o6.steps])), (1, .row (.st .S_pmem_cell) 125 (o6.cells : List S_pmem_cell)), (2, .row (.int .i64) 3 (o6.plan.list : List Int))] 14 (by kernel_rfl) (by kernel_rfl) ?_
  refine bk h fun t46 k47 h => ?_
  refine cl3 cok.g (shadow_New_n1.sc fu o6 _ k47) (.tup [.nilp, vi .i64 t46]) [(0, .box 105 (.agg [.sl 1 4 [], .agg [.sl 2 1 [], vi .i64 o6.plan.at_], vb o6.off, vb o6.armed, vi .i64 o6.left, vi .i64 o6.steps])), (1, .row (.st .S_pmem_cell) 125 (o6.cells : List S_pmem_cell)), (2, .row (.int .i64) 3 (o6.plan.list : List Int))] 17 (by kernel_rfl) (by kernel_rfl) ?_
  refine t_reg cok ?_
  refine bi h (fun c48 h => ?_) (fun c48 h => ?_)
  ·skip
   refine t_cond cok ?_
   exact fi h (by kernel_rfl)
  refine t_cond cok ?_
  refine bi h (fun c49 h => ?_) (fun c49 h => ?_)
  ·skip
   exact fi h (by kernel_rfl)
  refine t_cond cok ?_
  refine bi h (fun c50 h => ?_) (fun c50 h => ?_)
  ·skip
   refine t_reg cok ?_
   exact fi h (by kernel_rfl)
  refine t_reg cok ?_
  exact fi h (by kernel_rfl)
 refine cl3 cok.g (alloc_New.scs fu t34 t36 0 _ k39 o40 q41) (.tup [.ptr 11 0, vi .i64 t38.2]) [(3, .box 112 (.agg [vi .i64 t34.size, .sl 4 1 []])), (4, .row (.int .u64) 119 (t34.words : List Int)), (5, .box 112 (.agg [vi .i64 t36.size, .sl 6 1 []])), (6, .row (.int .u64) 119 (t36.words : List Int)), (11, .box 108 (.agg [vi .i64 o40.reserve, .agg [.ptr 12 0, .ptr 14 0, .ptr 16 0, .ptr 18 0]])), (12, .box 112 (.agg [vi .i64 o40.sets.1.size, .sl 13 1 []])), (13, .row (.int .u64) 119 (o40.sets.1.words : List Int)), (14, .box 112 (.agg [vi .i64 o40.sets.2.1.size, .sl 15 1 []])), (15, .row (.int .u64) 119 (o40.sets.2.1.words : List Int)), (16, .box 112 (.agg [vi .i64 o40.sets.2.2.1.size, .sl 17 1 []])), (17, .row (.int .u64) 119 (o40.sets.2.2.1.words : List Int)), (18, .box 112 (.agg [vi .i64 o40.sets.2.2.2.size, .sl 19 1 []])), (19, .row (.int .u64) 119 (o40.sets.2.2.2.words : List Int))] 20 (by kernel_rfl) (by kernel_rfl) ?_
 refine bk h fun t51 k52 h => ?_
 refine cl3 cok.g (shadow_New_n0.sc fu o40 _ k52) (.tup [.nilp, vi .i64 t51]) [(11, .box 108 (.agg [vi .i64 o40.reserve, .agg [.ptr 12 0, .ptr 14 0, .ptr 16 0, .ptr 18 0]])), (12, .box 112 (.agg [vi .i64 o40.sets.1.size, .sl 13 1 []])), (13, .row (.int .u64) 119 (o40.sets.1.words : List Int)), (14, .box 112 (.agg [vi .i64 o40.sets.2.1.size, .sl 15 1 []])), (15, .row (.int .u64) 119 (o40.sets.2.1.words : List Int)), (16, .box 112 (.agg [vi .i64 o40.sets.2.2.1.size, .sl 17 1 []])), (17, .row (.int .u64) 119 (o40.sets.2.2.1.words : List Int)), (18, .box 112 (.agg [vi .i64 o40.sets.2.2.2.size, .sl 19 1 []])), (19, .row (.int .u64) 119 (o40.sets.2.2.2.words : List Int))] 29 (by kernel_rfl) (by kernel_rfl) ?_
 refine bk h fun t53 k54 h => ?_
 refine cl3 cok.g (shadow_New_n1.sc fu o6 _ k54) (.tup [.nilp, vi .i64 t53]) [(0, .box 105 (.agg [.sl 1 4 [], .agg [.sl 2 1 [], vi .i64 o6.plan.at_], vb o6.off, vb o6.armed, vi .i64 o6.left, vi .i64 o6.steps])), (1, .row (.st .S_pmem_cell) 125 (o6.cells : List S_pmem_cell)), (2, .row (.int .i64) 3 (o6.plan.list : List Int))] 32 (by kernel_rfl) (by kernel_rfl) ?_
 refine bk h fun t55 k56 h => ?_
 refine oe (x := t55.1) h (fun q58 h => ?_) (fun o57 q58 h => ?_)
 ·skip
  refine cl3 cok.g (shadow_New.scn fu o6 o40 _ k56 q58) (.tup [.nilp, vi .i64 t55.2]) [(0, .box 105 (.agg [.sl 1 4 [], .agg [.sl 2 1 [], vi .i64 o6.plan.at_], vb o6.off, vb o6.armed, vi .i64 o6.left, vi .i64 o6.steps])), (1, .row (.st .S_pmem_cell) 125 (o6.cells : List S_pmem_cell)), (2, .row (.int .i64) 3 (o6.plan.list : List Int)), (11, .box 108 (.agg [vi .i64 o40.reserve, .agg [.ptr 12 0, .ptr 14 0, .ptr 16 0, .ptr 18 0]])), (12, .box 112 (.agg [vi .i64 o40.sets.1.size, .sl 13 1 []])), (13, .row (.int .u64) 119 (o40.sets.1.words : List Int)), (14, .box 112 (.agg [vi .i64 o40.sets.2.1.size, .sl 15 1 []])), (15, .row (.int .u64) 119 (o40.sets.2.1.words : List Int)), (16, .box 112 (.agg [vi .i64 o40.sets.2.2.1.size, .sl 17 1 []])), (17, .row (.int .u64) 119 (o40.sets.2.2.1.words : List Int)), (18, .box 112 (.agg [vi .i64 o40.sets.2.2.2.size, .sl 19 1 []])), (19, .row (.int .u64) 119 (o40.sets.2.2.2.words : List Int))] 44 (by kernel_rfl) (by kernel_rfl) ?_
  refine t_reg cok ?_
  refine bi h (fun c59 h => ?_) (fun c59 h => ?_)
  ·skip
   refine t_cond cok ?_
   exact fi h (by kernel_rfl)
  refine t_cond cok ?_
  refine bi h (fun c60 h => ?_) (fun c60 h => ?_)
  ·skip
   exact fi h (by kernel_rfl)
  refine t_cond cok ?_
  refine bi h (fun c61 h => ?_) (fun c61 h => ?_)
  ·skip
   refine t_reg cok ?_
   exact fi h (by kernel_rfl)
  refine t_reg cok ?_
  exact fi h (by kernel_rfl)
 refine cl3 cok.g (shadow_New.scs fu o6 o40 _ k56 o57 q58) (.tup [.ptr 44 0, vi .i64 t55.2]) [(0, .box 105 (.agg [.sl 1 4 [], .agg [.sl 2 1 [], vi .i64 o6.plan.at_], vb o6.off, vb o6.armed, vi .i64 o6.left, vi .i64 o6.steps])), (1, .row (.st .S_pmem_cell) 125 (o6.cells : List S_pmem_cell)), (2, .row (.int .i64) 3 (o6.plan.list : List Int)), (11, .box 108 (.agg [vi .i64 o40.reserve, .agg [.ptr 12 0, .ptr 14 0, .ptr 16 0, .ptr 18 0]])), (12, .box 112 (.agg [vi .i64 o40.sets.1.size, .sl 13 1 []])), (13, .row (.int .u64) 119 (o40.sets.1.words : List Int)), (14, .box 112 (.agg [vi .i64 o40.sets.2.1.size, .sl 15 1 []])), (15, .row (.int .u64) 119 (o40.sets.2.1.words : List Int)), (16, .box 112 (.agg [vi .i64 o40.sets.2.2.1.size, .sl 17 1 []])), (17, .row (.int .u64) 119 (o40.sets.2.2.1.words : List Int)), (18, .box 112 (.agg [vi .i64 o40.sets.2.2.2.size, .sl 19 1 []])), (19, .row (.int .u64) 119 (o40.sets.2.2.2.words : List Int)), (44, .box 114 (.agg [.ptr 0 0, .ptr 11 0]))] 45 (by kernel_rfl) (by kernel_rfl) ?_
 refine t_reg cok ?_
 refine bi h (fun c62 h => ?_) (fun c62 h => ?_)
 ·skip
  refine t_cond cok ?_
  exact fi h (by kernel_rfl)
 refine t_cond cok ?_
 refine bi h (fun c63 h => ?_) (fun c63 h => ?_)
 ·skip
  exact fi h (by kernel_rfl)
 refine t_cond cok ?_
 refine bi h (fun c64 h => ?_) (fun c64 h => ?_)
 ·skip
  refine t_reg cok ?_
  exact fi h (by kernel_rfl)
 refine t_reg cok ?_
 refine bi h (fun c65 h => ?_) (fun c65 h => ?_)
 ·skip
  refine bk h fun t66 k67 h => ?_
  refine cl3 cok.g (shadow_Store_Alloc.sc fu (⟨o6, o40⟩ : S_shadow_Store) _ k67) (.ptr 11 0) [(44, .box 114 (.agg [.ptr 0 0, .ptr 11 0])), (0, .box 105 (.agg [.sl 1 4 [], .agg [.sl 2 1 [], vi .i64 o6.plan.at_], vb o6.off, vb o6.armed, vi .i64 o6.left, vi .i64 o6.steps])), (1, .row (.st .S_pmem_cell) 125 (o6.cells : List S_pmem_cell)), (2, .row (.int .i64) 3 (o6.plan.list : List Int)), (11, .box 108 (.agg [vi .i64 o40.reserve, .agg [.ptr 12 0, .ptr 14 0, .ptr 16 0, .ptr 18 0]])), (12, .box 112 (.agg [vi .i64 o40.sets.1.size, .sl 13 1 []])), (13, .row (.int .u64) 119 (o40.sets.1.words : List Int)), (14, .box 112 (.agg [vi .i64 o40.sets.2.1.size, .sl 15 1 []])), (15, .row (.int .u64) 119 (o40.sets.2.1.words : List Int)), (16, .box 112 (.agg [vi .i64 o40.sets.2.2.1.size, .sl 17 1 []])), (17, .row (.int .u64) 119 (o40.sets.2.2.1.words : List Int)), (18, .box 112 (.agg [vi .i64 o40.sets.2.2.2.size, .sl 19 1 []])), (19, .row (.int .u64) 119 (o40.sets.2.2.2.words : List Int))] 58 (by kernel_rfl) (by kernel_rfl) ?_
  exact fi h (by kernel_rfl)
 exact fi h (by kernel_rfl)
end Go.Proofs.YtdifnahlheogdaaDoor
namespace Go.Proofs.YtdifnahlheogdaaDoor.Pure
open Go Go.Xw Go.Yw
def Bytes (l : List Int) : Prop := ∀ x ∈ l, 0 ≤ x ∧ x ≤ 255
theorem ix_nat {α : Type} [Inhabited α] {l : List α} {j : Nat} (h : j < l.length) : ix l (j : Int) = l[j] := by
  simp [ix, List.getD_eq_getElem?_getD, List.getElem?_eq_getElem h]
theorem take_next {α : Type} {l : List α} {j : Nat} (h : j < l.length) : l.take (j + 1) = l.take j ++ [l[j]] := by
  rw [List.take_add_one, List.getElem?_eq_getElem h]
  rfl
theorem next64 {j n : Nat} (h : j < n) (hn : n ≤ 100000) : IntKind.i64.wrap ((j : Int) + 1) = ((j + 1 : Nat) : Int) := by rw [w64 (by omega) (by omega)]; omega
def wdR (g : Nat → Bool) : Nat → Nat
  | 0 => 0
  | k + 1 => 2 ^ k * (if g k = true then 1 else 0) + wdR g k
theorem wdR_lt (g : Nat → Bool) : ∀ n, wdR g n < 2 ^ n
  | 0 => by simp [wdR]
  | n + 1 => by
    have := wdR_lt g n
    unfold wdR
    rw [Nat.pow_succ]
    split <;> omega
theorem wdR_bit (g : Nat → Bool) (k : Nat) : ∀ n, (wdR g n).testBit k = (decide (k < n) && g k)
  | 0 => by simp [wdR]
  | n + 1 => by
    unfold wdR
    rw [Nat.testBit_two_pow_mul_add _ (wdR_lt g n)]
    by_cases h : k < n
    · rw [if_pos h, wdR_bit g k n]
      simp [h, show k < n + 1 by omega]
    · rw [if_neg h]
      by_cases e : k = n
      · subst e
        cases hg : g k <;> simp [hg]
      · have e2 : ¬ k < n + 1 := by omega
        obtain ⟨m, hm⟩ : ∃ m, k - n = m + 1 := ⟨k - n - 1, by omega⟩
        rw [hm]
        simp only [e2, decide_false, Bool.false_and]
        split <;> simp [Nat.testBit_succ]
theorem wd_ex (g : Nat → Bool) (n : Nat) : ∃ x, x < 2 ^ n ∧ ∀ k, x.testBit k = (decide (k < n) && g k) := ⟨wdR g n, wdR_lt g n, fun k => wdR_bit g k n⟩
noncomputable def wdN (g : Nat → Bool) (n : Nat) : Nat := Classical.choose (wd_ex g n)
theorem wdN_lt (g : Nat → Bool) (n : Nat) : wdN g n < 2 ^ n := (Classical.choose_spec (wd_ex g n)).1
theorem wdN_bit (g : Nat → Bool) (k n : Nat) : (wdN g n).testBit k = (decide (k < n) && g k) := (Classical.choose_spec (wd_ex g n)).2 k
theorem wdN_congr {f g : Nat → Bool} {n : Nat} (h : ∀ k, k < n → f k = g k) : wdN f n = wdN g n := by
  apply Nat.eq_of_testBit_eq
  intro i
  rw [wdN_bit, wdN_bit]
  by_cases e : i < n
  · rw [h i e]
  · simp [e]
theorem p64 : (2 : Nat) ^ 64 = 18446744073709551616 := by decide
theorem wrap_nat {x : Nat} (h : x < 2 ^ 64) : IntKind.u64.wrap (x : Int) = (x : Int) := by
  rw [p64] at h
  exact wu64 (by omega) (by omega)
theorem ofInt_nat (x : Nat) : BitVec.ofInt 64 (x : Int) = BitVec.ofNat 64 x := by rw [BitVec.ofInt_natCast]
theorem and64 {x y : Nat} (hx : x < 2 ^ 64) (hy : y < 2 ^ 64) : bAnd .u64 (x : Int) (y : Int) = ((x &&& y : Nat) : Int) := by
  unfold bAnd
  show IntKind.u64.wrap (((BitVec.ofInt 64 (x : Int) &&& BitVec.ofInt 64 (y : Int)).toNat : Nat) : Int) = _
  rw [ofInt_nat, ofInt_nat, BitVec.toNat_and, BitVec.toNat_ofNat, BitVec.toNat_ofNat, Nat.mod_eq_of_lt hx, Nat.mod_eq_of_lt hy]
  exact wrap_nat (Nat.lt_of_le_of_lt Nat.and_le_left hx)
theorem or64 {x y : Nat} (hx : x < 2 ^ 64) (hy : y < 2 ^ 64) : bOr .u64 (x : Int) (y : Int) = ((x ||| y : Nat) : Int) := by
  unfold bOr
  show IntKind.u64.wrap (((BitVec.ofInt 64 (x : Int) ||| BitVec.ofInt 64 (y : Int)).toNat : Nat) : Int) = _
  rw [ofInt_nat, ofInt_nat, BitVec.toNat_or, BitVec.toNat_ofNat, BitVec.toNat_ofNat, Nat.mod_eq_of_lt hx, Nat.mod_eq_of_lt hy]
  exact wrap_nat (Nat.or_lt_two_pow hx hy)
theorem shl64 {k : Nat} (hk : k < 64) : shL .u64 1 (k : Int) = ((2 ^ k : Nat) : Int) := by
  unfold shL
  show IntKind.u64.wrap (1 * 2 ^ min ((k : Int).toNat) 64) = _
  rw [Int.toNat_natCast, Nat.min_eq_left (Nat.le_of_lt hk), Int.one_mul]
  have : ((2 : Int) ^ k) = ((2 ^ k : Nat) : Int) := by simp
  rw [this]
  exact wrap_nat (Nat.pow_lt_pow_right (by decide) hk)
theorem pow_lt64 {k : Nat} (hk : k < 64) : 2 ^ k < 2 ^ 64 := Nat.pow_lt_pow_right (by decide) hk
theorem or_wd {g : Nat → Bool} {r : Nat} (hr : r < 64) : bOr .u64 ((wdN g 64 : Nat) : Int) (shL .u64 1 (r : Int)) = ((wdN (fun k => g k || decide (k = r)) 64 : Nat) : Int) := by
  rw [shl64 hr, or64 (wdN_lt g 64) (pow_lt64 hr)]
  refine congrArg (fun n : Nat => (n : Int)) ?_
  apply Nat.eq_of_testBit_eq
  intro i
  rw [Nat.testBit_or, wdN_bit, wdN_bit, Nat.testBit_two_pow]
  by_cases h : i < 64
  · by_cases e : r = i <;> simp [h, e, eq_comm]
  · simp [h, show ¬ r = i by omega]
theorem low_split {x : Nat} (h : x ≠ 0) : ∃ k q, x = 2 ^ k * (2 * q + 1) := by
  induction x using Nat.strongRecOn with
  | _ x ih =>
    by_cases e : x % 2 = 1
    · exact ⟨0, x / 2, by omega⟩
    · obtain ⟨k, q, hk⟩ := ih (x / 2) (by omega) (by omega)
      exact ⟨k + 1, q, by rw [Nat.pow_succ, Nat.mul_comm (2 ^ k) 2, Nat.mul_assoc, ← hk]; omega⟩
theorem tb0 (k a j : Nat) : (2 ^ k * a).testBit j = if j < k then false else a.testBit (j - k) := by
  have := Nat.testBit_two_pow_mul_add a (show 0 < 2 ^ k from Nat.pow_pos (by decide)) j
  simpa using this
theorem low_and (k q : Nat) : (2 ^ k * (2 * q + 1)) &&& (2 ^ k * (2 * q + 1) - 1) = 2 ^ k * (2 * q) := by
  have hp : 0 < 2 ^ k := Nat.pow_pos (by decide)
  have e2 : 2 ^ k * (2 * q + 1) - 1 = 2 ^ k * (2 * q) + (2 ^ k - 1) := by rw [Nat.mul_add]; omega
  apply Nat.eq_of_testBit_eq
  intro j
  rw [Nat.testBit_and, e2, Nat.testBit_two_pow_mul_add _ (by omega : 2 ^ k - 1 < 2 ^ k), tb0, tb0]
  by_cases h : j < k
  · simp [h]
  · rw [if_neg h, if_neg h, if_neg h]
    cases hm : j - k with
    | zero => simp [Nat.testBit_zero]
    | succ m =>
      rw [Nat.testBit_succ, Nat.testBit_succ, show (2 * q + 1) / 2 = q by omega, show 2 * q / 2 = q by omega, Bool.and_self]
theorem low_neg {k q : Nat} (h : 2 ^ k * (2 * q + 1) < 2 ^ 64) : k < 64 ∧ (2 ^ k * (2 * q + 1)) &&& (2 ^ 64 - 2 ^ k * (2 * q + 1)) = 2 ^ k := by
  have hk : k < 64 := by
    by_cases hk : k < 64
    · exact hk
    · have : 2 ^ 64 ≤ 2 ^ k := Nat.pow_le_pow_right (by decide) (by omega)
      have h2 : 2 ^ k * 1 ≤ 2 ^ k * (2 * q + 1) := Nat.mul_le_mul_left _ (by omega)
      omega
  refine ⟨hk, ?_⟩
  have hp : 0 < 2 ^ k := Nat.pow_pos (by decide)
  have es : 2 ^ 64 = 2 ^ k * 2 ^ (64 - k) := by rw [← Nat.pow_add]; congr 1; omega
  have hq : 2 * q + 1 < 2 ^ (64 - k) := by
    rw [es] at h
    exact Nat.lt_of_mul_lt_mul_left h
  have e2 : 2 ^ 64 - 2 ^ k * (2 * q + 1) = 2 ^ k * (2 ^ (64 - k) - (2 * q + 1)) := by rw [es, Nat.mul_sub]
  apply Nat.eq_of_testBit_eq
  intro j
  rw [Nat.testBit_and, e2, tb0, tb0, Nat.testBit_two_pow]
  by_cases hj : j < k
  · simp [hj, show ¬ k = j by omega]
  · rw [if_neg hj, if_neg hj, Nat.testBit_two_pow_sub_succ (by omega : 2 * q < 2 ^ (64 - k))]
    cases hm : j - k with
    | zero => simp [Nat.testBit_zero, show k = j by omega, show 0 < 64 - j by omega]
    | succ m =>
      rw [Nat.testBit_succ, Nat.testBit_succ, show (2 * q + 1) / 2 = q by omega, show 2 * q / 2 = q by omega]
      have : ¬ k = j := by omega
      cases q.testBit m <;> simp [this]
theorem tz_tab : ∀ k : Fin 64, shR .u64 (IntKind.u64.wrap (((2 ^ (k : Nat) : Nat) : Int) * 285870213051353865)) 58 = (((2 ^ (k : Nat) * 285870213051353865) % 2 ^ 64 / 2 ^ 58 : Nat) : Int) ∧ (2 ^ (k : Nat) * 285870213051353865) % 2 ^ 64 / 2 ^ 58 < 64 ∧ Arr.get tabG0 (((2 ^ (k : Nat) * 285870213051353865) % 2 ^ 64 / 2 ^ 58 : Nat) : Int) = ((k : Nat) : Int) := by decide +kernel
theorem tz_eq {fu k q : Nat} (h : 2 ^ k * (2 * q + 1) < 2 ^ 64) : bits_TrailingZeros64.f fu ((2 ^ k * (2 * q + 1) : Nat) : Int) = some (k : Int) := by
  unfold bits_TrailingZeros64.f
  obtain ⟨hk, ha⟩ := low_neg h
  have hp : 0 < 2 ^ k := Nat.pow_pos (by decide)
  have h0 : ¬ ((2 ^ k * (2 * q + 1) : Nat) : Int) = 0 := by
    intro e
    have : 2 ^ k * (2 * q + 1) = 0 := by exact_mod_cast e
    have h2 : 2 ^ k * 1 ≤ 2 ^ k * (2 * q + 1) := Nat.mul_le_mul_left _ (by omega)
    omega
  have hw : IntKind.u64.wrap (-((2 ^ k * (2 * q + 1) : Nat) : Int)) = ((2 ^ 64 - 2 ^ k * (2 * q + 1) : Nat) : Int) := by
    generalize 2 ^ k * (2 * q + 1) = x at *
    have hx : 0 < x := by omega
    rw [p64] at *
    unfold IntKind.wrap
    simp only [IntKind.signed, IntKind.bits]
    simp
    omega
  rw [decide_eq_false h0, if_neg (by decide), hw, and64 h (by rw [p64] at *; have : 2 ^ k * 1 ≤ 2 ^ k * (2 * q + 1) := Nat.mul_le_mul_left _ (by omega); omega), ha]
  obtain ⟨t1, t2, t3⟩ := tz_tab ⟨k, hk⟩
  simp only at t1 t2 t3
  rw [t1, t3, if_pos ⟨by omega, by omega⟩, w64 (by omega) (by omega)]
def mm (c : Nat) : Nat → Nat
  | 0 => 0
  | n + 1 => 256 * mm c n + c
def f1 (n x : Nat) : Nat := ((x / 2) &&& mm 85 n) + (x &&& mm 85 n)
def f2 (n x : Nat) : Nat := ((x / 4) &&& mm 51 n) + (x &&& mm 51 n)
def f3 (n x : Nat) : Nat := (x / 16 + x) &&& mm 15 n
def pc (b : Nat) : Nat := ((List.range 8).filter fun k => b.testBit k).length
theorem t51 : ∀ (b : Fin 256) (r : Fin 4), (64 * (r : Nat) + (b : Nat) / 4) &&& 51 = ((b : Nat) / 4) &&& 51 := by decide +kernel
theorem t15 : ∀ (b : Fin 69) (r : Fin 5), (16 * (r : Nat) + (b : Nat) / 16 + (b : Nat)) &&& 15 = ((b : Nat) / 16 + (b : Nat)) &&& 15 := by decide +kernel
theorem tb : ∀ b : Fin 256, f1 1 b < 256 ∧ f2 1 (f1 1 b) < 69 ∧ f2 1 (f1 1 b) % 16 ≤ 4 ∧ f3 1 (f2 1 (f1 1 b)) = pc b ∧ pc b ≤ 8 := by decide +kernel
def cnt (g : Nat → Bool) (n : Nat) : Nat := ((List.range n).filter g).length
def fe (x : Nat) : Nat := x + x / 65536
noncomputable def wordAt (f : Nat → Bool) (j : Nat) : Nat := wdN (fun k => f (64 * j + k)) 64
noncomputable def wordsOf (f : Nat → Bool) (m : Nat) : List Int := (List.range m).map fun j => ((wordAt f j : Nat) : Int)
noncomputable def setOf (n : Nat) (f : Nat → Bool) : S_bits_Set := ⟨(n : Int), wordsOf f ((n + 63) / 64)⟩
def els (n : Nat) (f : Nat → Bool) : List Int := ((List.range n).filter f).map fun (k : Nat) => (k : Int)
def Low (n : Nat) (f : Nat → Bool) : Prop := ∀ k, f k = true → k < n
def addF (n : Nat) (f : Nat → Bool) (l : List Int) : Nat → Bool := fun k => f k || (decide (k < n) && decide ((k : Int) ∈ l))
def dropF (f : Nat → Bool) (l : List Int) : Nat → Bool := fun k => f k && !decide ((k : Int) ∈ l)
def hasI (n : Nat) (f : Nat → Bool) (k : Int) : Bool := decide (0 ≤ k) && (decide (k < (n : Int)) && f k.toNat)
theorem words_len (f : Nat → Bool) (m : Nat) : (wordsOf f m).length = m := by simp [wordsOf]
theorem words_ix {f : Nat → Bool} {m j : Nat} (h : j < m) : ix (wordsOf f m) (j : Int) = ((wordAt f j : Nat) : Int) := by
  rw [ix_nat (by rw [words_len]; exact h)]
  simp [wordsOf]
theorem word_congr {f g : Nat → Bool} {j : Nat} (h : ∀ k, k < 64 → f (64 * j + k) = g (64 * j + k)) : wordAt f j = wordAt g j := wdN_congr h
theorem words_congr {f g : Nat → Bool} {m : Nat} (h : ∀ k, k < 64 * m → f k = g k) : wordsOf f m = wordsOf g m := by
  unfold wordsOf
  apply List.map_congr_left
  intro j hj
  have := List.mem_range.1 hj
  rw [word_congr fun k hk => h _ (by omega)]
theorem set_congr {f g : Nat → Bool} {n : Nat} (h : ∀ k, f k = g k) : setOf n f = setOf n g := by
  rw [show f = g from funext h]
theorem words_set {f : Nat → Bool} {m k : Nat} {v : Nat} (hk : k / 64 < m) (g : Nat → Bool) (hv : v = wordAt g (k / 64)) (hg : ∀ i, i / 64 ≠ k / 64 → g i = f i) : (wordsOf f m).set (k / 64) ((v : Nat) : Int) = wordsOf g m := by
  apply List.ext_getElem (by simp [wordsOf])
  intro j h1 h2
  rw [List.getElem_set]
  simp only [wordsOf, List.getElem_map, List.getElem_range]
  by_cases e : k / 64 = j
  · rw [if_pos e, hv, e]
  · rw [if_neg e, word_congr fun i hi => (hg (64 * j + i) (by omega)).symm]
theorem tdiv64 (k : Nat) : Int.tdiv (k : Int) 64 = ((k / 64 : Nat) : Int) := by
  rw [Int.tdiv_eq_ediv_of_nonneg (by omega)]
  omega
theorem tmod64 (k : Nat) : Int.tmod (k : Int) 64 = ((k % 64 : Nat) : Int) := by
  rw [Int.tmod_eq_emod_of_nonneg (by omega)]
  omega
theorem may_b {fu : Nat} {s : S_bits_Set} {k : Int} : bits_Set_may.f fu s k = some (decide (0 ≤ k) && decide (k < s.size)) := by
  unfold bits_Set_may.f
  by_cases h : k ≥ 0
  · have h' : 0 ≤ k := h
    simp [h']
  · have h' : ¬ 0 ≤ k := h
    simp [h']
theorem one_eq {n : Nat} {f : Nat → Bool} {x : Int} {fu : Nat} (hn : n ≤ 100000) (op : Int → Int → Int) (g : Bool → Bool → Bool) (hop : ∀ (g' : Nat → Bool) (r : Nat), r < 64 → op ((wdN g' 64 : Nat) : Int) (shL .u64 1 (r : Int)) = ((wdN (fun k => g (g' k) (decide (k = r))) 64 : Nat) : Int)) (hg : ∀ b, g b false = b) :
    ((if (decide (0 ≤ x) && decide (x < (n : Int))) = true then if 0 ≤ (IntKind.i64.wrap (Int.tdiv x 64)) ∧ (IntKind.i64.wrap (Int.tdiv x 64)) < (List.length (wordsOf f ((n + 63) / 64)) : Int) then if 0 ≤ (Int.tmod x 64) then if 0 ≤ (IntKind.i64.wrap (Int.tdiv x 64)) ∧ (IntKind.i64.wrap (Int.tdiv x 64)) < (List.length (wordsOf f ((n + 63) / 64)) : Int) then some ((List.set (wordsOf f ((n + 63) / 64)) (Int.toNat (IntKind.i64.wrap (Int.tdiv x 64))) (op (ix (wordsOf f ((n + 63) / 64)) (IntKind.i64.wrap (Int.tdiv x 64))) (shL .u64 1 (Int.tmod x 64))))) else none else none else none else some (wordsOf f ((n + 63) / 64))) : Option (List Int)) =
      some (wordsOf (fun k => g (f k) (decide (k < n) && decide ((k : Int) = x))) ((n + 63) / 64)) := by
  by_cases h : 0 ≤ x ∧ x < (n : Int)
  · obtain ⟨j, rfl⟩ : ∃ j : Nat, x = (j : Int) := ⟨x.toNat, by omega⟩
    have hj : j / 64 < (n + 63) / 64 := by omega
    rw [decide_eq_true h.1, decide_eq_true h.2, Bool.true_and, if_pos rfl, tdiv64, tmod64, w64 (by omega) (by omega), if_pos ⟨by omega, by rw [words_len]; omega⟩, if_pos (by omega), if_pos ⟨by omega, by rw [words_len]; omega⟩, words_ix hj, Int.toNat_natCast]
    unfold wordAt
    rw [hop _ _ (by omega)]
    refine congrArg some (words_set hj _ ?_ ?_)
    rotate_left
    · intro i hi
      have : ¬ ((i : Int) = (j : Int)) := by omega
      simp [this, hg]
    · unfold wordAt
      refine wdN_congr fun k hk => ?_
      congr 1
      by_cases e : k = j % 64
      · have e1 : 64 * (j / 64) + k = j := by omega
        have e2 : j < n := by omega
        rw [e1, decide_eq_true e2, decide_eq_true e, decide_eq_true (rfl : (j : Int) = (j : Int))]
        rfl
      · have e1 : ¬ ((64 * (j / 64) + k : Nat) : Int) = (j : Int) := by omega
        simp only [e, e1, decide_false, Bool.and_false]
  · have hb : (decide (0 ≤ x) && decide (x < (n : Int))) = false := by
      by_cases h0 : 0 ≤ x
      · rw [decide_eq_false (fun q => h ⟨h0, q⟩), Bool.and_false]
      · rw [decide_eq_false h0, Bool.false_and]
    rw [hb, if_neg (by decide)]
    refine congrArg some (words_congr fun k _ => ?_)
    have : (decide (k < n) && decide ((k : Int) = x)) = false := by
      by_cases e : (k : Int) = x
      · have : ¬ k < n := by omega
        simp [this]
      · simp [e]
    rw [this, hg]
theorem add_eq {fu n : Nat} {f : Nat → Bool} {l : List Int} (hn : n ≤ 100000) (hl : l.length ≤ 100000) (hf : l.length < fu) : bits_Set_Add.f fu (setOf n f) l = some (setOf n (addF n f l)) := by
  unfold bits_Set_Add.f
  have : loopM (bits_Set_Add.s0 fu (setOf n f) l) fu (0, (setOf n f).words) = some (wordsOf (addF n f l) ((n + 63) / 64)) := by
    refine loopM_run (S := fun j => ((j : Int), wordsOf (addF n f (l.take j)) ((n + 63) / 64))) l.length ?_ ?_ ?_ hf
    · simp only [show wordsOf (addF n f (l.take 0)) ((n + 63) / 64) = wordsOf f ((n + 63) / 64) from words_congr fun k _ => by simp [addF]]
      rfl
    · intro j hj
      unfold bits_Set_Add.s0
      have c1 : 0 ≤ (j : Int) ∧ (j : Int) < (l.length : Int) := by omega
      simp only
      rw [decide_eq_true c1.2, if_pos rfl, if_pos c1, ix_nat hj, may_b, next64 hj (by omega)]
      simp only [Option.bind_some]
      rw [show (setOf n f).size = (n : Int) from rfl, one_eq (fu := fu) hn (bOr .u64) (fun a b => a || b) (fun g r hr => or_wd hr) (by simp)]
      simp only [Option.bind_some]
      rw [words_congr fun k _ => show _ = addF n f (l.take (j + 1)) k from ?_]
      simp only [addF, take_next hj, List.mem_append, List.mem_singleton]
      cases f k <;> cases decide (k < n) <;> simp
    · unfold bits_Set_Add.s0
      rw [decide_eq_false (show ¬ ((l.length : Int) < (l.length : Int)) by omega), if_neg (by decide), List.take_length]
  rw [this]
  rfl
theorem filter_first {p q : Nat → Bool} {k n : Nat} (hk : k < n) (h1 : ∀ j, j < k → p j = false) (h2 : p k = true) (h3 : ∀ j, k < j → p j = q j) (h4 : ∀ j, j ≤ k → q j = false) : (List.range n).filter p = k :: (List.range n).filter q := by
  obtain ⟨m, rfl⟩ : ∃ m, n = k + 1 + m := ⟨n - (k + 1), by omega⟩
  have e1 : (List.range k).filter p = [] := by
    rw [List.filter_eq_nil_iff]
    intro j hj
    rw [h1 j (List.mem_range.1 hj)]
    decide
  have e2 : (List.range (k + 1)).filter q = [] := by
    rw [List.filter_eq_nil_iff]
    intro j hj
    rw [h4 j (by have := List.mem_range.1 hj; omega)]
    decide
  rw [List.range_add, List.filter_append, List.filter_append, e2, List.range_succ, List.filter_append, e1]
  simp only [List.filter_cons, h2, if_true, List.filter_nil, List.nil_append, List.cons_append, List.cons.injEq, true_and]
  apply List.filter_congr
  intro j hj
  obtain ⟨i, _, rfl⟩ := List.mem_map.1 hj
  exact h3 _ (by omega)
theorem low_bits {k q : Nat} (h : 2 ^ k * (2 * q + 1) < 2 ^ 64) : (List.range 64).filter (fun r => (2 ^ k * (2 * q + 1)).testBit r) = k :: (List.range 64).filter (fun r => (2 ^ k * (2 * q)).testBit r) := by
  refine filter_first (low_neg h).1 (fun j hj => ?_) ?_ (fun j hj => ?_) (fun j hj => ?_)
  · rw [tb0, if_pos hj]
  · rw [tb0, if_neg (by omega), Nat.sub_self, Nat.testBit_zero]
    simp
  · rw [tb0, tb0, if_neg (by omega), if_neg (by omega)]
    obtain ⟨m, hm⟩ : ∃ m, j - k = m + 1 := ⟨j - k - 1, by omega⟩
    rw [hm, Nat.testBit_succ, Nat.testBit_succ, show (2 * q + 1) / 2 = q by omega, show 2 * q / 2 = q by omega]
  · rw [tb0]
    split
    · rfl
    · rw [show j - k = 0 by omega, Nat.testBit_zero]
      simp
theorem list_in {fu i : Nat} {s : List Int × Int} (hs : s.2 = (i : Int)) (hi : i ≤ 100000) : ∀ (c x k : Nat) (acc : List Int), x < 2 ^ 64 → ((List.range 64).filter fun r => x.testBit r).length = c → c < k → acc.length + c ≤ 1000000 →
    loopM (bits_Set_List.s1 fu s) k (acc, (x : Int)) = some (acc ++ ((List.range 64).filter fun r => x.testBit r).map fun r => ((64 * i + r : Nat) : Int))
  | c, x, 0, acc, hx, hc, hk, ha => by omega
  | c, x, k + 1, acc, hx, hc, hk, ha => by
    unfold loopM
    by_cases e : x = 0
    · subst e
      have : bits_Set_List.s1 fu s (acc, ((0 : Nat) : Int)) = some (.inl acc) := by
        unfold bits_Set_List.s1
        rfl
      rw [this]
      simp
    · obtain ⟨t, q, hx'⟩ := low_split e
      rw [hx'] at hx hc ⊢
      have hl := low_bits hx
      have ht := (low_neg hx).1
      have h0 : ¬ ((2 ^ t * (2 * q + 1) : Nat) : Int) = 0 := by
        intro z
        rw [← hx'] at z
        omega
      have hpos : 0 < 2 ^ t * (2 * q + 1) := by omega
      have hlt : 2 ^ t * (2 * q) < 2 ^ 64 := Nat.lt_of_le_of_lt (Nat.mul_le_mul_left _ (by omega)) hx
      have hw : IntKind.u64.wrap (((2 ^ t * (2 * q + 1) : Nat) : Int) - 1) = ((2 ^ t * (2 * q + 1) - 1 : Nat) : Int) := by
        have : ((2 ^ t * (2 * q + 1) : Nat) : Int) - 1 = ((2 ^ t * (2 * q + 1) - 1 : Nat) : Int) := by omega
        rw [this]
        exact wrap_nat (by omega)
      have hst : bits_Set_List.s1 fu s (acc, ((2 ^ t * (2 * q + 1) : Nat) : Int)) = some (.inr (acc ++ [((64 * i + t : Nat) : Int)], ((2 ^ t * (2 * q) : Nat) : Int))) := by
        unfold bits_Set_List.s1
        simp only
        rw [decide_eq_false h0, Bool.not_false, if_pos rfl, tz_eq hx]
        simp only [Option.bind_some]
        rw [hs, w64 (n := (i : Int) * 64) (by omega) (by omega), w64 (by omega) (by omega), hw, and64 hx (by omega), low_and, show (i : Int) * 64 + (t : Int) = ((64 * i + t : Nat) : Int) by omega]
        rw [if_pos (Nat.le_trans (by simp only [List.length_cons, List.length_nil]; omega : _ ≤ 1000001) (by decide))]
      rw [hst, hl]
      rw [hl, List.length_cons] at hc
      have ih := list_in (fu := fu) hs hi (c - 1) (2 ^ t * (2 * q)) k (acc ++ [((64 * i + t : Nat) : Int)]) hlt (by omega) (by omega) (by simp only [List.length_append, List.length_cons, List.length_nil]; omega)
      simp only
      rw [ih]
      simp
theorem els_add (f : Nat → Bool) (m n : Nat) : els (m + n) f = els m f ++ ((List.range n).filter fun k => f (m + k)).map fun k => ((m + k : Nat) : Int) := by
  unfold els
  rw [List.range_add, List.filter_append, List.map_append, List.filter_map, List.map_map]
  rfl
theorem els_len (n : Nat) (f : Nat → Bool) : (els n f).length = cnt f n := by simp [els, cnt]
theorem els_low {f : Nat → Bool} {n m : Nat} (h : Low n f) (hm : n ≤ m) : els m f = els n f := by
  obtain ⟨k, rfl⟩ : ∃ k, m = n + k := ⟨m - n, by omega⟩
  rw [els_add]
  have : (List.range k).filter (fun k => f (n + k)) = [] := by
    rw [List.filter_eq_nil_iff]
    intro i _ hi
    have := h _ hi
    omega
  rw [this]
  simp
theorem cnt_le (f : Nat → Bool) (n : Nat) : cnt f n ≤ n := by
  unfold cnt
  exact Nat.le_trans (List.length_filter_le _ _) (by simp)
theorem list_eq {fu n : Nat} {f : Nat → Bool} (hn : n ≤ 100000) (hf : n + 64 < fu) (hlow : Low n f) : bits_Set_List.f fu (setOf n f) = some (els n f) := by
  unfold bits_Set_List.f
  have : loopM (bits_Set_List.s0 fu (setOf n f)) fu ([], 0) = some (els (64 * ((n + 63) / 64)) f) := by
    refine loopM_run (S := fun j => (els (64 * j) f, (j : Int))) ((n + 63) / 64) (by simp [els]) ?_ ?_ (by omega)
    · intro j hj
      unfold bits_Set_List.s0
      have hw : (setOf n f).words = wordsOf f ((n + 63) / 64) := rfl
      have c1 : 0 ≤ (j : Int) ∧ (j : Int) < ((wordsOf f ((n + 63) / 64)).length : Int) := by rw [words_len]; omega
      simp only [hw]
      have hb : ((List.range 64).filter fun r => (wordAt f j).testBit r) = (List.range 64).filter fun r => f (64 * j + r) := by
        apply List.filter_congr
        intro r hr
        unfold wordAt
        rw [wdN_bit]
        simp [List.mem_range.1 hr]
      have hle : ((List.range 64).filter fun r => (wordAt f j).testBit r).length ≤ 64 := Nat.le_trans (List.length_filter_le _ _) (by simp)
      have hel : (els (64 * j) f).length ≤ 64 * j := by rw [els_len]; exact cnt_le _ _
      rw [decide_eq_true c1.2, if_pos rfl, if_pos c1, words_ix hj, list_in (fu := fu) (i := j) (s := (els (64 * j) f, (j : Int))) rfl (by omega) _ (wordAt f j) fu (els (64 * j) f) (wdN_lt _ 64) rfl (by omega) (by omega), next64 hj (by omega)]
      simp only [Option.bind_some]
      rw [hb, ← els_add, show 64 * j + 64 = 64 * (j + 1) by omega]
    · unfold bits_Set_List.s0
      have hw : (setOf n f).words = wordsOf f ((n + 63) / 64) := rfl
      simp only [hw]
      rw [words_len, decide_eq_false (by omega), if_neg (by decide)]
  rw [this, els_low hlow (by omega)]
  rfl
theorem mem_els {n k : Nat} {f : Nat → Bool} : (k : Int) ∈ els n f ↔ k < n ∧ f k = true := by
  unfold els
  rw [List.mem_map]
  constructor
  · rintro ⟨i, hi, e⟩
    have : i = k := by omega
    subst this
    obtain ⟨h1, h2⟩ := List.mem_filter.1 hi
    exact ⟨List.mem_range.1 h1, h2⟩
  · rintro ⟨h1, h2⟩
    exact ⟨k, List.mem_filter.2 ⟨List.mem_range.2 h1, h2⟩, rfl⟩
theorem clone_eq {fu n : Nat} {f : Nat → Bool} (hn : n ≤ 100000) : bits_Set_clone.f fu (setOf n f) = some (setOf n f) := by
  unfold bits_Set_clone.f slices_Clone.f
  rw [show (setOf n f).words = wordsOf f ((n + 63) / 64) from rfl, words_len, if_pos (Nat.le_trans (by omega : _ ≤ 1000000) (by decide))]
  rfl
theorem with_eq {fu n : Nat} {f g : Nat → Bool} (hn : n ≤ 90000) (hf : n + 64 < fu) (hg : Low n g) : bits_Set_With.f fu (setOf n f) (setOf n g) = some (setOf n fun k => f k || g k) := by
  unfold bits_Set_With.f
  have hl := cnt_le g n
  rw [clone_eq (by omega), list_eq (by omega) hf hg]
  simp only [Option.bind_some]
  rw [add_eq (by omega) (by rw [els_len]; omega) (by rw [els_len]; omega)]
  refine congrArg some (set_congr fun k => ?_)
  unfold addF
  congr 1
  rw [Bool.eq_iff_iff]
  simp only [Bool.and_eq_true, decide_eq_true_eq, mem_els]
  exact ⟨fun h => h.2.2, fun h => ⟨hg k h, hg k h, h⟩⟩
theorem with1_eq {fu n : Nat} {f : Nat → Bool} (hn : n ≤ 90000) (hf : n + 64 < fu) (hg : Low n f) : bits_Set_With_a1.f fu (setOf n f) = some (setOf n f) := by
  have h := with_eq (fu := fu) (f := f) hn hf hg
  unfold bits_Set_With.f at h
  unfold bits_Set_With_a1.f
  rw [h]
  refine congrArg some (set_congr fun k => ?_)
  simp
theorem of_eq {fu n : Nat} {l : List Int} (hn : n ≤ 3072) (hl : l.length ≤ 100000) (hf : l.length < fu) : bits_Of.f fu (n : Int) l = some (setOf n (addF n (fun _ => false) l)) := by
  unfold bits_Of.f
  have e1 : mnI (mxI (n : Int) 0) 3072 = (n : Int) := by
    unfold mxI mnI
    rw [if_neg (by omega)]
    split <;> omega
  have e2 : IntKind.i64.wrap (Int.tdiv (IntKind.i64.wrap ((IntKind.i64.wrap ((n : Int) + 64)) - 1)) 64) = (((n + 63) / 64 : Nat) : Int) := by
    rw [w64 (n := (n : Int) + 64) (by omega) (by omega), w64 (n := (n : Int) + 64 - 1) (by omega) (by omega), show (n : Int) + 64 - 1 = ((n + 63 : Nat) : Int) by omega, tdiv64, w64 (by omega) (by omega)]
  rw [e1, e2, if_pos ⟨by omega, Nat.le_trans (by omega : _ ≤ 100000) (by decide)⟩, Int.toNat_natCast]
  have e3 : (⟨(n : Int), List.replicate ((n + 63) / 64) (0 : Int)⟩ : S_bits_Set) = setOf n fun _ => false := by
    unfold setOf
    congr 1
    apply List.ext_getElem (by simp [wordsOf])
    intro i h1 h2
    have : wordAt (fun _ => false) i = 0 := by
      apply Nat.eq_of_testBit_eq
      intro k
      unfold wordAt
      rw [wdN_bit]
      simp
    simp [wordsOf, this]
  rw [e3, add_eq (by omega) hl hf]
  rfl
end Go.Proofs.YtdifnahlheogdaaDoor.Pure
namespace Go.Proofs.YtdifnahlheogdaaDoor
open Go Go.Xw Go.Yw
end Go.Proofs.YtdifnahlheogdaaDoor
namespace Go.Proofs.YtdifnahlheogdaaDoor.Pure
open Go Go.Xw Go.Yw
structure AA where
  r : Int
  c : Nat → Bool
  e : Nat → Bool
  m : Nat → Bool
  w : Nat → Bool
noncomputable def AA.of (n : Nat) (a : AA) : S_alloc_Alloc := ⟨a.r, (setOf n a.c, setOf n a.e, setOf n a.m, setOf n a.w)⟩
structure AOk (n : Nat) (a : AA) : Prop where
  c : Low n a.c
  e : Low n a.e
  m : Low n a.m
  w : Low n a.w
  r : 0 ≤ a.r ∧ a.r ≤ 1000
def AA.held (a : AA) : Nat → Bool := fun k => ((a.w k || a.c k) || a.e k) || a.m k
def AA.free (n : Nat) (a : AA) : List Nat := (List.range n).filter fun k => !a.held k
def AA.least (n : Nat) (a : AA) : Nat := (a.free n).headD 0
def AA.setW (a : AA) (w : Nat → Bool) : AA := ⟨a.r, a.c, a.e, a.m, w⟩
def AA.put (n : Nat) (a : AA) (k : Nat) : AA := a.setW (addF n a.w [(k : Int)])
def AA.cut (a : AA) (k : Int) : AA := a.setW (dropF a.w [k])
def AA.own (n : Nat) (a : AA) (k : Int) : Bool := hasI n a.w k && !hasI n a.m k
def AA.take (n : Nat) (a : AA) : Int × Int × AA := if ((a.free n).length : Int) ≤ a.r then (0, 10, a) else ((a.least n : Int), 0, a.put n (a.least n))
theorem copied_eq {fu n : Nat} {f : Nat → Bool} (hn : n ≤ 90000) (hf : n + 64 < fu) (h : Low n f) : alloc_copied.f fu (setOf n f) = some (setOf n f) := by
  unfold alloc_copied.f
  rw [with1_eq hn hf h]
  rfl
theorem Low.or {n : Nat} {f g : Nat → Bool} (hf : Low n f) (hg : Low n g) : Low n (fun k => f k || g k) := by
  intro k h
  rcases Bool.or_eq_true_iff.1 h with h | h
  · exact hf k h
  · exact hg k h
theorem addF_low {n : Nat} {f : Nat → Bool} {l : List Int} (h : Low n f) : Low n (addF n f l) := by
  intro k hk
  unfold addF at hk
  rcases Bool.or_eq_true_iff.1 hk with h' | h'
  · exact h k h'
  · exact of_decide_eq_true (Bool.and_eq_true_iff.1 h').1
theorem works_eq {fu n : Nat} {a : AA} (hn : n ≤ 90000) (hf : n + 64 < fu) (h : AOk n a) : alloc_Alloc_Works.f fu (a.of n) = some (setOf n a.w) := by
  unfold alloc_Alloc_Works.f
  rw [show (a.of n).sets.2.2.2 = setOf n a.w from rfl, copied_eq hn hf h.w]
  rfl
theorem anew_eq {fu n : Nat} {f g : Nat → Bool} {r : Int} (hn : n ≤ 90000) (hf : n + 64 < fu) (h1 : Low n f) (h2 : Low n g) (hr : 0 ≤ r) : alloc_New.f fu (setOf n f) (setOf n g) r = some (some ((⟨r, f, g, f, f⟩ : AA).of n), 0) := by
  unfold alloc_New.f bits_Set_Size.f
  simp only [Option.bind_some]
  rw [show (setOf n f).size = (n : Int) from rfl, show (setOf n g).size = (n : Int) from rfl, decide_eq_true (rfl : (n : Int) = (n : Int)), if_neg (by decide), decide_eq_false (show ¬ r < 0 by omega), if_neg (by decide), copied_eq hn hf h2, copied_eq hn hf h1]
  rfl
def upd {α : Type} (g : Nat → α → α) (lo j : Nat) (cs : List α) : List α := cs.mapIdx fun i c => if lo ≤ i ∧ i < lo + j then g i c else c
theorem upd_get {α : Type} (g : Nat → α → α) (lo j : Nat) (cs : List α) (i : Nat) (h : i < (upd g lo j cs).length) : (upd g lo j cs)[i] = if lo ≤ i ∧ i < lo + j then g i (cs[i]'(by simpa [upd] using h)) else cs[i]'(by simpa [upd] using h) := by
  simp only [upd, List.getElem_mapIdx]
theorem upd_same {α : Type} (g : Nat → α → α) (lo j : Nat) (cs : List α) (h : lo + j < cs.length) (e : g (lo + j) cs[lo + j] = cs[lo + j]) : upd g lo j cs = upd g lo (j + 1) cs := by
  apply List.ext_getElem (by simp [upd])
  intro i h1 h2
  rw [upd_get g lo j, upd_get g lo (j + 1)]
  by_cases e' : lo + j = i
  · subst e'
    rw [if_neg (by omega), if_pos (by omega), e]
  · by_cases c : lo ≤ i ∧ i < lo + j
    · rw [if_pos c, if_pos (by omega)]
    · rw [if_neg c, if_neg (by omega)]
theorem getD_set {α : Type} (cs : List α) (i k : Nat) (v d : α) (hi : i < cs.length) : (cs.set i v).getD k d = if i = k then v else cs.getD k d := by
  simp only [List.getD_eq_getElem?_getD, List.getElem?_set]
  by_cases h : i = k
  · subst h
    simp [hi]
  · simp [h]
end Go.Proofs.YtdifnahlheogdaaDoor.Pure
namespace Go.Proofs.YtdifnahlheogdaaDoor
open Go Go.Xw Go.Yw
end Go.Proofs.YtdifnahlheogdaaDoor
namespace Go.Proofs.YtdifnahlheogdaaDoor.Pure
open Go Go.Xw Go.Yw
def lay (v n : Nat) : List Int := (List.range n).map fun i => ((v / 256 ^ i % 256 : Nat) : Int)
def num : List Int → Nat
  | [] => 0
  | c :: l => c.toNat + 256 * num l
end Go.Proofs.YtdifnahlheogdaaDoor.Pure
namespace Go.Proofs.YtdifnahlheogdaaDoor
open Go Go.Xw Go.Yw
end Go.Proofs.YtdifnahlheogdaaDoor
namespace Go.Proofs.YtdifnahlheogdaaDoor.Pure
open Go Go.Xw Go.Yw
abbrev Cell := S_pmem_cell
abbrev Dev := S_pmem_Device
def pick (p : S_pmem_plan) : Int := if p.list.length = 0 then -1 else ix p.list p.at_
def U64 (x : Int) : Prop := 0 ≤ x ∧ x ≤ 18446744073709551615
def okC (c : Cell) : Prop := U64 c.lasts ∧ U64 c.stored ∧ U64 c.sent
structure DevOk (n : Nat) (B : Int) (d : Dev) : Prop where
  len : d.cells.length = n
  val : ∀ c ∈ d.cells, okC c
  at0 : d.plan.list.length ≠ 0 → 0 ≤ d.plan.at_ ∧ d.plan.at_ < (d.plan.list.length : Int)
  pl : d.plan.list.length ≤ 1000
  arm : d.armed = true → 0 ≤ d.left ∧ d.left ≤ 9223372036854775807 ∧ d.off = decide (d.left = 0)
  una : d.armed = false → d.off = false
  st : 0 ≤ d.steps ∧ d.steps ≤ B
theorem DevOk.up {n : Nat} {B C : Int} {d : Dev} (h : DevOk n B d) (hc : B ≤ C) : DevOk n C d := ⟨h.len, h.val, h.at0, h.pl, h.arm, h.una, ⟨h.st.1, by have := h.st; omega⟩⟩
theorem lines_eq {fu : Nat} {d : Dev} (h : d.cells.length ≤ 1000000) : pmem_Device_Lines.f fu d = some ((d.cells.length / 8 : Nat) : Int) := by
  unfold pmem_Device_Lines.f
  rw [Int.tdiv_eq_ediv_of_nonneg (by omega), w64 (by omega) (by omega)]
  congr 1
end Go.Proofs.YtdifnahlheogdaaDoor.Pure
namespace Go.Proofs.YtdifnahlheogdaaDoor
open Go Go.Xw Go.Yw
end Go.Proofs.YtdifnahlheogdaaDoor
namespace Go.Proofs.YtdifnahlheogdaaDoor.Pure
open Go Go.Xw Go.Yw
def newD (n : Nat) : Dev := ⟨List.replicate n ⟨0, 0, 0, false⟩, ⟨[], 0⟩, false, false, 0, 0⟩
theorem new_eq {fu : Nat} {k : Nat} (hk : k ≤ 4096) : pmem_New.f fu (k : Int) = some (some (newD (8 * k)), 0) := by
  unfold pmem_New.f
  have h1 : ¬ (k : Int) < 0 := by omega
  have h2 : ¬ (k : Int) > 4096 := by omega
  have w : IntKind.i64.wrap ((k : Int) * 8) = ((8 * k : Nat) : Int) := by rw [w64 (by omega) (by omega)]; omega
  rw [decide_eq_false h1, decide_eq_false h2, if_neg (by decide), if_neg (by decide), w, Int.toNat_natCast, if_pos ⟨by omega, Nat.le_trans (by omega : _ ≤ 100000) (by decide)⟩]
  rfl
end Go.Proofs.YtdifnahlheogdaaDoor.Pure
namespace Go.Proofs.YtdifnahlheogdaaDoor
open Go Go.Xw Go.Yw
end Go.Proofs.YtdifnahlheogdaaDoor
namespace Go.Proofs.YtdifnahlheogdaaDoor.Pure
open Go Go.Xw Go.Yw
theorem Bytes.drop {l : List Int} (h : Bytes l) (n : Nat) : Bytes (l.drop n) := fun x hx => h x (List.mem_of_mem_drop hx)
theorem Bytes.take {l : List Int} (h : Bytes l) (n : Nat) : Bytes (l.take n) := fun x hx => h x (List.mem_of_mem_take hx)
end Go.Proofs.YtdifnahlheogdaaDoor.Pure
namespace Go.Proofs.YtdifnahlheogdaaDoor
open Go Go.Xw Go.Yw
end Go.Proofs.YtdifnahlheogdaaDoor
namespace Go.Proofs.YtdifnahlheogdaaDoor.Pure
open Go Go.Xw Go.Yw
def inL (d : Dev) (line : Int) : Prop := 0 ≤ line ∧ line < ((d.cells.length / 8 : Nat) : Int)
instance (d : Dev) (line : Int) : Decidable (inL d line) := inferInstanceAs (Decidable (_ ∧ _))
end Go.Proofs.YtdifnahlheogdaaDoor.Pure
namespace Go.Proofs.YtdifnahlheogdaaDoor
open Go Go.Xw Go.Yw
end Go.Proofs.YtdifnahlheogdaaDoor
namespace Go.Proofs.YtdifnahlheogdaaDoor.Pure
open Go Go.Xw Go.Yw
structure Clean (d : Dev) : Prop where
  off : d.off = false
  arm : d.armed = false
  pl : d.plan.list = []
abbrev FU : Nat := 200000
theorem awake19 : rickyardlaw19_awake.f FU = some true := by decide +kernel
def nul (n : Nat) : Nat → Bool := addF n (fun _ => false) []
theorem nul_low (n : Nat) : Low n (nul n) := addF_low fun k h => by cases h
theorem ShadowNew : ∀ (a0 : Int), okv 9 (⟨.int .u8, a0⟩ : PV G.toSg) → ∀ (a1 : Int), okv 9 (⟨.int .u8, a1⟩ : PV G.toSg) → ∃ fu, rickyardlaw19_ShadowNew.f fu a0 a1 = some true := by
  intro a0 h0 a1 h1
  have h0 : 0 ≤ a0 ∧ a0 ≤ 255 := wf8.1 h0
  have h1 : 0 ≤ a1 ∧ a1 ≤ 255 := wf8.1 h1
  refine ⟨FU, ?_⟩
  obtain ⟨p, rfl⟩ : ∃ p : Nat, a0 = (p : Int) := ⟨a0.toNat, by omega⟩
  obtain ⟨n, rfl⟩ : ∃ n : Nat, a1 = (n : Int) := ⟨a1.toNat, by omega⟩
  unfold rickyardlaw19_ShadowNew.f
  rw [awake19]
  simp only [Option.bind_some, Bool.not_true, Bool.false_eq_true, if_false]
  rw [w64 (n := (p : Int)) (by omega) (by omega), w64 (n := (n : Int)) (by omega) (by omega), new_eq (by omega), of_eq (l := []) (by omega) (by decide) (by decide)]
  simp only [Option.bind_some, Option.elim_some]
  have ha : AOk n (⟨0, nul n, nul n, nul n, nul n⟩ : AA) := ⟨nul_low n, nul_low n, nul_low n, nul_low n, by show (0:Int) ≤ 0 ∧ (0:Int) ≤ 1000; decide⟩
  have e0 : (addF n (fun _ => false) []) = nul n := rfl
  have hFU : n + 64 < FU := by show n + 64 < 200000; omega
  rw [e0, anew_eq (by omega) hFU (nul_low n) (nul_low n) (by decide)]
  simp only [Option.bind_some, Option.elim_some, shadow_New_n0.f, shadow_New_n1.f]
  have hl : (newD (8 * p)).cells.length = 8 * p := by simp [newD]
  unfold shadow_New.f
  rw [works_eq (by omega) hFU ha]
  simp only [Option.bind_some, bits_Set_Size.f]
  rw [lines_eq (by omega), hl]
  simp only [Option.bind_some]
  rw [show (setOf n (⟨0, nul n, nul n, nul n, nul n⟩ : AA).w).size = (n : Int) from rfl]
  by_cases e : (n : Int) > (p : Int)
  · rw [decide_eq_true (show ((n : Int) > ((8 * p / 8 : Nat) : Int)) by omega), decide_eq_true e]
    rfl
  · rw [decide_eq_false (show ¬ ((n : Int) > ((8 * p / 8 : Nat) : Int)) by omega), decide_eq_false e]
    rfl
end Go.Proofs.YtdifnahlheogdaaDoor.Pure
namespace Go.Proofs.YtdifnahlheogdaaDoor.shadowNew
open Go.ChangeShapes Go.WideShapes Go.ChangeAt Go.RowKit
open Go.ChangeMaps (open_string shut_string)
open Go Go.Xw Go.Yw
theorem own : ownKnob Tryd.prog.godebug = none := Facts.own
theorem laidOut : laidOutB Tryd.prog = true := Facts.laid
theorem closed : joinedFacts Tryd.pinned.checked.prog 3 Tryd.f3 Rows.shadowNewSpec Rows.shadowNewRow = true := by
  unfold joinedFacts
  rw [Facts.enter, Facts.lifts, Facts.make, Facts.laid, Facts.rowed, Facts.plain, Facts.heard]
  kernel_rfl
set_option maxRecDepth 100000 in
set_option maxHeartbeats 1000000 in
theorem lifted (os : Os) (started : os.Started) (H : Type) (enc : TypeId × Value → H) :
    ReturnsInHanded {} Tryd.checked os 3 .any (fun w args => (Rows.shadowNewSpec.pre enc Tryd.prog Tryd.f3 [] false w args ∧ laidMetH Tryd.prog Laid.L0 w) ∧ sizedMet enc Tryd.prog Tryd.f3 (OpenSpec.ofChange Rows.shadowNewSpec) false w args) (Rows.shadowNewSpec.post enc Tryd.prog Tryd.f3 false true false false) := by
  refine returnsInHanded_of_change_and (C := Tryd.checked) (X := fun w _ => laidMetH Tryd.prog Laid.L0 w) (fun _ _ _ hh h => h.of_heap hh) own started (by kernel_rfl) Tryd.func3
    (ChangeSpec.witness_shaped (enc := enc) (C := Tryd.checked) (os := os) (X := fun w _ => laidMetH Tryd.prog Laid.L0 w) false (World.doorLaid Tryd.prog 400 os) #[.int .u8 0, .int .u8 0] 8 rfl (World.shaped_of_RefB (by kernel_rfl) (by kernel_rfl)) (by kernel_rfl) (by kernel_rfl) (by kernel_rfl) (Laid.met os _)) ?_
  intro W base args ds gs before hval0 hW _ _ hL _
  have hval : ∀ (j : Nat) t v, Tryd.f3.params[j]? = some t → args[j]? = some v → Value.okWide Tryd.prog W .any base t v := hval0
  have hW' := hW
  obtain ⟨p, q, hA0, hV, rfl, hfz, hnd⟩ := hW
  have hA : DataW.TrodAll enc Tryd.prog W 0 (fun _ => true) true Tryd.f3.params.toList args.toList ds p := hA0
  rw [Tryd.params3] at hA hval
  obtain ⟨v0, vs0, d0, ds0, p0, q0, hargs, rfl, rfl, h0, r0⟩ := trodAll_cons hA
  obtain ⟨v1, vs1, d1, ds1, p1, q1, rfl, rfl, rfl, h1, r1⟩ := trodAll_cons r0
  obtain ⟨rfl, rfl, rfl⟩ := trodAll_nil r1
  obtain rfl : args = #[v0, v1] := by cases args; simp_all
  obtain ⟨rfl, rfl⟩ := trodVars_none hV
  have k0 := h0
  have lt0 : ∀ x ∈ p0, x.block < W.heap.size := by obtain ⟨m, hm⟩ := k0; exact DataW.trod_lt m _ _ _ hm
  obtain ⟨fu0, hf0⟩ := h0
  obtain ⟨a0, c0, o0⟩ := open_ok (Γ := G) gok full0 9 5 (.int .u8) (by kernel_rfl) enc _ _ _ _ _ _ hf0
  have w0 : VR (fun _ => none) W (Low W) (.v (.int .u8) a0) v0 := arg_ok (P := Tryd.prog) (base := base) (n := 8) gok c0 (hval 0 5 v0 rfl rfl) (by kernel_rfl)
  obtain ⟨b0, rfl, rfl, rfl, y0⟩ := open_int Tryd.underlying5 (hval 0 5 v0 rfl rfl) k0
  have k1 := h1
  have lt1 : ∀ x ∈ p1, x.block < W.heap.size := by obtain ⟨m, hm⟩ := k1; exact DataW.trod_lt m _ _ _ hm
  obtain ⟨fu1, hf1⟩ := h1
  obtain ⟨a1, c1, o1⟩ := open_ok (Γ := G) gok full0 9 5 (.int .u8) (by kernel_rfl) enc _ _ _ _ _ _ hf1
  have w1 : VR (fun _ => none) W (Low W) (.v (.int .u8) a1) v1 := arg_ok (P := Tryd.prog) (base := base) (n := 8) gok c1 (hval 1 5 v1 rfl rfl) (by kernel_rfl)
  obtain ⟨b1, rfl, rfl, rfl, y1⟩ := open_int Tryd.underlying5 (hval 1 5 v1 rfl rfl) k1
  obtain ⟨fu, hfu⟩ := Pure.ShadowNew a0 o0 a1 o1
  refine Calls.mono (law_ok (rickyardlaw19_ShadowNew.sc fu a0 a1 true hfu) (.cons w0 (.cons w1 .nil)) (Laid.gl hL)) fun e W' hr => ?_
  obtain ⟨v, rfl, rfl, gr⟩ := hr
  have bel := Fr.below gr
  exact ⟨_, rfl, _, _, _, [], _, [], hW', trodAll_mk1 (shut_bool Tryd.underlying4 _), (trodAll_cons_mk (shut_int Tryd.underlying5 y0) (trodAll_cons_mk (shut_int Tryd.underlying5 y1) trodAll_mk0)), rfl, bel.frame _, fun h => by cases h⟩
theorem over : Rows.shadowNewRow.holds Tryd.pinned (OpenSpec.ofChange Rows.shadowNewSpec) :=
  OpenClaim.holds_of_wide 3 Tryd.f3 rfl rfl rfl rfl rfl rfl rfl ⟨rfl, rfl, rfl, rfl, rfl⟩ rfl rfl rfl rfl rfl (by kernel_rfl) Tryd.func3 closed
    (of_decide_eq_true (by kernel_rfl)) (by unfold Func.isWrapper; first | (rw [if_pos (by decide +kernel)]; kernel_rfl) | (rw [if_neg (by decide +kernel)]; exact ⟨rfl, rfl⟩))
    (fun os started H enc _ => lifted os started H enc)
theorem card : Rows.ShadowNewCardSaid :=
  Claim7.holds_tied_plain_at .later [] [.data] true (true, "979bcd4b5e59f6cd4e5fd9cc72609fc7cce4b3df3e2b5c7c49de09907c292303") false
    over (fun _ h => by cases h) (by kernel_rfl) (fun _ h => by cases h) shadowNew_row_tie rfl ⟨rfl, rfl⟩ (by kernel_rfl) rfl
    (fun f fn hf hfn => by
      obtain rfl : f = 3 := Option.some.inj ((show Tryd.prog.funcNamed "rickyard/rickyardlaw19.ShadowNew" = some 3 by kernel_rfl).symm.trans hf) |>.symm
      obtain rfl : fn = Tryd.f3 := (Option.some.inj (Tryd.func3.symm.trans hfn)).symm
      exact ⟨by kernel_rfl, fun j t ht => by
        rw [Tryd.params3] at ht
        have hm : t ∈ [5, 5] := by simpa using Array.mem_of_getElem? ht
        have hall : ([5, 5].all fun u => !Tryd.prog.wantsStandIn u) = true := by kernel_rfl
        exact (show Tryd.prog.wantsStandIn t = false by simpa using List.all_eq_true.1 hall t hm)⟩)
    (by kernel_rfl)
end Go.Proofs.YtdifnahlheogdaaDoor.shadowNew
namespace Go.Proofs.YtdifnahlheogdaaDoor
theorem shadowNew_holds : Rows.ShadowNewCardSaid := shadowNew.card
#print axioms shadowNew_holds
end Go.Proofs.YtdifnahlheogdaaDoor
