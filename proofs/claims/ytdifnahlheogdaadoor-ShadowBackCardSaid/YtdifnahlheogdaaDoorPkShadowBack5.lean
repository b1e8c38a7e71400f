/- ShadowBack: texts merged, part 5 of 6. The last part proves that the law ShadowBack holds for every input. -/
import Derived.Test.YtdifnahlheogdaaDoorPkShadowBack4
set_option maxRecDepth 100000
set_option maxHeartbeats 4000000
set_option linter.unusedVariables false
set_option linter.unusedSimpArgs false
namespace Go.Proofs.YtdifnahlheogdaaDoor
open Go Go.Xw Go.Yw
def alloc_Alloc_Own.f (fu : Nat) (a0 : S_alloc_Alloc) (a1 : Int) : Option Bool := ((bits_Set_Has.f fu a0.sets.2.2.2 a1).bind fun t1 => (if t1 = true then ((bits_Set_Has.f fu a0.sets.2.2.1 a1).bind fun t4 => some ((!t4))) else some (false)))
theorem alloc_Alloc_Own.sc (fu : Nat) (a0 : S_alloc_Alloc) (a1 : Int) (r : Bool) (h : alloc_Alloc_Own.f fu a0 a1 = some r) : SC Tryd.prog CT 61 [.ptr 0 0, vi .i64 a1] [.box 108 (.agg [vi .i64 a0.reserve, .agg [.ptr 1 0, .ptr 3 0, .ptr 5 0, .ptr 7 0]]), .box 112 (.agg [vi .i64 a0.sets.1.size, .sl 2 1 []]), .row (.int .u64) 119 (a0.sets.1.words : List Int), .box 112 (.agg [vi .i64 a0.sets.2.1.size, .sl 4 1 []]), .row (.int .u64) 119 (a0.sets.2.1.words : List Int), .box 112 (.agg [vi .i64 a0.sets.2.2.1.size, .sl 6 1 []]), .row (.int .u64) 119 (a0.sets.2.2.1.words : List Int), .box 112 (.agg [vi .i64 a0.sets.2.2.2.size, .sl 8 1 []]), .row (.int .u64) 119 (a0.sets.2.2.2.words : List Int)] (vb r) [.box 108 (.agg [vi .i64 a0.reserve, .agg [.ptr 1 0, .ptr 3 0, .ptr 5 0, .ptr 7 0]]), .box 112 (.agg [vi .i64 a0.sets.1.size, .sl 2 1 []]), .row (.int .u64) 119 (a0.sets.1.words : List Int), .box 112 (.agg [vi .i64 a0.sets.2.1.size, .sl 4 1 []]), .row (.int .u64) 119 (a0.sets.2.1.words : List Int), .box 112 (.agg [vi .i64 a0.sets.2.2.1.size, .sl 6 1 []]), .row (.int .u64) 119 (a0.sets.2.2.1.words : List Int), .box 112 (.agg [vi .i64 a0.sets.2.2.2.size, .sl 8 1 []]), .row (.int .u64) 119 (a0.sets.2.2.2.words : List Int)] := by
 unfold alloc_Alloc_Own.f at h
 refine sc_of (r := r) (N := 22) (rs := [.tmp 4]) (V := fun (r : Bool) => vb r) (R' := fun (r : Bool) => [.box 108 (.agg [vi .i64 a0.reserve, .agg [.ptr 1 0, .ptr 3 0, .ptr 5 0, .ptr 7 0]]), .box 112 (.agg [vi .i64 a0.sets.1.size, .sl 2 1 []]), .row (.int .u64) 119 (a0.sets.1.words : List Int), .box 112 (.agg [vi .i64 a0.sets.2.1.size, .sl 4 1 []]), .row (.int .u64) 119 (a0.sets.2.1.words : List Int), .box 112 (.agg [vi .i64 a0.sets.2.2.1.size, .sl 6 1 []]), .row (.int .u64) 119 (a0.sets.2.2.1.words : List Int), .box 112 (.agg [vi .i64 a0.sets.2.2.2.size, .sl 8 1 []]), .row (.int .u64) 119 (a0.sets.2.2.2.words : List Int)]) cok Tryd.func61 rfl rfl rfl (by kernel_rfl) (by kernel_rfl) rfl rfl fun X => ?_
 refine t_reg cok ?_
 refine ⟨by decide, ?_⟩
 refine bk h fun t1 k2 h => ?_
 refine cl3 cok.g (bits_Set_Has.sc fu a0.sets.2.2.2 a1 _ k2) (vb t1) [(7, .box 112 (.agg [vi .i64 a0.sets.2.2.2.size, .sl 8 1 []])), (8, .row (.int .u64) 119 (a0.sets.2.2.2.words : List Int))] 11 (by kernel_rfl) (by kernel_rfl) ?_
 refine bi h (fun c3 h => ?_) (fun c3 h => ?_)
 ·skip
  refine ⟨by decide, ?_⟩
  refine bk h fun t4 k5 h => ?_
  refine cl3 cok.g (bits_Set_Has.sc fu a0.sets.2.2.1 a1 _ k5) (vb t4) [(5, .box 112 (.agg [vi .i64 a0.sets.2.2.1.size, .sl 6 1 []])), (6, .row (.int .u64) 119 (a0.sets.2.2.1.words : List Int))] 13 (by kernel_rfl) (by kernel_rfl) ?_
  exact fi h (by kernel_rfl)
 exact fi h (by kernel_rfl)
def shadow_Store_Turn.f (fu : Nat) (a0 : S_shadow_Store) (a1 : Int) (a2 : List Int) : Option (Int × Int × S_shadow_Store) := (if (!decide ((List.length a2 : Int) = 64)) = true then some (0, 2, a0) else ((alloc_Alloc_Works.f fu a0.blocks).bind fun t2 => ((bits_Set_Has.f fu t2 a1).bind fun t4 => (if (!t4) = true then some (0, 2, a0) else ((alloc_Alloc_Own.f fu a0.blocks a1).bind fun t7 => (if t7 = true then ((shadow_Store_written.f fu a0 a1 a2).bind fun t10 => some (t10.1, t10.2.1, t10.2.2)) else ((shadow_Store_Make.f fu a0 a2).bind fun t12 => (if (!decide (t12.2.1 = 0)) = true then some (0, t12.2.1, t12.2.2) else ((alloc_Alloc_Give.f fu t12.2.2.blocks a1).bind fun t15 => some (t12.1, t15.1, (⟨t12.2.2.device, t15.2⟩ : S_shadow_Store)))))))))))
theorem shadow_Store_Turn.sc (fu : Nat) (a0 : S_shadow_Store) (a1 : Int) (a2 : List Int) (r : Int × Int × S_shadow_Store) (h : shadow_Store_Turn.f fu a0 a1 a2 = some r) : SC Tryd.prog CT 19 [.ptr 0 0, vi .i64 a1, .v (.sl (.int .u8)) (a2 : List Int)] [.box 114 (.agg [.ptr 1 0, .ptr 4 0]), .box 105 (.agg [.sl 2 4 [], .agg [.sl 3 1 [], vi .i64 a0.device.plan.at_], vb a0.device.off, vb a0.device.armed, vi .i64 a0.device.left, vi .i64 a0.device.steps]), .row (.st .S_pmem_cell) 125 (a0.device.cells : List S_pmem_cell), .row (.int .i64) 3 (a0.device.plan.list : List Int), .box 108 (.agg [vi .i64 a0.blocks.reserve, .agg [.ptr 5 0, .ptr 7 0, .ptr 9 0, .ptr 11 0]]), .box 112 (.agg [vi .i64 a0.blocks.sets.1.size, .sl 6 1 []]), .row (.int .u64) 119 (a0.blocks.sets.1.words : List Int), .box 112 (.agg [vi .i64 a0.blocks.sets.2.1.size, .sl 8 1 []]), .row (.int .u64) 119 (a0.blocks.sets.2.1.words : List Int), .box 112 (.agg [vi .i64 a0.blocks.sets.2.2.1.size, .sl 10 1 []]), .row (.int .u64) 119 (a0.blocks.sets.2.2.1.words : List Int), .box 112 (.agg [vi .i64 a0.blocks.sets.2.2.2.size, .sl 12 1 []]), .row (.int .u64) 119 (a0.blocks.sets.2.2.2.words : List Int)] (.tup [vi .i64 r.1, vi .i64 r.2.1]) [.box 114 (.agg [.ptr 1 0, .ptr 4 0]), .box 105 (.agg [.sl 2 4 [], .agg [.sl 3 1 [], vi .i64 r.2.2.device.plan.at_], vb r.2.2.device.off, vb r.2.2.device.armed, vi .i64 r.2.2.device.left, vi .i64 r.2.2.device.steps]), .row (.st .S_pmem_cell) 125 (r.2.2.device.cells : List S_pmem_cell), .row (.int .i64) 3 (r.2.2.device.plan.list : List Int), .box 108 (.agg [vi .i64 r.2.2.blocks.reserve, .agg [.ptr 5 0, .ptr 7 0, .ptr 9 0, .ptr 11 0]]), .box 112 (.agg [vi .i64 r.2.2.blocks.sets.1.size, .sl 6 1 []]), .row (.int .u64) 119 (r.2.2.blocks.sets.1.words : List Int), .box 112 (.agg [vi .i64 r.2.2.blocks.sets.2.1.size, .sl 8 1 []]), .row (.int .u64) 119 (r.2.2.blocks.sets.2.1.words : List Int), .box 112 (.agg [vi .i64 r.2.2.blocks.sets.2.2.1.size, .sl 10 1 []]), .row (.int .u64) 119 (r.2.2.blocks.sets.2.2.1.words : List Int), .box 112 (.agg [vi .i64 r.2.2.blocks.sets.2.2.2.size, .sl 12 1 []]), .row (.int .u64) 119 (r.2.2.blocks.sets.2.2.2.words : List Int)] := by
 unfold shadow_Store_Turn.f at h
 refine sc_of (r := r) (N := 51) (rs := [.tmp 6, .tmp 7]) (V := fun (r : Int × Int × S_shadow_Store) => .tup [vi .i64 r.1, vi .i64 r.2.1]) (R' := fun (r : Int × Int × S_shadow_Store) => [.box 114 (.agg [.ptr 1 0, .ptr 4 0]), .box 105 (.agg [.sl 2 4 [], .agg [.sl 3 1 [], vi .i64 r.2.2.device.plan.at_], vb r.2.2.device.off, vb r.2.2.device.armed, vi .i64 r.2.2.device.left, vi .i64 r.2.2.device.steps]), .row (.st .S_pmem_cell) 125 (r.2.2.device.cells : List S_pmem_cell), .row (.int .i64) 3 (r.2.2.device.plan.list : List Int), .box 108 (.agg [vi .i64 r.2.2.blocks.reserve, .agg [.ptr 5 0, .ptr 7 0, .ptr 9 0, .ptr 11 0]]), .box 112 (.agg [vi .i64 r.2.2.blocks.sets.1.size, .sl 6 1 []]), .row (.int .u64) 119 (r.2.2.blocks.sets.1.words : List Int), .box 112 (.agg [vi .i64 r.2.2.blocks.sets.2.1.size, .sl 8 1 []]), .row (.int .u64) 119 (r.2.2.blocks.sets.2.1.words : List Int), .box 112 (.agg [vi .i64 r.2.2.blocks.sets.2.2.1.size, .sl 10 1 []]), .row (.int .u64) 119 (r.2.2.blocks.sets.2.2.1.words : List Int), .box 112 (.agg [vi .i64 r.2.2.blocks.sets.2.2.2.size, .sl 12 1 []]), .row (.int .u64) 119 (r.2.2.blocks.sets.2.2.2.words : List Int)]) cok Tryd.func19 rfl rfl rfl (by kernel_rfl) (by kernel_rfl) rfl rfl fun X => ?_
 refine t_reg cok ?_
 refine bi h (fun c1 h => ?_) (fun c1 h => ?_)
 ·skip
  refine t_cond cok ?_
  exact fi h (by kernel_rfl)
 refine bk h fun t2 k3 h => ?_
 refine cl3 cok.g (alloc_Alloc_Works.sc fu a0.blocks _ k3) (.ptr 22 0) [(4, .box 108 (.agg [vi .i64 a0.blocks.reserve, .agg [.ptr 5 0, .ptr 7 0, .ptr 9 0, .ptr 11 0]])), (5, .box 112 (.agg [vi .i64 a0.blocks.sets.1.size, .sl 6 1 []])), (6, .row (.int .u64) 119 (a0.blocks.sets.1.words : List Int)), (7, .box 112 (.agg [vi .i64 a0.blocks.sets.2.1.size, .sl 8 1 []])), (8, .row (.int .u64) 119 (a0.blocks.sets.2.1.words : List Int)), (9, .box 112 (.agg [vi .i64 a0.blocks.sets.2.2.1.size, .sl 10 1 []])), (10, .row (.int .u64) 119 (a0.blocks.sets.2.2.1.words : List Int)), (11, .box 112 (.agg [vi .i64 a0.blocks.sets.2.2.2.size, .sl 12 1 []])), (12, .row (.int .u64) 119 (a0.blocks.sets.2.2.2.words : List Int)), (22, .box 112 (.agg [vi .i64 t2.size, .sl 23 1 []])), (23, .row (.int .u64) 119 (t2.words : List Int))] 24 (by kernel_rfl) (by kernel_rfl) ?_
 refine bk h fun t4 k5 h => ?_
 refine cl3 cok.g (bits_Set_Has.sc fu t2 a1 _ k5) (vb t4) [(22, .box 112 (.agg [vi .i64 t2.size, .sl 23 1 []])), (23, .row (.int .u64) 119 (t2.words : List Int))] 26 (by kernel_rfl) (by kernel_rfl) ?_
 refine t_cond cok ?_
 refine bi h (fun c6 h => ?_) (fun c6 h => ?_)
 ·skip
  exact fi h (by kernel_rfl)
 refine bk h fun t7 k8 h => ?_
 refine cl3 cok.g (alloc_Alloc_Own.sc fu a0.blocks a1 _ k8) (vb t7) [(4, .box 108 (.agg [vi .i64 a0.blocks.reserve, .agg [.ptr 5 0, .ptr 7 0, .ptr 9 0, .ptr 11 0]])), (5, .box 112 (.agg [vi .i64 a0.blocks.sets.1.size, .sl 6 1 []])), (6, .row (.int .u64) 119 (a0.blocks.sets.1.words : List Int)), (7, .box 112 (.agg [vi .i64 a0.blocks.sets.2.1.size, .sl 8 1 []])), (8, .row (.int .u64) 119 (a0.blocks.sets.2.1.words : List Int)), (9, .box 112 (.agg [vi .i64 a0.blocks.sets.2.2.1.size, .sl 10 1 []])), (10, .row (.int .u64) 119 (a0.blocks.sets.2.2.1.words : List Int)), (11, .box 112 (.agg [vi .i64 a0.blocks.sets.2.2.2.size, .sl 12 1 []])), (12, .row (.int .u64) 119 (a0.blocks.sets.2.2.2.words : List Int))] 35 (by kernel_rfl) (by kernel_rfl) ?_
 refine t_cond cok ?_
 refine bi h (fun c9 h => ?_) (fun c9 h => ?_)
 ·skip
  refine bk h fun t10 k11 h => ?_
  refine cl3 cok.g (shadow_Store_written.sc fu a0 a1 a2 _ k11) (.tup [vi .i64 t10.1, vi .i64 t10.2.1]) [(0, .box 114 (.agg [.ptr 1 0, .ptr 4 0])), (1, .box 105 (.agg [.sl 2 4 [], .agg [.sl 3 1 [], vi .i64 t10.2.2.device.plan.at_], vb t10.2.2.device.off, vb t10.2.2.device.armed, vi .i64 t10.2.2.device.left, vi .i64 t10.2.2.device.steps])), (2, .row (.st .S_pmem_cell) 125 (t10.2.2.device.cells : List S_pmem_cell)), (3, .row (.int .i64) 3 (t10.2.2.device.plan.list : List Int)), (4, .box 108 (.agg [vi .i64 t10.2.2.blocks.reserve, .agg [.ptr 5 0, .ptr 7 0, .ptr 9 0, .ptr 11 0]])), (5, .box 112 (.agg [vi .i64 t10.2.2.blocks.sets.1.size, .sl 6 1 []])), (6, .row (.int .u64) 119 (t10.2.2.blocks.sets.1.words : List Int)), (7, .box 112 (.agg [vi .i64 t10.2.2.blocks.sets.2.1.size, .sl 8 1 []])), (8, .row (.int .u64) 119 (t10.2.2.blocks.sets.2.1.words : List Int)), (9, .box 112 (.agg [vi .i64 t10.2.2.blocks.sets.2.2.1.size, .sl 10 1 []])), (10, .row (.int .u64) 119 (t10.2.2.blocks.sets.2.2.1.words : List Int)), (11, .box 112 (.agg [vi .i64 t10.2.2.blocks.sets.2.2.2.size, .sl 12 1 []])), (12, .row (.int .u64) 119 (t10.2.2.blocks.sets.2.2.2.words : List Int))] 48 (by kernel_rfl) (by kernel_rfl) ?_
  exact fi h (by kernel_rfl)
 refine bk h fun t12 k13 h => ?_
 refine cl3 cok.g (shadow_Store_Make.sc fu a0 a2 _ k13) (.tup [vi .i64 t12.1, vi .i64 t12.2.1]) [(0, .box 114 (.agg [.ptr 1 0, .ptr 4 0])), (1, .box 105 (.agg [.sl 2 4 [], .agg [.sl 3 1 [], vi .i64 t12.2.2.device.plan.at_], vb t12.2.2.device.off, vb t12.2.2.device.armed, vi .i64 t12.2.2.device.left, vi .i64 t12.2.2.device.steps])), (2, .row (.st .S_pmem_cell) 125 (t12.2.2.device.cells : List S_pmem_cell)), (3, .row (.int .i64) 3 (t12.2.2.device.plan.list : List Int)), (4, .box 108 (.agg [vi .i64 t12.2.2.blocks.reserve, .agg [.ptr 5 0, .ptr 7 0, .ptr 9 0, .ptr 11 0]])), (5, .box 112 (.agg [vi .i64 t12.2.2.blocks.sets.1.size, .sl 6 1 []])), (6, .row (.int .u64) 119 (t12.2.2.blocks.sets.1.words : List Int)), (7, .box 112 (.agg [vi .i64 t12.2.2.blocks.sets.2.1.size, .sl 8 1 []])), (8, .row (.int .u64) 119 (t12.2.2.blocks.sets.2.1.words : List Int)), (9, .box 112 (.agg [vi .i64 t12.2.2.blocks.sets.2.2.1.size, .sl 10 1 []])), (10, .row (.int .u64) 119 (t12.2.2.blocks.sets.2.2.1.words : List Int)), (11, .box 112 (.agg [vi .i64 t12.2.2.blocks.sets.2.2.2.size, .sl 12 1 []])), (12, .row (.int .u64) 119 (t12.2.2.blocks.sets.2.2.2.words : List Int))] 48 (by kernel_rfl) (by kernel_rfl) ?_
 refine t_cond cok ?_
 refine bi h (fun c14 h => ?_) (fun c14 h => ?_)
 ·skip
  exact fi h (by kernel_rfl)
 refine bk h fun t15 k16 h => ?_
 refine cl3 cok.g (alloc_Alloc_Give.sc fu t12.2.2.blocks a1 _ k16) (vi .i64 t15.1) [(4, .box 108 (.agg [vi .i64 t15.2.reserve, .agg [.ptr 5 0, .ptr 7 0, .ptr 9 0, .ptr 11 0]])), (5, .box 112 (.agg [vi .i64 t15.2.sets.1.size, .sl 6 1 []])), (6, .row (.int .u64) 119 (t15.2.sets.1.words : List Int)), (7, .box 112 (.agg [vi .i64 t15.2.sets.2.1.size, .sl 8 1 []])), (8, .row (.int .u64) 119 (t15.2.sets.2.1.words : List Int)), (9, .box 112 (.agg [vi .i64 t15.2.sets.2.2.1.size, .sl 10 1 []])), (10, .row (.int .u64) 119 (t15.2.sets.2.2.1.words : List Int)), (11, .box 112 (.agg [vi .i64 t15.2.sets.2.2.2.size, .sl 12 1 []])), (12, .row (.int .u64) 119 (t15.2.sets.2.2.2.words : List Int))] 57 (by kernel_rfl) (by kernel_rfl) ?_
 exact fi h (by kernel_rfl)
def rickyardlaw19_awake.f (fu : Nat) : Option Bool := ((rickyardlaw19_Made.f fu 9 0).bind fun t1 => (Option.elim t1.1 ((Option.elim t1.2.1 ((Option.elim t1.2.2 (some (false)) (fun o7 => some (false)))) (fun o5 => (Option.elim t1.2.2 (some (false)) (fun o9 => some (false)))))) (fun o3 => (Option.elim t1.2.1 ((Option.elim t1.2.2 (none) (fun o13 => none))) (fun o11 => (Option.elim t1.2.2 (none) (fun o15 => ((rickyardlaw19_whole.f fu 1).bind fun t17 => ((shadow_Store_Make.f fu (⟨o11, o15⟩ : S_shadow_Store) t17).bind fun t19 => ((rickyardlaw19_whole.f fu 2).bind fun t21 => ((shadow_Store_Turn.f fu t19.2.2 t19.1 t21).bind fun t23 => ((alloc_Alloc_Mark.f fu t23.2.2.blocks).bind fun t25 => ((rickyardlaw19_whole.f fu 3).bind fun t27 => ((shadow_Store_Turn.f fu (⟨t23.2.2.device, t25⟩ : S_shadow_Store) t19.1 t27).bind fun t29 => (if (decide (t19.2.1 = 0)) = true then (if (decide (t23.2.1 = 0)) = true then (if (decide (t29.2.1 = 0)) = true then (if (decide (t19.1 = 2)) = true then (if (decide (t23.1 = 2)) = true then some ((decide (t29.1 = 3))) else some (false)) else some (false)) else some (false)) else some (false)) else some (false))))))))))))))))
theorem rickyardlaw19_awake.sc (fu : Nat) (r : Bool) (h : rickyardlaw19_awake.f fu = some r) : SC Tryd.prog CT 10 [] [] (vb r) [] := by
 unfold rickyardlaw19_awake.f at h
 refine sc_of (r := r) (N := 65) (rs := [.tmp 0]) (V := fun (r : Bool) => vb r) (R' := fun (r : Bool) => []) cok Tryd.func10 rfl rfl rfl (by kernel_rfl) (by kernel_rfl) rfl rfl fun X => ?_
 refine bk h fun t1 k2 h => ?_
 refine oe (x := t1.1) h (fun q4 h => ?_) (fun o3 q4 h => ?_)
 ·skip
  refine oe (x := t1.2.1) h (fun q6 h => ?_) (fun o5 q6 h => ?_)
  ·skip
   refine oe (x := t1.2.2) h (fun q8 h => ?_) (fun o7 q8 h => ?_)
   ·skip
    refine cl3 cok.g (rickyardlaw19_Made.scnnn fu 9 0 _ k2 q4 q6 q8) (.tup [.nilp, .nilp, .nilp]) [] 0 (by kernel_rfl) (by kernel_rfl) ?_
    refine t_reg cok ?_
    refine t_cond cok ?_
    exact fi h (by kernel_rfl)
   refine cl3 cok.g (rickyardlaw19_Made.scnns fu 9 0 _ k2 q4 q6 o7 q8) (.tup [.nilp, .nilp, .ptr 0 0]) [(0, .box 108 (.agg [vi .i64 o7.reserve, .agg [.ptr 1 0, .ptr 3 0, .ptr 5 0, .ptr 7 0]])), (1, .box 112 (.agg [vi .i64 o7.sets.1.size, .sl 2 1 []])), (2, .row (.int .u64) 119 (o7.sets.1.words : List Int)), (3, .box 112 (.agg [vi .i64 o7.sets.2.1.size, .sl 4 1 []])), (4, .row (.int .u64) 119 (o7.sets.2.1.words : List Int)), (5, .box 112 (.agg [vi .i64 o7.sets.2.2.1.size, .sl 6 1 []])), (6, .row (.int .u64) 119 (o7.sets.2.2.1.words : List Int)), (7, .box 112 (.agg [vi .i64 o7.sets.2.2.2.size, .sl 8 1 []])), (8, .row (.int .u64) 119 (o7.sets.2.2.2.words : List Int))] 9 (by kernel_rfl) (by kernel_rfl) ?_
   refine t_reg cok ?_
   refine t_cond cok ?_
   exact fi h (by kernel_rfl)
  refine oe (x := t1.2.2) h (fun q10 h => ?_) (fun o9 q10 h => ?_)
  ·skip
   refine cl3 cok.g (rickyardlaw19_Made.scnsn fu 9 0 _ k2 q4 o5 q6 q10) (.tup [.nilp, .ptr 0 0, .nilp]) [(0, .box 105 (.agg [.sl 1 4 [], .agg [.sl 2 1 [], vi .i64 o5.plan.at_], vb o5.off, vb o5.armed, vi .i64 o5.left, vi .i64 o5.steps])), (1, .row (.st .S_pmem_cell) 125 (o5.cells : List S_pmem_cell)), (2, .row (.int .i64) 3 (o5.plan.list : List Int))] 3 (by kernel_rfl) (by kernel_rfl) ?_
   refine t_reg cok ?_
   refine t_cond cok ?_
   exact fi h (by kernel_rfl)
  refine cl3 cok.g (rickyardlaw19_Made.scnss fu 9 0 _ k2 q4 o5 q6 o9 q10) (.tup [.nilp, .ptr 0 0, .ptr 3 0]) [(0, .box 105 (.agg [.sl 1 4 [], .agg [.sl 2 1 [], vi .i64 o5.plan.at_], vb o5.off, vb o5.armed, vi .i64 o5.left, vi .i64 o5.steps])), (1, .row (.st .S_pmem_cell) 125 (o5.cells : List S_pmem_cell)), (2, .row (.int .i64) 3 (o5.plan.list : List Int)), (3, .box 108 (.agg [vi .i64 o9.reserve, .agg [.ptr 4 0, .ptr 6 0, .ptr 8 0, .ptr 10 0]])), (4, .box 112 (.agg [vi .i64 o9.sets.1.size, .sl 5 1 []])), (5, .row (.int .u64) 119 (o9.sets.1.words : List Int)), (6, .box 112 (.agg [vi .i64 o9.sets.2.1.size, .sl 7 1 []])), (7, .row (.int .u64) 119 (o9.sets.2.1.words : List Int)), (8, .box 112 (.agg [vi .i64 o9.sets.2.2.1.size, .sl 9 1 []])), (9, .row (.int .u64) 119 (o9.sets.2.2.1.words : List Int)), (10, .box 112 (.agg [vi .i64 o9.sets.2.2.2.size, .sl 11 1 []])), (11, .row (.int .u64) 119 (o9.sets.2.2.2.words : List Int))] 12 (by kernel_rfl) (by kernel_rfl) ?_
  refine t_reg cok ?_
  refine t_cond cok ?_
  exact fi h (by kernel_rfl)
 refine oe (x := t1.2.1) h (fun q12 h => ?_) (fun o11 q12 h => ?_)
 ·skip
  refine oe (x := t1.2.2) h (fun q14 h => ?_) (fun o13 q14 h => ?_)
  ·skip
   cases h
  cases h
 refine oe (x := t1.2.2) h (fun q16 h => ?_) (fun o15 q16 h => ?_)
 ·skip
  cases h
 refine cl3 cok.g (rickyardlaw19_Made.scsss fu 9 0 _ k2 o3 q4 o11 q12 o15 q16) (.tup [.ptr 12 0, .ptr 0 0, .ptr 3 0]) [(0, .box 105 (.agg [.sl 1 4 [], .agg [.sl 2 1 [], vi .i64 o11.plan.at_], vb o11.off, vb o11.armed, vi .i64 o11.left, vi .i64 o11.steps])), (1, .row (.st .S_pmem_cell) 125 (o11.cells : List S_pmem_cell)), (2, .row (.int .i64) 3 (o11.plan.list : List Int)), (3, .box 108 (.agg [vi .i64 o15.reserve, .agg [.ptr 4 0, .ptr 6 0, .ptr 8 0, .ptr 10 0]])), (4, .box 112 (.agg [vi .i64 o15.sets.1.size, .sl 5 1 []])), (5, .row (.int .u64) 119 (o15.sets.1.words : List Int)), (6, .box 112 (.agg [vi .i64 o15.sets.2.1.size, .sl 7 1 []])), (7, .row (.int .u64) 119 (o15.sets.2.1.words : List Int)), (8, .box 112 (.agg [vi .i64 o15.sets.2.2.1.size, .sl 9 1 []])), (9, .row (.int .u64) 119 (o15.sets.2.2.1.words : List Int)), (10, .box 112 (.agg [vi .i64 o15.sets.2.2.2.size, .sl 11 1 []])), (11, .row (.int .u64) 119 (o15.sets.2.2.2.words : List Int)), (12, .box 114 (.agg [.ptr 0 0, .ptr 3 0]))] 13 (by kernel_rfl) (by kernel_rfl) ?_
 refine t_reg cok ?_
 refine t_cond cok ?_
 refine bk h fun t17 k18 h => ?_
 refine cl3 cok.g (rickyardlaw19_whole.sc fu 1 _ k18) (.sl 13 1 []) [(13, .row (.int .u8) 5 (t17 : List Int))] 14 (by kernel_rfl) (by kernel_rfl) ?_
 refine bk h fun t19 k20 h => ?_
 refine cl3 cok.g (shadow_Store_Make.sc fu (⟨o11, o15⟩ : S_shadow_Store) t17 _ k20) (.tup [vi .i64 t19.1, vi .i64 t19.2.1]) [(12, .box 114 (.agg [.ptr 0 0, .ptr 3 0])), (0, .box 105 (.agg [.sl 1 4 [], .agg [.sl 2 1 [], vi .i64 t19.2.2.device.plan.at_], vb t19.2.2.device.off, vb t19.2.2.device.armed, vi .i64 t19.2.2.device.left, vi .i64 t19.2.2.device.steps])), (1, .row (.st .S_pmem_cell) 125 (t19.2.2.device.cells : List S_pmem_cell)), (2, .row (.int .i64) 3 (t19.2.2.device.plan.list : List Int)), (3, .box 108 (.agg [vi .i64 t19.2.2.blocks.reserve, .agg [.ptr 4 0, .ptr 6 0, .ptr 8 0, .ptr 10 0]])), (4, .box 112 (.agg [vi .i64 t19.2.2.blocks.sets.1.size, .sl 5 1 []])), (5, .row (.int .u64) 119 (t19.2.2.blocks.sets.1.words : List Int)), (6, .box 112 (.agg [vi .i64 t19.2.2.blocks.sets.2.1.size, .sl 7 1 []])), (7, .row (.int .u64) 119 (t19.2.2.blocks.sets.2.1.words : List Int)), (8, .box 112 (.agg [vi .i64 t19.2.2.blocks.sets.2.2.1.size, .sl 9 1 []])), (9, .row (.int .u64) 119 (t19.2.2.blocks.sets.2.2.1.words : List Int)), (10, .box 112 (.agg [vi .i64 t19.2.2.blocks.sets.2.2.2.size, .sl 11 1 []])), (11, .row (.int .u64) 119 (t19.2.2.blocks.sets.2.2.2.words : List Int))] 27 (by kernel_rfl) (by kernel_rfl) ?_
 refine bk h fun t21 k22 h => ?_
 refine cl3 cok.g (rickyardlaw19_whole.sc fu 2 _ k22) (.sl 27 1 []) [(27, .row (.int .u8) 5 (t21 : List Int))] 28 (by kernel_rfl) (by kernel_rfl) ?_
 refine bk h fun t23 k24 h => ?_
 refine cl3 cok.g (shadow_Store_Turn.sc fu t19.2.2 t19.1 t21 _ k24) (.tup [vi .i64 t23.1, vi .i64 t23.2.1]) [(12, .box 114 (.agg [.ptr 0 0, .ptr 3 0])), (0, .box 105 (.agg [.sl 1 4 [], .agg [.sl 2 1 [], vi .i64 t23.2.2.device.plan.at_], vb t23.2.2.device.off, vb t23.2.2.device.armed, vi .i64 t23.2.2.device.left, vi .i64 t23.2.2.device.steps])), (1, .row (.st .S_pmem_cell) 125 (t23.2.2.device.cells : List S_pmem_cell)), (2, .row (.int .i64) 3 (t23.2.2.device.plan.list : List Int)), (3, .box 108 (.agg [vi .i64 t23.2.2.blocks.reserve, .agg [.ptr 4 0, .ptr 6 0, .ptr 8 0, .ptr 10 0]])), (4, .box 112 (.agg [vi .i64 t23.2.2.blocks.sets.1.size, .sl 5 1 []])), (5, .row (.int .u64) 119 (t23.2.2.blocks.sets.1.words : List Int)), (6, .box 112 (.agg [vi .i64 t23.2.2.blocks.sets.2.1.size, .sl 7 1 []])), (7, .row (.int .u64) 119 (t23.2.2.blocks.sets.2.1.words : List Int)), (8, .box 112 (.agg [vi .i64 t23.2.2.blocks.sets.2.2.1.size, .sl 9 1 []])), (9, .row (.int .u64) 119 (t23.2.2.blocks.sets.2.2.1.words : List Int)), (10, .box 112 (.agg [vi .i64 t23.2.2.blocks.sets.2.2.2.size, .sl 11 1 []])), (11, .row (.int .u64) 119 (t23.2.2.blocks.sets.2.2.2.words : List Int))] 41 (by kernel_rfl) (by kernel_rfl) ?_
 refine bk h fun t25 k26 h => ?_
 refine cl3 cok.g (alloc_Alloc_Mark.sc fu t23.2.2.blocks _ k26) (.tup []) [(3, .box 108 (.agg [vi .i64 t25.reserve, .agg [.ptr 4 0, .ptr 6 0, .ptr 50 0, .ptr 10 0]])), (4, .box 112 (.agg [vi .i64 t25.sets.1.size, .sl 5 1 []])), (5, .row (.int .u64) 119 (t25.sets.1.words : List Int)), (6, .box 112 (.agg [vi .i64 t25.sets.2.1.size, .sl 7 1 []])), (7, .row (.int .u64) 119 (t25.sets.2.1.words : List Int)), (8, .gone), (9, .gone), (10, .box 112 (.agg [vi .i64 t25.sets.2.2.2.size, .sl 11 1 []])), (11, .row (.int .u64) 119 (t25.sets.2.2.2.words : List Int)), (50, .box 112 (.agg [vi .i64 t25.sets.2.2.1.size, .sl 51 1 []])), (51, .row (.int .u64) 119 (t25.sets.2.2.1.words : List Int))] 52 (by kernel_rfl) (by kernel_rfl) ?_
 refine bk h fun t27 k28 h => ?_
 refine cl3 cok.g (rickyardlaw19_whole.sc fu 3 _ k28) (.sl 52 1 []) [(52, .row (.int .u8) 5 (t27 : List Int))] 53 (by kernel_rfl) (by kernel_rfl) ?_
 refine bk h fun t29 k30 h => ?_
 refine cl3 cok.g (shadow_Store_Turn.sc fu (⟨t23.2.2.device, t25⟩ : S_shadow_Store) t19.1 t27 _ k30) (.tup [vi .i64 t29.1, vi .i64 t29.2.1]) [(12, .box 114 (.agg [.ptr 0 0, .ptr 3 0])), (0, .box 105 (.agg [.sl 1 4 [], .agg [.sl 2 1 [], vi .i64 t29.2.2.device.plan.at_], vb t29.2.2.device.off, vb t29.2.2.device.armed, vi .i64 t29.2.2.device.left, vi .i64 t29.2.2.device.steps])), (1, .row (.st .S_pmem_cell) 125 (t29.2.2.device.cells : List S_pmem_cell)), (2, .row (.int .i64) 3 (t29.2.2.device.plan.list : List Int)), (3, .box 108 (.agg [vi .i64 t29.2.2.blocks.reserve, .agg [.ptr 4 0, .ptr 6 0, .ptr 50 0, .ptr 10 0]])), (4, .box 112 (.agg [vi .i64 t29.2.2.blocks.sets.1.size, .sl 5 1 []])), (5, .row (.int .u64) 119 (t29.2.2.blocks.sets.1.words : List Int)), (6, .box 112 (.agg [vi .i64 t29.2.2.blocks.sets.2.1.size, .sl 7 1 []])), (7, .row (.int .u64) 119 (t29.2.2.blocks.sets.2.1.words : List Int)), (50, .box 112 (.agg [vi .i64 t29.2.2.blocks.sets.2.2.1.size, .sl 51 1 []])), (51, .row (.int .u64) 119 (t29.2.2.blocks.sets.2.2.1.words : List Int)), (10, .box 112 (.agg [vi .i64 t29.2.2.blocks.sets.2.2.2.size, .sl 11 1 []])), (11, .row (.int .u64) 119 (t29.2.2.blocks.sets.2.2.2.words : List Int))] 66 (by kernel_rfl) (by kernel_rfl) ?_
 refine t_reg cok ?_
 refine bi h (fun c31 h => ?_) (fun c31 h => ?_)
 ·skip
  refine bi h (fun c32 h => ?_) (fun c32 h => ?_)
  ·skip
   refine bi h (fun c33 h => ?_) (fun c33 h => ?_)
   ·skip
    refine bi h (fun c34 h => ?_) (fun c34 h => ?_)
    ·skip
     refine bi h (fun c35 h => ?_) (fun c35 h => ?_)
     ·skip
      exact fi h (by kernel_rfl)
     exact fi h (by kernel_rfl)
    exact fi h (by kernel_rfl)
   exact fi h (by kernel_rfl)
  exact fi h (by kernel_rfl)
 exact fi h (by kernel_rfl)
def alloc_Alloc_become_c3_c0.f (fu : Nat) (a0 : S_alloc_Alloc) : Option S_alloc_Alloc := ((alloc_copied.f fu a0.sets.1).bind fun t1 => some ((⟨a0.reserve, (a0.sets.1, a0.sets.2.1, a0.sets.2.2.1, t1)⟩ : S_alloc_Alloc)))
theorem alloc_Alloc_become_c3_c0.sc (fu : Nat) (a0 : S_alloc_Alloc) (r : S_alloc_Alloc) (h : alloc_Alloc_become_c3_c0.f fu a0 = some r) : SC Tryd.prog CT 59 [.ptr 0 0, vi .i64 3, vi .i64 0] [.box 108 (.agg [vi .i64 a0.reserve, .agg [.ptr 1 0, .ptr 3 0, .ptr 5 0, .ptr 7 0]]), .box 112 (.agg [vi .i64 a0.sets.1.size, .sl 2 1 []]), .row (.int .u64) 119 (a0.sets.1.words : List Int), .box 112 (.agg [vi .i64 a0.sets.2.1.size, .sl 4 1 []]), .row (.int .u64) 119 (a0.sets.2.1.words : List Int), .box 112 (.agg [vi .i64 a0.sets.2.2.1.size, .sl 6 1 []]), .row (.int .u64) 119 (a0.sets.2.2.1.words : List Int), .box 112 (.agg [vi .i64 a0.sets.2.2.2.size, .sl 8 1 []]), .row (.int .u64) 119 (a0.sets.2.2.2.words : List Int)] (.tup []) [.box 108 (.agg [vi .i64 r.reserve, .agg [.ptr 1 0, .ptr 3 0, .ptr 5 0, .ptr 9 0]]), .box 112 (.agg [vi .i64 r.sets.1.size, .sl 2 1 []]), .row (.int .u64) 119 (r.sets.1.words : List Int), .box 112 (.agg [vi .i64 r.sets.2.1.size, .sl 4 1 []]), .row (.int .u64) 119 (r.sets.2.1.words : List Int), .box 112 (.agg [vi .i64 r.sets.2.2.1.size, .sl 6 1 []]), .row (.int .u64) 119 (r.sets.2.2.1.words : List Int), .gone, .gone, .box 112 (.agg [vi .i64 r.sets.2.2.2.size, .sl 10 1 []]), .row (.int .u64) 119 (r.sets.2.2.2.words : List Int)] := by
 unfold alloc_Alloc_become_c3_c0.f at h
 refine sc_of (r := r) (N := 18) (rs := []) (V := fun (r : S_alloc_Alloc) => .tup []) (R' := fun (r : S_alloc_Alloc) => [.box 108 (.agg [vi .i64 r.reserve, .agg [.ptr 1 0, .ptr 3 0, .ptr 5 0, .ptr 9 0]]), .box 112 (.agg [vi .i64 r.sets.1.size, .sl 2 1 []]), .row (.int .u64) 119 (r.sets.1.words : List Int), .box 112 (.agg [vi .i64 r.sets.2.1.size, .sl 4 1 []]), .row (.int .u64) 119 (r.sets.2.1.words : List Int), .box 112 (.agg [vi .i64 r.sets.2.2.1.size, .sl 6 1 []]), .row (.int .u64) 119 (r.sets.2.2.1.words : List Int), .gone, .gone, .box 112 (.agg [vi .i64 r.sets.2.2.2.size, .sl 10 1 []]), .row (.int .u64) 119 (r.sets.2.2.2.words : List Int)]) cok Tryd.func59 rfl rfl rfl (by kernel_rfl) (by kernel_rfl) rfl rfl fun X => ?_
 refine t_draw cok mo [⟨0, false, [0], [], 0, []⟩, ⟨1, false, [1], [], 0, []⟩, ⟨2, false, [0], [], 0, []⟩, ⟨3, false, [2], [], 0, []⟩, ⟨4, false, [8], [], 0, [2]⟩, ⟨5, false, [10], [], 0, [2, 4]⟩, ⟨6, false, [9, 11], [], 0, [2, 3, 4, 5]⟩, ⟨7, false, [12], [0], 0, [2, 3, 4, 5, 6]⟩, ⟨8, true, [13], [1, 2], 4, [2, 3, 4, 5, 6, 7]⟩, ⟨9, false, [6], [], 0, [0]⟩, ⟨10, false, [15], [], 0, [0, 9]⟩, ⟨11, false, [7, 16], [], 0, [0, 1, 2, 3, 4, 5, 6, 7, 8, 9, 10]⟩, ⟨12, true, [14, 17], [0, 11], 0, [0, 1, 2, 3, 4, 5, 6, 7, 8, 9, 10, 11]⟩] (by kernel_rfl) ?_
 refine ⟨by decide, ?_⟩
 refine bk h fun t1 k2 h => ?_
 refine cl3 cok.g (alloc_copied.sc fu a0.sets.1 _ k2) (.ptr 11 0) [(1, .box 112 (.agg [vi .i64 a0.sets.1.size, .sl 2 1 []])), (2, .row (.int .u64) 119 (a0.sets.1.words : List Int)), (11, .box 112 (.agg [vi .i64 t1.size, .sl 12 1 []])), (12, .row (.int .u64) 119 (t1.words : List Int))] 13 (by kernel_rfl) (by kernel_rfl) ?_
 refine ⟨by decide, ?_⟩
 exact fiN h (by kernel_rfl)
def alloc_Alloc_Abort.f (fu : Nat) (a0 : S_alloc_Alloc) : Option S_alloc_Alloc := ((alloc_Alloc_become_c3_c0.f fu a0).bind fun t1 => ((alloc_Alloc_Mark.f fu t1).bind fun t3 => some (t3)))
theorem alloc_Alloc_Abort.sc (fu : Nat) (a0 : S_alloc_Alloc) (r : S_alloc_Alloc) (h : alloc_Alloc_Abort.f fu a0 = some r) : SC Tryd.prog CT 41 [.ptr 0 0] [.box 108 (.agg [vi .i64 a0.reserve, .agg [.ptr 1 0, .ptr 3 0, .ptr 5 0, .ptr 7 0]]), .box 112 (.agg [vi .i64 a0.sets.1.size, .sl 2 1 []]), .row (.int .u64) 119 (a0.sets.1.words : List Int), .box 112 (.agg [vi .i64 a0.sets.2.1.size, .sl 4 1 []]), .row (.int .u64) 119 (a0.sets.2.1.words : List Int), .box 112 (.agg [vi .i64 a0.sets.2.2.1.size, .sl 6 1 []]), .row (.int .u64) 119 (a0.sets.2.2.1.words : List Int), .box 112 (.agg [vi .i64 a0.sets.2.2.2.size, .sl 8 1 []]), .row (.int .u64) 119 (a0.sets.2.2.2.words : List Int)] (.tup []) [.box 108 (.agg [vi .i64 r.reserve, .agg [.ptr 1 0, .ptr 3 0, .ptr 9 0, .ptr 11 0]]), .box 112 (.agg [vi .i64 r.sets.1.size, .sl 2 1 []]), .row (.int .u64) 119 (r.sets.1.words : List Int), .box 112 (.agg [vi .i64 r.sets.2.1.size, .sl 4 1 []]), .row (.int .u64) 119 (r.sets.2.1.words : List Int), .gone, .gone, .gone, .gone, .box 112 (.agg [vi .i64 r.sets.2.2.1.size, .sl 10 1 []]), .row (.int .u64) 119 (r.sets.2.2.1.words : List Int), .box 112 (.agg [vi .i64 r.sets.2.2.2.size, .sl 12 1 []]), .row (.int .u64) 119 (r.sets.2.2.2.words : List Int)] := by
 unfold alloc_Alloc_Abort.f at h
 refine sc_of (r := r) (N := 6) (rs := []) (V := fun (r : S_alloc_Alloc) => .tup []) (R' := fun (r : S_alloc_Alloc) => [.box 108 (.agg [vi .i64 r.reserve, .agg [.ptr 1 0, .ptr 3 0, .ptr 9 0, .ptr 11 0]]), .box 112 (.agg [vi .i64 r.sets.1.size, .sl 2 1 []]), .row (.int .u64) 119 (r.sets.1.words : List Int), .box 112 (.agg [vi .i64 r.sets.2.1.size, .sl 4 1 []]), .row (.int .u64) 119 (r.sets.2.1.words : List Int), .gone, .gone, .gone, .gone, .box 112 (.agg [vi .i64 r.sets.2.2.1.size, .sl 10 1 []]), .row (.int .u64) 119 (r.sets.2.2.1.words : List Int), .box 112 (.agg [vi .i64 r.sets.2.2.2.size, .sl 12 1 []]), .row (.int .u64) 119 (r.sets.2.2.2.words : List Int)]) cok Tryd.func41 rfl rfl rfl (by kernel_rfl) (by kernel_rfl) rfl rfl fun X => ?_
 refine bk h fun t1 k2 h => ?_
 refine cl3 cok.g (alloc_Alloc_become_c3_c0.sc fu a0 _ k2) (.tup []) [(0, .box 108 (.agg [vi .i64 t1.reserve, .agg [.ptr 1 0, .ptr 3 0, .ptr 5 0, .ptr 18 0]])), (1, .box 112 (.agg [vi .i64 t1.sets.1.size, .sl 2 1 []])), (2, .row (.int .u64) 119 (t1.sets.1.words : List Int)), (3, .box 112 (.agg [vi .i64 t1.sets.2.1.size, .sl 4 1 []])), (4, .row (.int .u64) 119 (t1.sets.2.1.words : List Int)), (5, .box 112 (.agg [vi .i64 t1.sets.2.2.1.size, .sl 6 1 []])), (6, .row (.int .u64) 119 (t1.sets.2.2.1.words : List Int)), (7, .gone), (8, .gone), (18, .box 112 (.agg [vi .i64 t1.sets.2.2.2.size, .sl 19 1 []])), (19, .row (.int .u64) 119 (t1.sets.2.2.2.words : List Int))] 20 (by kernel_rfl) (by kernel_rfl) ?_
 refine bk h fun t3 k4 h => ?_
 refine cl3 cok.g (alloc_Alloc_Mark.sc fu t1 _ k4) (.tup []) [(0, .box 108 (.agg [vi .i64 t3.reserve, .agg [.ptr 1 0, .ptr 3 0, .ptr 29 0, .ptr 18 0]])), (1, .box 112 (.agg [vi .i64 t3.sets.1.size, .sl 2 1 []])), (2, .row (.int .u64) 119 (t3.sets.1.words : List Int)), (3, .box 112 (.agg [vi .i64 t3.sets.2.1.size, .sl 4 1 []])), (4, .row (.int .u64) 119 (t3.sets.2.1.words : List Int)), (5, .gone), (6, .gone), (18, .box 112 (.agg [vi .i64 t3.sets.2.2.2.size, .sl 19 1 []])), (19, .row (.int .u64) 119 (t3.sets.2.2.2.words : List Int)), (29, .box 112 (.agg [vi .i64 t3.sets.2.2.1.size, .sl 30 1 []])), (30, .row (.int .u64) 119 (t3.sets.2.2.1.words : List Int))] 31 (by kernel_rfl) (by kernel_rfl) ?_
 exact fiN h (by kernel_rfl)
def rickyardref01_Rest.f (fu : Nat) (a0 : Int) (a1 : Int) : Option Int := if a1 ≠ 0 then if a1 ≠ 0 then some ((Int.tmod (IntKind.i64.wrap ((Int.tmod a0 a1) + a1)) a1)) else none else none
theorem rickyardref01_Rest.sc (fu : Nat) (a0 : Int) (a1 : Int) (r : Int) (h : rickyardref01_Rest.f fu a0 a1 = some r) : SC Tryd.prog CT 26 [vi .i64 a0, vi .i64 a1] [] (vi .i64 r) [] := by
 unfold rickyardref01_Rest.f at h
 refine sc_of (r := r) (N := 12) (rs := [.tmp 4]) (V := fun (r : Int) => vi .i64 r) (R' := fun (r : Int) => []) cok Tryd.func26 rfl rfl rfl (by kernel_rfl) (by kernel_rfl) rfl rfl fun X => ?_
 refine ag h fun h => ?_
 refine ag h fun h => ?_
 exact fi h (by kernel_rfl)
def shadow_Store_Drop.f (fu : Nat) (a0 : S_shadow_Store) (a1 : Int) : Option (Int × S_shadow_Store) := ((alloc_Alloc_Give.f fu a0.blocks a1).bind fun t1 => some (t1.1, (⟨a0.device, t1.2⟩ : S_shadow_Store)))
theorem shadow_Store_Drop.sc (fu : Nat) (a0 : S_shadow_Store) (a1 : Int) (r : Int × S_shadow_Store) (h : shadow_Store_Drop.f fu a0 a1 = some r) : SC Tryd.prog CT 21 [.ptr 0 0, vi .i64 a1] [.box 114 (.agg [.ptr 1 0, .ptr 4 0]), .box 105 (.agg [.sl 2 4 [], .agg [.sl 3 1 [], vi .i64 a0.device.plan.at_], vb a0.device.off, vb a0.device.armed, vi .i64 a0.device.left, vi .i64 a0.device.steps]), .row (.st .S_pmem_cell) 125 (a0.device.cells : List S_pmem_cell), .row (.int .i64) 3 (a0.device.plan.list : List Int), .box 108 (.agg [vi .i64 a0.blocks.reserve, .agg [.ptr 5 0, .ptr 7 0, .ptr 9 0, .ptr 11 0]]), .box 112 (.agg [vi .i64 a0.blocks.sets.1.size, .sl 6 1 []]), .row (.int .u64) 119 (a0.blocks.sets.1.words : List Int), .box 112 (.agg [vi .i64 a0.blocks.sets.2.1.size, .sl 8 1 []]), .row (.int .u64) 119 (a0.blocks.sets.2.1.words : List Int), .box 112 (.agg [vi .i64 a0.blocks.sets.2.2.1.size, .sl 10 1 []]), .row (.int .u64) 119 (a0.blocks.sets.2.2.1.words : List Int), .box 112 (.agg [vi .i64 a0.blocks.sets.2.2.2.size, .sl 12 1 []]), .row (.int .u64) 119 (a0.blocks.sets.2.2.2.words : List Int)] (vi .i64 r.1) [.box 114 (.agg [.ptr 1 0, .ptr 4 0]), .box 105 (.agg [.sl 2 4 [], .agg [.sl 3 1 [], vi .i64 r.2.device.plan.at_], vb r.2.device.off, vb r.2.device.armed, vi .i64 r.2.device.left, vi .i64 r.2.device.steps]), .row (.st .S_pmem_cell) 125 (r.2.device.cells : List S_pmem_cell), .row (.int .i64) 3 (r.2.device.plan.list : List Int), .box 108 (.agg [vi .i64 r.2.blocks.reserve, .agg [.ptr 5 0, .ptr 7 0, .ptr 9 0, .ptr 11 0]]), .box 112 (.agg [vi .i64 r.2.blocks.sets.1.size, .sl 6 1 []]), .row (.int .u64) 119 (r.2.blocks.sets.1.words : List Int), .box 112 (.agg [vi .i64 r.2.blocks.sets.2.1.size, .sl 8 1 []]), .row (.int .u64) 119 (r.2.blocks.sets.2.1.words : List Int), .box 112 (.agg [vi .i64 r.2.blocks.sets.2.2.1.size, .sl 10 1 []]), .row (.int .u64) 119 (r.2.blocks.sets.2.2.1.words : List Int), .box 112 (.agg [vi .i64 r.2.blocks.sets.2.2.2.size, .sl 12 1 []]), .row (.int .u64) 119 (r.2.blocks.sets.2.2.2.words : List Int)] := by
 unfold shadow_Store_Drop.f at h
 refine sc_of (r := r) (N := 11) (rs := [.tmp 4]) (V := fun (r : Int × S_shadow_Store) => vi .i64 r.1) (R' := fun (r : Int × S_shadow_Store) => [.box 114 (.agg [.ptr 1 0, .ptr 4 0]), .box 105 (.agg [.sl 2 4 [], .agg [.sl 3 1 [], vi .i64 r.2.device.plan.at_], vb r.2.device.off, vb r.2.device.armed, vi .i64 r.2.device.left, vi .i64 r.2.device.steps]), .row (.st .S_pmem_cell) 125 (r.2.device.cells : List S_pmem_cell), .row (.int .i64) 3 (r.2.device.plan.list : List Int), .box 108 (.agg [vi .i64 r.2.blocks.reserve, .agg [.ptr 5 0, .ptr 7 0, .ptr 9 0, .ptr 11 0]]), .box 112 (.agg [vi .i64 r.2.blocks.sets.1.size, .sl 6 1 []]), .row (.int .u64) 119 (r.2.blocks.sets.1.words : List Int), .box 112 (.agg [vi .i64 r.2.blocks.sets.2.1.size, .sl 8 1 []]), .row (.int .u64) 119 (r.2.blocks.sets.2.1.words : List Int), .box 112 (.agg [vi .i64 r.2.blocks.sets.2.2.1.size, .sl 10 1 []]), .row (.int .u64) 119 (r.2.blocks.sets.2.2.1.words : List Int), .box 112 (.agg [vi .i64 r.2.blocks.sets.2.2.2.size, .sl 12 1 []]), .row (.int .u64) 119 (r.2.blocks.sets.2.2.2.words : List Int)]) cok Tryd.func21 rfl rfl rfl (by kernel_rfl) (by kernel_rfl) rfl rfl fun X => ?_
 refine bk h fun t1 k2 h => ?_
 refine cl3 cok.g (alloc_Alloc_Give.sc fu a0.blocks a1 _ k2) (vi .i64 t1.1) [(4, .box 108 (.agg [vi .i64 t1.2.reserve, .agg [.ptr 5 0, .ptr 7 0, .ptr 9 0, .ptr 11 0]])), (5, .box 112 (.agg [vi .i64 t1.2.sets.1.size, .sl 6 1 []])), (6, .row (.int .u64) 119 (t1.2.sets.1.words : List Int)), (7, .box 112 (.agg [vi .i64 t1.2.sets.2.1.size, .sl 8 1 []])), (8, .row (.int .u64) 119 (t1.2.sets.2.1.words : List Int)), (9, .box 112 (.agg [vi .i64 t1.2.sets.2.2.1.size, .sl 10 1 []])), (10, .row (.int .u64) 119 (t1.2.sets.2.2.1.words : List Int)), (11, .box 112 (.agg [vi .i64 t1.2.sets.2.2.2.size, .sl 12 1 []])), (12, .row (.int .u64) 119 (t1.2.sets.2.2.2.words : List Int))] 22 (by kernel_rfl) (by kernel_rfl) ?_
 exact fi h (by kernel_rfl)
def pmem_Device_Fence.s0 (fu : Nat) (a0 : S_pmem_Device) : (Int × (List S_pmem_cell)) → Option (Sum (List S_pmem_cell) (Int × (List S_pmem_cell))) := fun s4 => (if (decide (s4.1 < (List.length a0.cells : Int))) = true then if 0 ≤ s4.1 ∧ s4.1 < (List.length s4.2 : Int) then (((if (ix s4.2 s4.1).flushed = true then ((pmem_cell_keep__i0.f fu s4.2 s4.1 ((ix s4.2 s4.1).sent)).bind fun t14 => some (t14)) else some (s4.2)) : Option (List S_pmem_cell)).bind fun x10 => some (Sum.inr ((IntKind.i64.wrap (s4.1 + 1)), x10))) else none else some (Sum.inl (s4.2)))
def pmem_Device_Fence.f (fu : Nat) (a0 : S_pmem_Device) : Option (Int × S_pmem_Device) := ((pmem_Device_may.f fu a0 0 1).bind fun t1 => (if (!decide (t1 = 0)) = true then some (t1, a0) else ((loopM (pmem_Device_Fence.s0 fu a0) fu (0, a0.cells)).bind fun e5 => ((pmem_Device_step.f fu (⟨e5, a0.plan, a0.off, a0.armed, a0.left, a0.steps⟩ : S_pmem_Device)).bind fun t16 => some (0, t16)))))
theorem pmem_Device_Fence.sc (fu : Nat) (a0 : S_pmem_Device) (r : Int × S_pmem_Device) (h : pmem_Device_Fence.f fu a0 = some r) : SC Tryd.prog CT 97 [.ptr 0 0] [.box 105 (.agg [.sl 1 4 [], .agg [.sl 2 1 [], vi .i64 a0.plan.at_], vb a0.off, vb a0.armed, vi .i64 a0.left, vi .i64 a0.steps]), .row (.st .S_pmem_cell) 125 (a0.cells : List S_pmem_cell), .row (.int .i64) 3 (a0.plan.list : List Int)] (vi .i64 r.1) [.box 105 (.agg [.sl 1 4 [], .agg [.sl 2 1 [], vi .i64 r.2.plan.at_], vb r.2.off, vb r.2.armed, vi .i64 r.2.left, vi .i64 r.2.steps]), .row (.st .S_pmem_cell) 125 (r.2.cells : List S_pmem_cell), .row (.int .i64) 3 (r.2.plan.list : List Int)] := by
 unfold pmem_Device_Fence.f at h
 refine sc_of (r := r) (N := 38) (rs := [.tmp 2]) (V := fun (r : Int × S_pmem_Device) => vi .i64 r.1) (R' := fun (r : Int × S_pmem_Device) => [.box 105 (.agg [.sl 1 4 [], .agg [.sl 2 1 [], vi .i64 r.2.plan.at_], vb r.2.off, vb r.2.armed, vi .i64 r.2.left, vi .i64 r.2.steps]), .row (.st .S_pmem_cell) 125 (r.2.cells : List S_pmem_cell), .row (.int .i64) 3 (r.2.plan.list : List Int)]) cok Tryd.func97 rfl rfl rfl (by kernel_rfl) (by kernel_rfl) rfl rfl fun X => ?_
 refine bk h fun t1 k2 h => ?_
 refine cl3 cok.g (pmem_Device_may.sc fu a0 0 1 _ k2) (vi .i64 t1) [(0, .box 105 (.agg [.sl 1 4 [], .agg [.sl 2 1 [], vi .i64 a0.plan.at_], vb a0.off, vb a0.armed, vi .i64 a0.left, vi .i64 a0.steps])), (1, .row (.st .S_pmem_cell) 125 (a0.cells : List S_pmem_cell)), (2, .row (.int .i64) 3 (a0.plan.list : List Int))] 6 (by kernel_rfl) (by kernel_rfl) ?_
 refine t_cond cok ?_
 refine bi h (fun c3 h => ?_) (fun c3 h => ?_)
 ·skip
  exact fi h (by kernel_rfl)
 refine bk h fun e5 l6 h => ?_
 refine t_cutx cok 0 (fun (e5 : (List S_pmem_cell)) => ⟨[(0, .ptr 0 0)], [.box 105 (.agg [.sl 1 4 [], .agg [.sl 2 1 [], vi .i64 a0.plan.at_], vb a0.off, vb a0.armed, vi .i64 a0.left, vi .i64 a0.steps]), .row (.st .S_pmem_cell) 125 (e5 : List S_pmem_cell), .row (.int .i64) 3 (a0.plan.list : List Int)]⟩) e5 ?_ ?_
 ·skip
  have h7 := h
  refine t_loop cok (fun (s4 : Int × (List S_pmem_cell)) => ⟨[(0, .ptr 0 0), (15, vi .i64 (List.length a0.cells : Int)), (16, vi .i64 s4.1)], [.box 105 (.agg [.sl 1 4 [], .agg [.sl 2 1 [], vi .i64 a0.plan.at_], vb a0.off, vb a0.armed, vi .i64 a0.left, vi .i64 a0.steps]), .row (.st .S_pmem_cell) 125 (s4.2 : List S_pmem_cell), .row (.int .i64) 3 (a0.plan.list : List Int)]⟩) l6 (by kernel_rfl) (fun s4 x8 h => ?_)
  unfold pmem_Device_Fence.s0 at h
  refine t_cond cok ?_
  refine bi h (fun c9 h => ?_) (fun c9 h => ?_)
  ·skip
   refine ag h fun h => ?_
   refine bk h fun x10 j11 h => ?_
   refine t_cut cok (fun (x10 : (List S_pmem_cell)) => ⟨[(0, .ptr 0 0), (15, vi .i64 (List.length a0.cells : Int)), (16, vi .i64 s4.1)], [.box 105 (.agg [.sl 1 4 [], .agg [.sl 2 1 [], vi .i64 a0.plan.at_], vb a0.off, vb a0.armed, vi .i64 a0.left, vi .i64 a0.steps]), .row (.st .S_pmem_cell) 125 (x10 : List S_pmem_cell), .row (.int .i64) 3 (a0.plan.list : List Int)]⟩) x10 ?_ ?_
   ·skip
    have h12 := h
    have h := j11
    refine t_cond cok ?_
    refine bi h (fun c13 h => ?_) (fun c13 h => ?_)
    ·skip
     refine bk h fun t14 k15 h => ?_
     refine cl3 cok.g (pmem_cell_keep__i0.sc fu s4.2 s4.1 ((ix s4.2 s4.1).sent) _ k15) (.tup []) [(1, .row (.st .S_pmem_cell) 125 (t14 : List S_pmem_cell))] 4 (by kernel_rfl) (by kernel_rfl) ?_
     exact em h (by kernel_rfl)
    exact em h (by kernel_rfl)
   exact lpi h (by kernel_rfl)
  exact lpx h (fun hy => em (sj hy) (by kernel_rfl))
 refine bk h fun t16 k17 h => ?_
 refine cl3 cok.g (pmem_Device_step.sc fu (⟨e5, a0.plan, a0.off, a0.armed, a0.left, a0.steps⟩ : S_pmem_Device) _ k17) (.tup []) [(0, .box 105 (.agg [.sl 1 4 [], .agg [.sl 2 1 [], vi .i64 t16.plan.at_], vb t16.off, vb t16.armed, vi .i64 t16.left, vi .i64 t16.steps])), (1, .row (.st .S_pmem_cell) 125 (t16.cells : List S_pmem_cell)), (2, .row (.int .i64) 3 (t16.plan.list : List Int))] 6 (by kernel_rfl) (by kernel_rfl) ?_
 exact fi h (by kernel_rfl)
def press_Sure.f (fu : Nat) (a0 : S_pmem_Device) : Option (Int × S_pmem_Device) := ((pmem_Device_Fence.f fu a0).bind fun t1 => some (t1.1, t1.2))
theorem press_Sure.sc (fu : Nat) (a0 : S_pmem_Device) (r : Int × S_pmem_Device) (h : press_Sure.f fu a0 = some r) : SC Tryd.prog CT 65 [.ptr 0 0] [.box 105 (.agg [.sl 1 4 [], .agg [.sl 2 1 [], vi .i64 a0.plan.at_], vb a0.off, vb a0.armed, vi .i64 a0.left, vi .i64 a0.steps]), .row (.st .S_pmem_cell) 125 (a0.cells : List S_pmem_cell), .row (.int .i64) 3 (a0.plan.list : List Int)] (vi .i64 r.1) [.box 105 (.agg [.sl 1 4 [], .agg [.sl 2 1 [], vi .i64 r.2.plan.at_], vb r.2.off, vb r.2.armed, vi .i64 r.2.left, vi .i64 r.2.steps]), .row (.st .S_pmem_cell) 125 (r.2.cells : List S_pmem_cell), .row (.int .i64) 3 (r.2.plan.list : List Int)] := by
 unfold press_Sure.f at h
 refine sc_of (r := r) (N := 7) (rs := [.tmp 2]) (V := fun (r : Int × S_pmem_Device) => vi .i64 r.1) (R' := fun (r : Int × S_pmem_Device) => [.box 105 (.agg [.sl 1 4 [], .agg [.sl 2 1 [], vi .i64 r.2.plan.at_], vb r.2.off, vb r.2.armed, vi .i64 r.2.left, vi .i64 r.2.steps]), .row (.st .S_pmem_cell) 125 (r.2.cells : List S_pmem_cell), .row (.int .i64) 3 (r.2.plan.list : List Int)]) cok Tryd.func65 rfl rfl rfl (by kernel_rfl) (by kernel_rfl) rfl rfl fun X => ?_
 refine t_cond cok ?_
 refine bk h fun t1 k2 h => ?_
 refine cl3 cok.g (pmem_Device_Fence.sc fu a0 _ k2) (vi .i64 t1.1) [(0, .box 105 (.agg [.sl 1 4 [], .agg [.sl 2 1 [], vi .i64 t1.2.plan.at_], vb t1.2.off, vb t1.2.armed, vi .i64 t1.2.left, vi .i64 t1.2.steps])), (1, .row (.st .S_pmem_cell) 125 (t1.2.cells : List S_pmem_cell)), (2, .row (.int .i64) 3 (t1.2.plan.list : List Int))] 6 (by kernel_rfl) (by kernel_rfl) ?_
 exact fi h (by kernel_rfl)
def shadow_Store_Sure.f (fu : Nat) (a0 : S_shadow_Store) : Option (Int × S_shadow_Store) := ((press_Sure.f fu a0.device).bind fun t1 => some (t1.1, (⟨t1.2, a0.blocks⟩ : S_shadow_Store)))
theorem shadow_Store_Sure.sc (fu : Nat) (a0 : S_shadow_Store) (r : Int × S_shadow_Store) (h : shadow_Store_Sure.f fu a0 = some r) : SC Tryd.prog CT 29 [.ptr 0 0] [.box 114 (.agg [.ptr 1 0, .ptr 4 0]), .box 105 (.agg [.sl 2 4 [], .agg [.sl 3 1 [], vi .i64 a0.device.plan.at_], vb a0.device.off, vb a0.device.armed, vi .i64 a0.device.left, vi .i64 a0.device.steps]), .row (.st .S_pmem_cell) 125 (a0.device.cells : List S_pmem_cell), .row (.int .i64) 3 (a0.device.plan.list : List Int), .box 108 (.agg [vi .i64 a0.blocks.reserve, .agg [.ptr 5 0, .ptr 7 0, .ptr 9 0, .ptr 11 0]]), .box 112 (.agg [vi .i64 a0.blocks.sets.1.size, .sl 6 1 []]), .row (.int .u64) 119 (a0.blocks.sets.1.words : List Int), .box 112 (.agg [vi .i64 a0.blocks.sets.2.1.size, .sl 8 1 []]), .row (.int .u64) 119 (a0.blocks.sets.2.1.words : List Int), .box 112 (.agg [vi .i64 a0.blocks.sets.2.2.1.size, .sl 10 1 []]), .row (.int .u64) 119 (a0.blocks.sets.2.2.1.words : List Int), .box 112 (.agg [vi .i64 a0.blocks.sets.2.2.2.size, .sl 12 1 []]), .row (.int .u64) 119 (a0.blocks.sets.2.2.2.words : List Int)] (vi .i64 r.1) [.box 114 (.agg [.ptr 1 0, .ptr 4 0]), .box 105 (.agg [.sl 2 4 [], .agg [.sl 3 1 [], vi .i64 r.2.device.plan.at_], vb r.2.device.off, vb r.2.device.armed, vi .i64 r.2.device.left, vi .i64 r.2.device.steps]), .row (.st .S_pmem_cell) 125 (r.2.device.cells : List S_pmem_cell), .row (.int .i64) 3 (r.2.device.plan.list : List Int), .box 108 (.agg [vi .i64 r.2.blocks.reserve, .agg [.ptr 5 0, .ptr 7 0, .ptr 9 0, .ptr 11 0]]), .box 112 (.agg [vi .i64 r.2.blocks.sets.1.size, .sl 6 1 []]), .row (.int .u64) 119 (r.2.blocks.sets.1.words : List Int), .box 112 (.agg [vi .i64 r.2.blocks.sets.2.1.size, .sl 8 1 []]), .row (.int .u64) 119 (r.2.blocks.sets.2.1.words : List Int), .box 112 (.agg [vi .i64 r.2.blocks.sets.2.2.1.size, .sl 10 1 []]), .row (.int .u64) 119 (r.2.blocks.sets.2.2.1.words : List Int), .box 112 (.agg [vi .i64 r.2.blocks.sets.2.2.2.size, .sl 12 1 []]), .row (.int .u64) 119 (r.2.blocks.sets.2.2.2.words : List Int)] := by
 unfold shadow_Store_Sure.f at h
 refine sc_of (r := r) (N := 8) (rs := [.tmp 2]) (V := fun (r : Int × S_shadow_Store) => vi .i64 r.1) (R' := fun (r : Int × S_shadow_Store) => [.box 114 (.agg [.ptr 1 0, .ptr 4 0]), .box 105 (.agg [.sl 2 4 [], .agg [.sl 3 1 [], vi .i64 r.2.device.plan.at_], vb r.2.device.off, vb r.2.device.armed, vi .i64 r.2.device.left, vi .i64 r.2.device.steps]), .row (.st .S_pmem_cell) 125 (r.2.device.cells : List S_pmem_cell), .row (.int .i64) 3 (r.2.device.plan.list : List Int), .box 108 (.agg [vi .i64 r.2.blocks.reserve, .agg [.ptr 5 0, .ptr 7 0, .ptr 9 0, .ptr 11 0]]), .box 112 (.agg [vi .i64 r.2.blocks.sets.1.size, .sl 6 1 []]), .row (.int .u64) 119 (r.2.blocks.sets.1.words : List Int), .box 112 (.agg [vi .i64 r.2.blocks.sets.2.1.size, .sl 8 1 []]), .row (.int .u64) 119 (r.2.blocks.sets.2.1.words : List Int), .box 112 (.agg [vi .i64 r.2.blocks.sets.2.2.1.size, .sl 10 1 []]), .row (.int .u64) 119 (r.2.blocks.sets.2.2.1.words : List Int), .box 112 (.agg [vi .i64 r.2.blocks.sets.2.2.2.size, .sl 12 1 []]), .row (.int .u64) 119 (r.2.blocks.sets.2.2.2.words : List Int)]) cok Tryd.func29 rfl rfl rfl (by kernel_rfl) (by kernel_rfl) rfl rfl fun X => ?_
 refine bk h fun t1 k2 h => ?_
 refine cl3 cok.g (press_Sure.sc fu a0.device _ k2) (vi .i64 t1.1) [(1, .box 105 (.agg [.sl 2 4 [], .agg [.sl 3 1 [], vi .i64 t1.2.plan.at_], vb t1.2.off, vb t1.2.armed, vi .i64 t1.2.left, vi .i64 t1.2.steps])), (2, .row (.st .S_pmem_cell) 125 (t1.2.cells : List S_pmem_cell)), (3, .row (.int .i64) 3 (t1.2.plan.list : List Int))] 16 (by kernel_rfl) (by kernel_rfl) ?_
 exact fi h (by kernel_rfl)
def rickyardlaw19_do_a1_1.f (fu : Nat) (a0 : S_shadow_Store) (a2 : S_rickyardlaw19_Act) : Option S_shadow_Store := ((rickyardref01_Rest.f fu a2.Kind 10).bind fun t1 => (((if (decide (t1 = 0)) = true then ((shadow_Store_Make.f fu a0 a2.B).bind fun t7 => some (t7.2.2)) else (((if (decide (t1 = 1)) = true then ((shadow_Store_Turn.f fu a0 a2.At a2.B).bind fun t13 => some (t13.2.2)) else (((if (decide (t1 = 2)) = true then ((shadow_Store_Drop.f fu a0 a2.At).bind fun t19 => some (t19.2)) else (((if (decide (t1 = 4)) = true then ((shadow_Store_Sure.f fu a0).bind fun t25 => some (t25.2)) else (((if (decide (t1 = 5)) = true then ((alloc_Alloc_Mark.f fu a0.blocks).bind fun t31 => some ((⟨a0.device, t31⟩ : S_shadow_Store))) else (((if (decide (t1 = 6)) = true then ((alloc_Alloc_Back.f fu a0.blocks).bind fun t37 => some ((⟨a0.device, t37⟩ : S_shadow_Store))) else (((if (decide (t1 = 8)) = true then ((alloc_Alloc_Abort.f fu a0.blocks).bind fun t43 => some ((⟨a0.device, t43⟩ : S_shadow_Store))) else some (a0)) : Option S_shadow_Store).bind fun x39 => some (x39))) : Option S_shadow_Store).bind fun x33 => some (x33))) : Option S_shadow_Store).bind fun x27 => some (x27))) : Option S_shadow_Store).bind fun x21 => some (x21))) : Option S_shadow_Store).bind fun x15 => some (x15))) : Option S_shadow_Store).bind fun x9 => some (x9))) : Option S_shadow_Store).bind fun x3 => some (x3)))
theorem rickyardlaw19_do_a1_1.sc (fu : Nat) (a0 : S_shadow_Store) (a2 : S_rickyardlaw19_Act) (r : S_shadow_Store) (h : rickyardlaw19_do_a1_1.f fu a0 a2 = some r) : SC Tryd.prog CT 23 [.ptr 0 0, .ptr 4 0, .v (.st .S_rickyardlaw19_Act) (a2 : S_rickyardlaw19_Act)] [.box 114 (.agg [.ptr 1 0, .ptr 4 0]), .box 105 (.agg [.sl 2 4 [], .agg [.sl 3 1 [], vi .i64 a0.device.plan.at_], vb a0.device.off, vb a0.device.armed, vi .i64 a0.device.left, vi .i64 a0.device.steps]), .row (.st .S_pmem_cell) 125 (a0.device.cells : List S_pmem_cell), .row (.int .i64) 3 (a0.device.plan.list : List Int), .box 108 (.agg [vi .i64 a0.blocks.reserve, .agg [.ptr 5 0, .ptr 7 0, .ptr 9 0, .ptr 11 0]]), .box 112 (.agg [vi .i64 a0.blocks.sets.1.size, .sl 6 1 []]), .row (.int .u64) 119 (a0.blocks.sets.1.words : List Int), .box 112 (.agg [vi .i64 a0.blocks.sets.2.1.size, .sl 8 1 []]), .row (.int .u64) 119 (a0.blocks.sets.2.1.words : List Int), .box 112 (.agg [vi .i64 a0.blocks.sets.2.2.1.size, .sl 10 1 []]), .row (.int .u64) 119 (a0.blocks.sets.2.2.1.words : List Int), .box 112 (.agg [vi .i64 a0.blocks.sets.2.2.2.size, .sl 12 1 []]), .row (.int .u64) 119 (a0.blocks.sets.2.2.2.words : List Int)] (.tup []) [.box 114 (.agg [.ptr 1 0, .ptr 4 0]), .box 105 (.agg [.sl 2 4 [], .agg [.sl 3 1 [], vi .i64 r.device.plan.at_], vb r.device.off, vb r.device.armed, vi .i64 r.device.left, vi .i64 r.device.steps]), .row (.st .S_pmem_cell) 125 (r.device.cells : List S_pmem_cell), .row (.int .i64) 3 (r.device.plan.list : List Int), .box 108 (.agg [vi .i64 r.blocks.reserve, .agg [.ptr 5 0, .ptr 7 0, .ptr 13 0, .ptr 15 0]]), .box 112 (.agg [vi .i64 r.blocks.sets.1.size, .sl 6 1 []]), .row (.int .u64) 119 (r.blocks.sets.1.words : List Int), .box 112 (.agg [vi .i64 r.blocks.sets.2.1.size, .sl 8 1 []]), .row (.int .u64) 119 (r.blocks.sets.2.1.words : List Int), .gone, .gone, .gone, .gone, .box 112 (.agg [vi .i64 r.blocks.sets.2.2.1.size, .sl 14 1 []]), .row (.int .u64) 119 (r.blocks.sets.2.2.1.words : List Int), .box 112 (.agg [vi .i64 r.blocks.sets.2.2.2.size, .sl 16 1 []]), .row (.int .u64) 119 (r.blocks.sets.2.2.2.words : List Int)] := by
 unfold rickyardlaw19_do_a1_1.f at h
 refine sc_of (r := r) (N := 45) (rs := []) (V := fun (r : S_shadow_Store) => .tup []) (R' := fun (r : S_shadow_Store) => [.box 114 (.agg [.ptr 1 0, .ptr 4 0]), .box 105 (.agg [.sl 2 4 [], .agg [.sl 3 1 [], vi .i64 r.device.plan.at_], vb r.device.off, vb r.device.armed, vi .i64 r.device.left, vi .i64 r.device.steps]), .row (.st .S_pmem_cell) 125 (r.device.cells : List S_pmem_cell), .row (.int .i64) 3 (r.device.plan.list : List Int), .box 108 (.agg [vi .i64 r.blocks.reserve, .agg [.ptr 5 0, .ptr 7 0, .ptr 13 0, .ptr 15 0]]), .box 112 (.agg [vi .i64 r.blocks.sets.1.size, .sl 6 1 []]), .row (.int .u64) 119 (r.blocks.sets.1.words : List Int), .box 112 (.agg [vi .i64 r.blocks.sets.2.1.size, .sl 8 1 []]), .row (.int .u64) 119 (r.blocks.sets.2.1.words : List Int), .gone, .gone, .gone, .gone, .box 112 (.agg [vi .i64 r.blocks.sets.2.2.1.size, .sl 14 1 []]), .row (.int .u64) 119 (r.blocks.sets.2.2.1.words : List Int), .box 112 (.agg [vi .i64 r.blocks.sets.2.2.2.size, .sl 16 1 []]), .row (.int .u64) 119 (r.blocks.sets.2.2.2.words : List Int)]) cok Tryd.func23 rfl rfl rfl (by kernel_rfl) (by kernel_rfl) rfl rfl fun X => ?_
 refine bk h fun t1 k2 h => ?_
 refine cl3 cok.g (rickyardref01_Rest.sc fu a2.Kind 10 _ k2) (vi .i64 t1) [] 14 (by kernel_rfl) (by kernel_rfl) ?_
 refine bk h fun x3 j4 h => ?_
 refine t_cut cok (fun (x3 : S_shadow_Store) => ⟨[], [.box 114 (.agg [.ptr 1 0, .ptr 4 0]), .box 105 (.agg [.sl 2 4 [], .agg [.sl 3 1 [], vi .i64 x3.device.plan.at_], vb x3.device.off, vb x3.device.armed, vi .i64 x3.device.left, vi .i64 x3.device.steps]), .row (.st .S_pmem_cell) 125 (x3.device.cells : List S_pmem_cell), .row (.int .i64) 3 (x3.device.plan.list : List Int), .box 108 (.agg [vi .i64 x3.blocks.reserve, .agg [.ptr 5 0, .ptr 7 0, .ptr 13 0, .ptr 15 0]]), .box 112 (.agg [vi .i64 x3.blocks.sets.1.size, .sl 6 1 []]), .row (.int .u64) 119 (x3.blocks.sets.1.words : List Int), .box 112 (.agg [vi .i64 x3.blocks.sets.2.1.size, .sl 8 1 []]), .row (.int .u64) 119 (x3.blocks.sets.2.1.words : List Int), .gone, .gone, .gone, .gone, .box 112 (.agg [vi .i64 x3.blocks.sets.2.2.1.size, .sl 14 1 []]), .row (.int .u64) 119 (x3.blocks.sets.2.2.1.words : List Int), .box 112 (.agg [vi .i64 x3.blocks.sets.2.2.2.size, .sl 16 1 []]), .row (.int .u64) 119 (x3.blocks.sets.2.2.2.words : List Int)]⟩) x3 ?_ ?_
 ·skip
  have h5 := h
  have h := j4
  refine t_cond cok ?_
  refine bi h (fun c6 h => ?_) (fun c6 h => ?_)
  ·skip
   refine bk h fun t7 k8 h => ?_
   refine cl3 cok.g (shadow_Store_Make.sc fu a0 a2.B _ k8) (.tup [vi .i64 t7.1, vi .i64 t7.2.1]) [(0, .box 114 (.agg [.ptr 1 0, .ptr 4 0])), (1, .box 105 (.agg [.sl 2 4 [], .agg [.sl 3 1 [], vi .i64 t7.2.2.device.plan.at_], vb t7.2.2.device.off, vb t7.2.2.device.armed, vi .i64 t7.2.2.device.left, vi .i64 t7.2.2.device.steps])), (2, .row (.st .S_pmem_cell) 125 (t7.2.2.device.cells : List S_pmem_cell)), (3, .row (.int .i64) 3 (t7.2.2.device.plan.list : List Int)), (4, .box 108 (.agg [vi .i64 t7.2.2.blocks.reserve, .agg [.ptr 5 0, .ptr 7 0, .ptr 9 0, .ptr 11 0]])), (5, .box 112 (.agg [vi .i64 t7.2.2.blocks.sets.1.size, .sl 6 1 []])), (6, .row (.int .u64) 119 (t7.2.2.blocks.sets.1.words : List Int)), (7, .box 112 (.agg [vi .i64 t7.2.2.blocks.sets.2.1.size, .sl 8 1 []])), (8, .row (.int .u64) 119 (t7.2.2.blocks.sets.2.1.words : List Int)), (9, .box 112 (.agg [vi .i64 t7.2.2.blocks.sets.2.2.1.size, .sl 10 1 []])), (10, .row (.int .u64) 119 (t7.2.2.blocks.sets.2.2.1.words : List Int)), (11, .box 112 (.agg [vi .i64 t7.2.2.blocks.sets.2.2.2.size, .sl 12 1 []])), (12, .row (.int .u64) 119 (t7.2.2.blocks.sets.2.2.2.words : List Int))] 27 (by kernel_rfl) (by kernel_rfl) ?_
   exact em h (by kernel_rfl)
  refine bk h fun x9 j10 h => ?_
  refine t_cut cok (fun (x9 : S_shadow_Store) => ⟨[], [.box 114 (.agg [.ptr 1 0, .ptr 4 0]), .box 105 (.agg [.sl 2 4 [], .agg [.sl 3 1 [], vi .i64 x9.device.plan.at_], vb x9.device.off, vb x9.device.armed, vi .i64 x9.device.left, vi .i64 x9.device.steps]), .row (.st .S_pmem_cell) 125 (x9.device.cells : List S_pmem_cell), .row (.int .i64) 3 (x9.device.plan.list : List Int), .box 108 (.agg [vi .i64 x9.blocks.reserve, .agg [.ptr 5 0, .ptr 7 0, .ptr 13 0, .ptr 15 0]]), .box 112 (.agg [vi .i64 x9.blocks.sets.1.size, .sl 6 1 []]), .row (.int .u64) 119 (x9.blocks.sets.1.words : List Int), .box 112 (.agg [vi .i64 x9.blocks.sets.2.1.size, .sl 8 1 []]), .row (.int .u64) 119 (x9.blocks.sets.2.1.words : List Int), .gone, .gone, .gone, .gone, .box 112 (.agg [vi .i64 x9.blocks.sets.2.2.1.size, .sl 14 1 []]), .row (.int .u64) 119 (x9.blocks.sets.2.2.1.words : List Int), .box 112 (.agg [vi .i64 x9.blocks.sets.2.2.2.size, .sl 16 1 []]), .row (.int .u64) 119 (x9.blocks.sets.2.2.2.words : List Int)]⟩) x9 ?_ ?_
  ·skip
   have h11 := h
   have h := j10
   refine t_cond cok ?_
   refine bi h (fun c12 h => ?_) (fun c12 h => ?_)
   ·skip
    refine bk h fun t13 k14 h => ?_
    refine cl3 cok.g (shadow_Store_Turn.sc fu a0 a2.At a2.B _ k14) (.tup [vi .i64 t13.1, vi .i64 t13.2.1]) [(0, .box 114 (.agg [.ptr 1 0, .ptr 4 0])), (1, .box 105 (.agg [.sl 2 4 [], .agg [.sl 3 1 [], vi .i64 t13.2.2.device.plan.at_], vb t13.2.2.device.off, vb t13.2.2.device.armed, vi .i64 t13.2.2.device.left, vi .i64 t13.2.2.device.steps])), (2, .row (.st .S_pmem_cell) 125 (t13.2.2.device.cells : List S_pmem_cell)), (3, .row (.int .i64) 3 (t13.2.2.device.plan.list : List Int)), (4, .box 108 (.agg [vi .i64 t13.2.2.blocks.reserve, .agg [.ptr 5 0, .ptr 7 0, .ptr 9 0, .ptr 11 0]])), (5, .box 112 (.agg [vi .i64 t13.2.2.blocks.sets.1.size, .sl 6 1 []])), (6, .row (.int .u64) 119 (t13.2.2.blocks.sets.1.words : List Int)), (7, .box 112 (.agg [vi .i64 t13.2.2.blocks.sets.2.1.size, .sl 8 1 []])), (8, .row (.int .u64) 119 (t13.2.2.blocks.sets.2.1.words : List Int)), (9, .box 112 (.agg [vi .i64 t13.2.2.blocks.sets.2.2.1.size, .sl 10 1 []])), (10, .row (.int .u64) 119 (t13.2.2.blocks.sets.2.2.1.words : List Int)), (11, .box 112 (.agg [vi .i64 t13.2.2.blocks.sets.2.2.2.size, .sl 12 1 []])), (12, .row (.int .u64) 119 (t13.2.2.blocks.sets.2.2.2.words : List Int))] 27 (by kernel_rfl) (by kernel_rfl) ?_
    exact em h (by kernel_rfl)
   refine bk h fun x15 j16 h => ?_
   refine t_cut cok (fun (x15 : S_shadow_Store) => ⟨[], [.box 114 (.agg [.ptr 1 0, .ptr 4 0]), .box 105 (.agg [.sl 2 4 [], .agg [.sl 3 1 [], vi .i64 x15.device.plan.at_], vb x15.device.off, vb x15.device.armed, vi .i64 x15.device.left, vi .i64 x15.device.steps]), .row (.st .S_pmem_cell) 125 (x15.device.cells : List S_pmem_cell), .row (.int .i64) 3 (x15.device.plan.list : List Int), .box 108 (.agg [vi .i64 x15.blocks.reserve, .agg [.ptr 5 0, .ptr 7 0, .ptr 13 0, .ptr 15 0]]), .box 112 (.agg [vi .i64 x15.blocks.sets.1.size, .sl 6 1 []]), .row (.int .u64) 119 (x15.blocks.sets.1.words : List Int), .box 112 (.agg [vi .i64 x15.blocks.sets.2.1.size, .sl 8 1 []]), .row (.int .u64) 119 (x15.blocks.sets.2.1.words : List Int), .gone, .gone, .gone, .gone, .box 112 (.agg [vi .i64 x15.blocks.sets.2.2.1.size, .sl 14 1 []]), .row (.int .u64) 119 (x15.blocks.sets.2.2.1.words : List Int), .box 112 (.agg [vi .i64 x15.blocks.sets.2.2.2.size, .sl 16 1 []]), .row (.int .u64) 119 (x15.blocks.sets.2.2.2.words : List Int)]⟩) x15 ?_ ?_
   ·skip
    have h17 := h
    have h := j16
    refine t_cond cok ?_
    refine bi h (fun c18 h => ?_) (fun c18 h => ?_)
    ·skip
     refine bk h fun t19 k20 h => ?_
     refine cl3 cok.g (shadow_Store_Drop.sc fu a0 a2.At _ k20) (vi .i64 t19.1) [(0, .box 114 (.agg [.ptr 1 0, .ptr 4 0])), (1, .box 105 (.agg [.sl 2 4 [], .agg [.sl 3 1 [], vi .i64 t19.2.device.plan.at_], vb t19.2.device.off, vb t19.2.device.armed, vi .i64 t19.2.device.left, vi .i64 t19.2.device.steps])), (2, .row (.st .S_pmem_cell) 125 (t19.2.device.cells : List S_pmem_cell)), (3, .row (.int .i64) 3 (t19.2.device.plan.list : List Int)), (4, .box 108 (.agg [vi .i64 t19.2.blocks.reserve, .agg [.ptr 5 0, .ptr 7 0, .ptr 9 0, .ptr 11 0]])), (5, .box 112 (.agg [vi .i64 t19.2.blocks.sets.1.size, .sl 6 1 []])), (6, .row (.int .u64) 119 (t19.2.blocks.sets.1.words : List Int)), (7, .box 112 (.agg [vi .i64 t19.2.blocks.sets.2.1.size, .sl 8 1 []])), (8, .row (.int .u64) 119 (t19.2.blocks.sets.2.1.words : List Int)), (9, .box 112 (.agg [vi .i64 t19.2.blocks.sets.2.2.1.size, .sl 10 1 []])), (10, .row (.int .u64) 119 (t19.2.blocks.sets.2.2.1.words : List Int)), (11, .box 112 (.agg [vi .i64 t19.2.blocks.sets.2.2.2.size, .sl 12 1 []])), (12, .row (.int .u64) 119 (t19.2.blocks.sets.2.2.2.words : List Int))] 27 (by kernel_rfl) (by kernel_rfl) ?_
     exact em h (by kernel_rfl)
    refine bk h fun x21 j22 h => ?_
    refine t_cut cok (fun (x21 : S_shadow_Store) => ⟨[], [.box 114 (.agg [.ptr 1 0, .ptr 4 0]), .box 105 (.agg [.sl 2 4 [], .agg [.sl 3 1 [], vi .i64 x21.device.plan.at_], vb x21.device.off, vb x21.device.armed, vi .i64 x21.device.left, vi .i64 x21.device.steps]), .row (.st .S_pmem_cell) 125 (x21.device.cells : List S_pmem_cell), .row (.int .i64) 3 (x21.device.plan.list : List Int), .box 108 (.agg [vi .i64 x21.blocks.reserve, .agg [.ptr 5 0, .ptr 7 0, .ptr 13 0, .ptr 15 0]]), .box 112 (.agg [vi .i64 x21.blocks.sets.1.size, .sl 6 1 []]), .row (.int .u64) 119 (x21.blocks.sets.1.words : List Int), .box 112 (.agg [vi .i64 x21.blocks.sets.2.1.size, .sl 8 1 []]), .row (.int .u64) 119 (x21.blocks.sets.2.1.words : List Int), .gone, .gone, .gone, .gone, .box 112 (.agg [vi .i64 x21.blocks.sets.2.2.1.size, .sl 14 1 []]), .row (.int .u64) 119 (x21.blocks.sets.2.2.1.words : List Int), .box 112 (.agg [vi .i64 x21.blocks.sets.2.2.2.size, .sl 16 1 []]), .row (.int .u64) 119 (x21.blocks.sets.2.2.2.words : List Int)]⟩) x21 ?_ ?_
    ·skip
     have h23 := h
     have h := j22
     refine t_cond cok ?_
     refine bi h (fun c24 h => ?_) (fun c24 h => ?_)
     ·skip
      refine bk h fun t25 k26 h => ?_
      refine cl3 cok.g (shadow_Store_Sure.sc fu a0 _ k26) (vi .i64 t25.1) [(0, .box 114 (.agg [.ptr 1 0, .ptr 4 0])), (1, .box 105 (.agg [.sl 2 4 [], .agg [.sl 3 1 [], vi .i64 t25.2.device.plan.at_], vb t25.2.device.off, vb t25.2.device.armed, vi .i64 t25.2.device.left, vi .i64 t25.2.device.steps])), (2, .row (.st .S_pmem_cell) 125 (t25.2.device.cells : List S_pmem_cell)), (3, .row (.int .i64) 3 (t25.2.device.plan.list : List Int)), (4, .box 108 (.agg [vi .i64 t25.2.blocks.reserve, .agg [.ptr 5 0, .ptr 7 0, .ptr 9 0, .ptr 11 0]])), (5, .box 112 (.agg [vi .i64 t25.2.blocks.sets.1.size, .sl 6 1 []])), (6, .row (.int .u64) 119 (t25.2.blocks.sets.1.words : List Int)), (7, .box 112 (.agg [vi .i64 t25.2.blocks.sets.2.1.size, .sl 8 1 []])), (8, .row (.int .u64) 119 (t25.2.blocks.sets.2.1.words : List Int)), (9, .box 112 (.agg [vi .i64 t25.2.blocks.sets.2.2.1.size, .sl 10 1 []])), (10, .row (.int .u64) 119 (t25.2.blocks.sets.2.2.1.words : List Int)), (11, .box 112 (.agg [vi .i64 t25.2.blocks.sets.2.2.2.size, .sl 12 1 []])), (12, .row (.int .u64) 119 (t25.2.blocks.sets.2.2.2.words : List Int))] 27 (by kernel_rfl) (by kernel_rfl) ?_
      exact em h (by kernel_rfl)
     refine bk h fun x27 j28 h => ?_
     refine t_cut cok (fun (x27 : S_shadow_Store) => ⟨[], [.box 114 (.agg [.ptr 1 0, .ptr 4 0]), .box 105 (.agg [.sl 2 4 [], .agg [.sl 3 1 [], vi .i64 x27.device.plan.at_], vb x27.device.off, vb x27.device.armed, vi .i64 x27.device.left, vi .i64 x27.device.steps]), .row (.st .S_pmem_cell) 125 (x27.device.cells : List S_pmem_cell), .row (.int .i64) 3 (x27.device.plan.list : List Int), .box 108 (.agg [vi .i64 x27.blocks.reserve, .agg [.ptr 5 0, .ptr 7 0, .ptr 13 0, .ptr 15 0]]), .box 112 (.agg [vi .i64 x27.blocks.sets.1.size, .sl 6 1 []]), .row (.int .u64) 119 (x27.blocks.sets.1.words : List Int), .box 112 (.agg [vi .i64 x27.blocks.sets.2.1.size, .sl 8 1 []]), .row (.int .u64) 119 (x27.blocks.sets.2.1.words : List Int), .gone, .gone, .gone, .gone, .box 112 (.agg [vi .i64 x27.blocks.sets.2.2.1.size, .sl 14 1 []]), .row (.int .u64) 119 (x27.blocks.sets.2.2.1.words : List Int), .box 112 (.agg [vi .i64 x27.blocks.sets.2.2.2.size, .sl 16 1 []]), .row (.int .u64) 119 (x27.blocks.sets.2.2.2.words : List Int)]⟩) x27 ?_ ?_
     ·skip
      have h29 := h
      have h := j28
      refine t_cond cok ?_
      refine bi h (fun c30 h => ?_) (fun c30 h => ?_)
      ·skip
       refine bk h fun t31 k32 h => ?_
       refine cl3 cok.g (alloc_Alloc_Mark.sc fu a0.blocks _ k32) (.tup []) [(4, .box 108 (.agg [vi .i64 t31.reserve, .agg [.ptr 5 0, .ptr 7 0, .ptr 23 0, .ptr 11 0]])), (5, .box 112 (.agg [vi .i64 t31.sets.1.size, .sl 6 1 []])), (6, .row (.int .u64) 119 (t31.sets.1.words : List Int)), (7, .box 112 (.agg [vi .i64 t31.sets.2.1.size, .sl 8 1 []])), (8, .row (.int .u64) 119 (t31.sets.2.1.words : List Int)), (9, .gone), (10, .gone), (11, .box 112 (.agg [vi .i64 t31.sets.2.2.2.size, .sl 12 1 []])), (12, .row (.int .u64) 119 (t31.sets.2.2.2.words : List Int)), (23, .box 112 (.agg [vi .i64 t31.sets.2.2.1.size, .sl 24 1 []])), (24, .row (.int .u64) 119 (t31.sets.2.2.1.words : List Int))] 25 (by kernel_rfl) (by kernel_rfl) ?_
       exact em h (by kernel_rfl)
      refine bk h fun x33 j34 h => ?_
      refine t_cut cok (fun (x33 : S_shadow_Store) => ⟨[], [.box 114 (.agg [.ptr 1 0, .ptr 4 0]), .box 105 (.agg [.sl 2 4 [], .agg [.sl 3 1 [], vi .i64 x33.device.plan.at_], vb x33.device.off, vb x33.device.armed, vi .i64 x33.device.left, vi .i64 x33.device.steps]), .row (.st .S_pmem_cell) 125 (x33.device.cells : List S_pmem_cell), .row (.int .i64) 3 (x33.device.plan.list : List Int), .box 108 (.agg [vi .i64 x33.blocks.reserve, .agg [.ptr 5 0, .ptr 7 0, .ptr 13 0, .ptr 15 0]]), .box 112 (.agg [vi .i64 x33.blocks.sets.1.size, .sl 6 1 []]), .row (.int .u64) 119 (x33.blocks.sets.1.words : List Int), .box 112 (.agg [vi .i64 x33.blocks.sets.2.1.size, .sl 8 1 []]), .row (.int .u64) 119 (x33.blocks.sets.2.1.words : List Int), .gone, .gone, .gone, .gone, .box 112 (.agg [vi .i64 x33.blocks.sets.2.2.1.size, .sl 14 1 []]), .row (.int .u64) 119 (x33.blocks.sets.2.2.1.words : List Int), .box 112 (.agg [vi .i64 x33.blocks.sets.2.2.2.size, .sl 16 1 []]), .row (.int .u64) 119 (x33.blocks.sets.2.2.2.words : List Int)]⟩) x33 ?_ ?_
      ·skip
       have h35 := h
       have h := j34
       refine t_cond cok ?_
       refine bi h (fun c36 h => ?_) (fun c36 h => ?_)
       ·skip
        refine bk h fun t37 k38 h => ?_
        refine cl3 cok.g (alloc_Alloc_Back.sc fu a0.blocks _ k38) (.tup []) [(4, .box 108 (.agg [vi .i64 t37.reserve, .agg [.ptr 5 0, .ptr 7 0, .ptr 9 0, .ptr 23 0]])), (5, .box 112 (.agg [vi .i64 t37.sets.1.size, .sl 6 1 []])), (6, .row (.int .u64) 119 (t37.sets.1.words : List Int)), (7, .box 112 (.agg [vi .i64 t37.sets.2.1.size, .sl 8 1 []])), (8, .row (.int .u64) 119 (t37.sets.2.1.words : List Int)), (9, .box 112 (.agg [vi .i64 t37.sets.2.2.1.size, .sl 10 1 []])), (10, .row (.int .u64) 119 (t37.sets.2.2.1.words : List Int)), (11, .gone), (12, .gone), (23, .box 112 (.agg [vi .i64 t37.sets.2.2.2.size, .sl 24 1 []])), (24, .row (.int .u64) 119 (t37.sets.2.2.2.words : List Int))] 25 (by kernel_rfl) (by kernel_rfl) ?_
        exact em h (by kernel_rfl)
       refine bk h fun x39 j40 h => ?_
       refine t_cut cok (fun (x39 : S_shadow_Store) => ⟨[], [.box 114 (.agg [.ptr 1 0, .ptr 4 0]), .box 105 (.agg [.sl 2 4 [], .agg [.sl 3 1 [], vi .i64 x39.device.plan.at_], vb x39.device.off, vb x39.device.armed, vi .i64 x39.device.left, vi .i64 x39.device.steps]), .row (.st .S_pmem_cell) 125 (x39.device.cells : List S_pmem_cell), .row (.int .i64) 3 (x39.device.plan.list : List Int), .box 108 (.agg [vi .i64 x39.blocks.reserve, .agg [.ptr 5 0, .ptr 7 0, .ptr 13 0, .ptr 15 0]]), .box 112 (.agg [vi .i64 x39.blocks.sets.1.size, .sl 6 1 []]), .row (.int .u64) 119 (x39.blocks.sets.1.words : List Int), .box 112 (.agg [vi .i64 x39.blocks.sets.2.1.size, .sl 8 1 []]), .row (.int .u64) 119 (x39.blocks.sets.2.1.words : List Int), .gone, .gone, .gone, .gone, .box 112 (.agg [vi .i64 x39.blocks.sets.2.2.1.size, .sl 14 1 []]), .row (.int .u64) 119 (x39.blocks.sets.2.2.1.words : List Int), .box 112 (.agg [vi .i64 x39.blocks.sets.2.2.2.size, .sl 16 1 []]), .row (.int .u64) 119 (x39.blocks.sets.2.2.2.words : List Int)]⟩) x39 ?_ ?_
       ·skip
        have h41 := h
        have h := j40
        refine t_cond cok ?_
        refine bi h (fun c42 h => ?_) (fun c42 h => ?_)
        ·skip
         refine bk h fun t43 k44 h => ?_
         refine cl3 cok.g (alloc_Alloc_Abort.sc fu a0.blocks _ k44) (.tup []) [(4, .box 108 (.agg [vi .i64 t43.reserve, .agg [.ptr 5 0, .ptr 7 0, .ptr 23 0, .ptr 25 0]])), (5, .box 112 (.agg [vi .i64 t43.sets.1.size, .sl 6 1 []])), (6, .row (.int .u64) 119 (t43.sets.1.words : List Int)), (7, .box 112 (.agg [vi .i64 t43.sets.2.1.size, .sl 8 1 []])), (8, .row (.int .u64) 119 (t43.sets.2.1.words : List Int)), (9, .gone), (10, .gone), (11, .gone), (12, .gone), (23, .box 112 (.agg [vi .i64 t43.sets.2.2.1.size, .sl 24 1 []])), (24, .row (.int .u64) 119 (t43.sets.2.2.1.words : List Int)), (25, .box 112 (.agg [vi .i64 t43.sets.2.2.2.size, .sl 26 1 []])), (26, .row (.int .u64) 119 (t43.sets.2.2.2.words : List Int))] 27 (by kernel_rfl) (by kernel_rfl) ?_
         exact em h (by kernel_rfl)
        exact em h (by kernel_rfl)
       exact em h (by kernel_rfl)
      exact em h (by kernel_rfl)
     exact em h (by kernel_rfl)
    exact em h (by kernel_rfl)
   exact em h (by kernel_rfl)
  exact em h (by kernel_rfl)
 exact fiN h (by kernel_rfl)
def rickyardlaw19_small.s0 (fu : Nat) (a0 : List S_rickyardlaw19_Act) : Int → Option (Sum (Sum Bool Unit) Int) := fun s2 => (if (decide (s2 < (List.length a0 : Int))) = true then if 0 ≤ s2 ∧ s2 < (List.length a0 : Int) then (if (decide ((List.length ((ix a0 s2).B) : Int) > 200)) = true then some (Sum.inl (Sum.inl (false))) else some (Sum.inr ((IntKind.i64.wrap (s2 + 1))))) else none else some (Sum.inl (Sum.inr ())))
def rickyardlaw19_small.f (fu : Nat) (a0 : List S_rickyardlaw19_Act) (a1 : Int) : Option Bool := (if (decide ((List.length a0 : Int) > a1)) = true then some (false) else ((loopM (rickyardlaw19_small.s0 fu a0) fu (0)).bind fun e3 => match e3 with | Sum.inl p => some p | Sum.inr x5 => some (true)))
theorem rickyardlaw19_small.sc (fu : Nat) (a0 : List S_rickyardlaw19_Act) (a1 : Int) (r : Bool) (h : rickyardlaw19_small.f fu a0 a1 = some r) : SC Tryd.prog CT 22 [.v (.sl (.st .S_rickyardlaw19_Act)) (a0 : List S_rickyardlaw19_Act), vi .i64 a1] [] (vb r) [] := by
 unfold rickyardlaw19_small.f at h
 refine sc_of (r := r) (N := 23) (rs := [.tmp 4]) (V := fun (r : Bool) => vb r) (R' := fun (r : Bool) => []) cok Tryd.func22 rfl rfl rfl (by kernel_rfl) (by kernel_rfl) rfl rfl fun X => ?_
 refine t_cond cok ?_
 refine bi h (fun c1 h => ?_) (fun c1 h => ?_)
 ·skip
  exact fi h (by kernel_rfl)
 refine bk h fun e3 l4 h => ?_
 refine t_cutxS cok 0 (fun (_x : Unit) => ⟨[], []⟩) e3 ?_ (fun x5 hy => ?_)
 ·skip
  have h6 := h
  refine t_loop cok (fun (s2 : Int) => ⟨[(0, .v (.sl (.st .S_rickyardlaw19_Act)) (a0 : List S_rickyardlaw19_Act)), (5, vi .i64 s2)], []⟩) l4 (by kernel_rfl) (fun s2 x7 h => ?_)
  unfold rickyardlaw19_small.s0 at h
  refine t_cond cok ?_
  refine bi h (fun c8 h => ?_) (fun c8 h => ?_)
  ·skip
   refine ag h fun h => ?_
   refine t_cond cok ?_
   refine bi h (fun c9 h => ?_) (fun c9 h => ?_)
   ·skip
    refine lpr h (fun hy => ?_)
    have h := h6
    rw [← hy] at h
    exact fi h (by kernel_rfl)
   exact lpi h (by kernel_rfl)
  exact lpx h (fun hy => ems (sj hy) (by kernel_rfl))
 subst hy
 exact fi h (by kernel_rfl)
def rickyardref01_Ints.s0 (fu : Nat) (a0 : List Int) (a1 : List Int) : Int → Option (Sum (Sum Bool Unit) Int) := fun s2 => (if (decide (s2 < (List.length a0 : Int))) = true then if 0 ≤ s2 ∧ s2 < (List.length a0 : Int) then if 0 ≤ s2 ∧ s2 < (List.length a1 : Int) then (if (!decide ((ix a0 s2) = (ix a1 s2))) = true then some (Sum.inl (Sum.inl (false))) else some (Sum.inr ((IntKind.i64.wrap (s2 + 1))))) else none else none else some (Sum.inl (Sum.inr ())))
def rickyardref01_Ints.f (fu : Nat) (a0 : List Int) (a1 : List Int) : Option Bool := (if (!decide ((List.length a0 : Int) = (List.length a1 : Int))) = true then some (false) else ((loopM (rickyardref01_Ints.s0 fu a0 a1) fu (0)).bind fun e3 => match e3 with | Sum.inl p => some p | Sum.inr x5 => some (true)))
theorem rickyardref01_Ints.sc (fu : Nat) (a0 : List Int) (a1 : List Int) (r : Bool) (h : rickyardref01_Ints.f fu a0 a1 = some r) : SC Tryd.prog CT 28 [.v (.sl (.int .i64)) (a0 : List Int), .v (.sl (.int .i64)) (a1 : List Int)] [] (vb r) [] := by
 unfold rickyardref01_Ints.f at h
 refine sc_of (r := r) (N := 26) (rs := [.tmp 4]) (V := fun (r : Bool) => vb r) (R' := fun (r : Bool) => []) cok Tryd.func28 rfl rfl rfl (by kernel_rfl) (by kernel_rfl) rfl rfl fun X => ?_
 refine t_cond cok ?_
 refine bi h (fun c1 h => ?_) (fun c1 h => ?_)
 ·skip
  exact fi h (by kernel_rfl)
 refine bk h fun e3 l4 h => ?_
 refine t_cutxS cok 0 (fun (_x : Unit) => ⟨[], []⟩) e3 ?_ (fun x5 hy => ?_)
 ·skip
  have h6 := h
  refine t_loop cok (fun (s2 : Int) => ⟨[(0, .v (.sl (.int .i64)) (a0 : List Int)), (1, .v (.sl (.int .i64)) (a1 : List Int)), (5, vi .i64 s2)], []⟩) l4 (by kernel_rfl) (fun s2 x7 h => ?_)
  unfold rickyardref01_Ints.s0 at h
  refine t_cond cok ?_
  refine bi h (fun c8 h => ?_) (fun c8 h => ?_)
  ·skip
   refine t_draw cok mo [⟨0, false, [0], [], 0, []⟩, ⟨1, false, [5], [], 0, []⟩, ⟨2, false, [17, 18], [], 0, [0, 1]⟩, ⟨3, false, [19], [], 0, [0, 1, 2]⟩, ⟨4, false, [1], [], 0, []⟩, ⟨5, false, [5], [], 0, []⟩, ⟨6, false, [21, 22], [], 0, [4, 5]⟩, ⟨7, false, [23], [], 0, [4, 5, 6]⟩, ⟨8, false, [20, 24], [], 0, [0, 1, 2, 3, 4, 5, 6, 7]⟩] (by kernel_rfl) ?_
   refine ag h fun h => ?_
   refine ag h fun h => ?_
   refine t_cond cok ?_
   refine bi h (fun c9 h => ?_) (fun c9 h => ?_)
   ·skip
    refine lpr h (fun hy => ?_)
    have h := h6
    rw [← hy] at h
    exact fi h (by kernel_rfl)
   exact lpi h (by kernel_rfl)
  exact lpx h (fun hy => ems (sj hy) (by kernel_rfl))
 subst hy
 exact fi h (by kernel_rfl)
def octet_Lay.s0 (fu : Nat) (a1 : Int) : (Int × Int × (List Int)) → Option (Sum (List Int) (Int × Int × (List Int))) := fun s3 => (if (decide (s3.2.1 < (List.length (List.replicate (Int.toNat a1) (0 : Int)) : Int))) = true then if 0 ≤ s3.2.1 ∧ s3.2.1 < (List.length s3.2.2 : Int) then some (Sum.inr ((shR .u64 s3.1 8), (IntKind.i64.wrap (s3.2.1 + 1)), (List.set s3.2.2 (Int.toNat s3.2.1) (IntKind.u8.wrap s3.1)))) else none else some (Sum.inl (s3.2.2)))
def octet_Lay.f (fu : Nat) (a0 : Int) (a1 : Int) : Option (List Int) := (if (decide (a1 < 0)) = true then some ([]) else (if (decide (a1 > 8)) = true then some ([]) else if 0 ≤ a1 ∧ Int.toNat a1 ≤ LIM then ((loopM (octet_Lay.s0 fu a1) fu (a0, 0, (List.replicate (Int.toNat a1) (0 : Int)))).bind fun e4 => some (e4)) else none))
theorem octet_Lay.sc (fu : Nat) (a0 : Int) (a1 : Int) (r : (List Int)) (h : octet_Lay.f fu a0 a1 = some r) : SC Tryd.prog CT 108 [vi .u64 a0, vi .i64 a1] [] (.sl 0 1 []) [.row (.int .u8) 5 (r : List Int)] := by
 unfold octet_Lay.f at h
 refine sc_of (r := r) (N := 29) (rs := [.tmp 4]) (V := fun (r : (List Int)) => .sl 0 1 []) (R' := fun (r : (List Int)) => [.row (.int .u8) 5 (r : List Int)]) cok Tryd.func108 rfl rfl rfl (by kernel_rfl) (by kernel_rfl) rfl rfl fun X => ?_
 refine t_reg cok ?_
 refine bi h (fun c1 h => ?_) (fun c1 h => ?_)
 ·skip
  refine t_cond cok ?_
  exact fi h (by kernel_rfl)
 refine t_cond cok ?_
 refine bi h (fun c2 h => ?_) (fun c2 h => ?_)
 ·skip
  exact fi h (by kernel_rfl)
 refine agL h rfl fun h => ?_
 refine bk h fun e4 l5 h => ?_
 refine t_cutx cok 0 (fun (e4 : (List Int)) => ⟨[(5, .sl 0 1 [])], [.row (.int .u8) 5 (e4 : List Int)]⟩) e4 ?_ ?_
 ·skip
  have h6 := h
  refine t_loop cok (fun (s3 : Int × Int × (List Int)) => ⟨[(0, vi .u64 s3.1), (5, .sl 0 1 []), (16, vi .i64 (List.length (List.replicate (Int.toNat a1) (0 : Int)) : Int)), (17, vi .i64 s3.2.1)], [.row (.int .u8) 5 (s3.2.2 : List Int)]⟩) l5 (by kernel_rfl) (fun s3 x7 h => ?_)
  unfold octet_Lay.s0 at h
  refine t_cond cok ?_
  refine bi h (fun c8 h => ?_) (fun c8 h => ?_)
  ·skip
   refine ag h fun h => ?_
   refine ⟨by decide, ?_⟩
   exact lpi h (by kernel_rfl)
  exact lpx h (fun hy => em (sj hy) (by kernel_rfl))
 exact fi h (by kernel_rfl)
def octet_Octets.s0 (fu : Nat) (a0 : List Int) : ((List Int) × Int) → Option (Sum (List Int) ((List Int) × Int)) := fun s1 => (if (decide (s1.2 < (List.length a0 : Int))) = true then if 0 ≤ s1.2 ∧ s1.2 < (List.length a0 : Int) then ((octet_Lay.f fu (ix a0 s1.2) 8).bind fun t7 => if List.length s1.1 + List.length t7 ≤ LIM then some (Sum.inr ((s1.1 ++ t7), (IntKind.i64.wrap (s1.2 + 1)))) else none) else none else some (Sum.inl (s1.1)))
def octet_Octets.f (fu : Nat) (a0 : List Int) : Option (List Int) := ((loopM (octet_Octets.s0 fu a0) fu (([] : List Int), 0)).bind fun e2 => some (e2))
theorem octet_Octets.sc (fu : Nat) (a0 : List Int) (r : (List Int)) (h : octet_Octets.f fu a0 = some r) : SC Tryd.prog CT 96 [.v (.sl (.int .u64)) (a0 : List Int)] [] (.sl 0 1 []) [.row (.int .u8) 5 (r : List Int)] := by
 unfold octet_Octets.f at h
 refine sc_of (r := r) (N := 18) (rs := [.tmp 2]) (V := fun (r : (List Int)) => .sl 0 1 []) (R' := fun (r : (List Int)) => [.row (.int .u8) 5 (r : List Int)]) cok Tryd.func96 rfl rfl rfl (by kernel_rfl) (by kernel_rfl) rfl rfl fun X => ?_
 refine bk h fun e2 l3 h => ?_
 refine t_cutx cok 0 (fun (e2 : (List Int)) => ⟨[(3, .sl 0 1 [])], [.row (.int .u8) 5 (e2 : List Int)]⟩) e2 ?_ ?_
 ·skip
  have h4 := h
  refine t_loop cok (fun (s1 : (List Int) × Int) => ⟨[(3, .sl 0 1 []), (6, .v (.sl (.int .u64)) (a0 : List Int)), (7, vi .i64 (List.length a0 : Int)), (8, vi .i64 s1.2)], [.row (.int .u8) 5 (s1.1 : List Int)]⟩) l3 (by kernel_rfl) (fun s1 x5 h => ?_)
  unfold octet_Octets.s0 at h
  refine t_cond cok ?_
  refine bi h (fun c6 h => ?_) (fun c6 h => ?_)
  ·skip
   refine ag h fun h => ?_
   refine bk h fun t7 k8 h => ?_
   refine cl3 cok.g (octet_Lay.sc fu (ix a0 s1.2) 8 _ k8) (.sl 1 1 []) [(1, .row (.int .u8) 5 (t7 : List Int))] 2 (by kernel_rfl) (by kernel_rfl) ?_
   refine ag h fun h => ?_
   exact lpi h (by kernel_rfl)
  exact lpx h (fun hy => em (sj hy) (by kernel_rfl))
 exact fi h (by kernel_rfl)
def pmem_Device_Load.f (fu : Nat) (a0 : S_pmem_Device) (a1 : Int) : Option (Int × Int) := ((pmem_Device_may.f fu a0 a1 (List.length a0.cells : Int)).bind fun t1 => (if (!decide (t1 = 0)) = true then some (0, t1) else if 0 ≤ a1 ∧ a1 < (List.length a0.cells : Int) then some ((ix a0.cells a1).stored, 0) else none))
theorem pmem_Device_Load.sc (fu : Nat) (a0 : S_pmem_Device) (a1 : Int) (r : Int × Int) (h : pmem_Device_Load.f fu a0 a1 = some r) : SC Tryd.prog CT 95 [.ptr 0 0, vi .i64 a1] [.box 105 (.agg [.sl 1 4 [], .agg [.sl 2 1 [], vi .i64 a0.plan.at_], vb a0.off, vb a0.armed, vi .i64 a0.left, vi .i64 a0.steps]), .row (.st .S_pmem_cell) 125 (a0.cells : List S_pmem_cell), .row (.int .i64) 3 (a0.plan.list : List Int)] (.tup [vi .u64 r.1, vi .i64 r.2]) [.box 105 (.agg [.sl 1 4 [], .agg [.sl 2 1 [], vi .i64 a0.plan.at_], vb a0.off, vb a0.armed, vi .i64 a0.left, vi .i64 a0.steps]), .row (.st .S_pmem_cell) 125 (a0.cells : List S_pmem_cell), .row (.int .i64) 3 (a0.plan.list : List Int)] := by
 unfold pmem_Device_Load.f at h
 refine sc_of (r := r) (N := 26) (rs := [.tmp 4, .tmp 5]) (V := fun (r : Int × Int) => .tup [vi .u64 r.1, vi .i64 r.2]) (R' := fun (r : Int × Int) => [.box 105 (.agg [.sl 1 4 [], .agg [.sl 2 1 [], vi .i64 a0.plan.at_], vb a0.off, vb a0.armed, vi .i64 a0.left, vi .i64 a0.steps]), .row (.st .S_pmem_cell) 125 (a0.cells : List S_pmem_cell), .row (.int .i64) 3 (a0.plan.list : List Int)]) cok Tryd.func95 rfl rfl rfl (by kernel_rfl) (by kernel_rfl) rfl rfl fun X => ?_
 refine bk h fun t1 k2 h => ?_
 refine cl3 cok.g (pmem_Device_may.sc fu a0 a1 (List.length a0.cells : Int) _ k2) (vi .i64 t1) [(0, .box 105 (.agg [.sl 1 4 [], .agg [.sl 2 1 [], vi .i64 a0.plan.at_], vb a0.off, vb a0.armed, vi .i64 a0.left, vi .i64 a0.steps])), (1, .row (.st .S_pmem_cell) 125 (a0.cells : List S_pmem_cell)), (2, .row (.int .i64) 3 (a0.plan.list : List Int))] 6 (by kernel_rfl) (by kernel_rfl) ?_
 refine t_cond cok ?_
 refine bi h (fun c3 h => ?_) (fun c3 h => ?_)
 ·skip
  exact fi h (by kernel_rfl)
 refine ag h fun h => ?_
 exact fi h (by kernel_rfl)
def press_Read.s0 (fu : Nat) (a0 : S_pmem_Device) (a1 : Int) : (Int × (Arr 8 Int)) → Option (Sum (Sum ((List Int) × Int) (Arr 8 Int)) (Int × (Arr 8 Int))) := fun s4 => (if (decide (s4.1 < 8)) = true then ((pmem_Device_Load.f fu a0 (IntKind.i64.wrap ((IntKind.i64.wrap (a1 * 8)) + s4.1))).bind fun t11 => (if (!decide (t11.2 = 0)) = true then some (Sum.inl (Sum.inl ([], t11.2))) else if 0 ≤ s4.1 ∧ s4.1 < 8 then some (Sum.inr ((IntKind.i64.wrap (s4.1 + 1)), (Arr.set s4.2 s4.1 t11.1))) else none)) else some (Sum.inl (Sum.inr (s4.2))))
def press_Read.f (fu : Nat) (a0 : S_pmem_Device) (a1 : Int) : Option ((List Int) × Int) := ((press_may.f fu a0 a1).bind fun t1 => (if (!decide (t1 = 0)) = true then some ([], t1) else ((loopM (press_Read.s0 fu a0 a1) fu (0, (Arr.rep 8 (0 : Int)))).bind fun e5 => match e5 with | Sum.inl p => some p | Sum.inr x7 => ((octet_Octets.f fu (Arr.l x7)).bind fun t14 => some (t14, 0)))))
theorem press_Read.sc (fu : Nat) (a0 : S_pmem_Device) (a1 : Int) (r : (List Int) × Int) (h : press_Read.f fu a0 a1 = some r) : SC Tryd.prog CT 63 [.ptr 0 0, vi .i64 a1] [.box 105 (.agg [.sl 1 4 [], .agg [.sl 2 1 [], vi .i64 a0.plan.at_], vb a0.off, vb a0.armed, vi .i64 a0.left, vi .i64 a0.steps]), .row (.st .S_pmem_cell) 125 (a0.cells : List S_pmem_cell), .row (.int .i64) 3 (a0.plan.list : List Int)] (.tup [.sl 3 1 [], vi .i64 r.2]) [.box 105 (.agg [.sl 1 4 [], .agg [.sl 2 1 [], vi .i64 a0.plan.at_], vb a0.off, vb a0.armed, vi .i64 a0.left, vi .i64 a0.steps]), .row (.st .S_pmem_cell) 125 (a0.cells : List S_pmem_cell), .row (.int .i64) 3 (a0.plan.list : List Int), .row (.int .u8) 5 (r.1 : List Int)] := by
 unfold press_Read.f at h
 refine sc_of (r := r) (N := 38) (rs := [.tmp 4, .tmp 5]) (V := fun (r : (List Int) × Int) => .tup [.sl 3 1 [], vi .i64 r.2]) (R' := fun (r : (List Int) × Int) => [.box 105 (.agg [.sl 1 4 [], .agg [.sl 2 1 [], vi .i64 a0.plan.at_], vb a0.off, vb a0.armed, vi .i64 a0.left, vi .i64 a0.steps]), .row (.st .S_pmem_cell) 125 (a0.cells : List S_pmem_cell), .row (.int .i64) 3 (a0.plan.list : List Int), .row (.int .u8) 5 (r.1 : List Int)]) cok Tryd.func63 rfl rfl rfl (by kernel_rfl) (by kernel_rfl) rfl rfl fun X => ?_
 refine bk h fun t1 k2 h => ?_
 refine cl3 cok.g (press_may.sc fu a0 a1 _ k2) (vi .i64 t1) [(0, .box 105 (.agg [.sl 1 4 [], .agg [.sl 2 1 [], vi .i64 a0.plan.at_], vb a0.off, vb a0.armed, vi .i64 a0.left, vi .i64 a0.steps])), (1, .row (.st .S_pmem_cell) 125 (a0.cells : List S_pmem_cell)), (2, .row (.int .i64) 3 (a0.plan.list : List Int))] 6 (by kernel_rfl) (by kernel_rfl) ?_
 refine t_cond cok ?_
 refine bi h (fun c3 h => ?_) (fun c3 h => ?_)
 ·skip
  exact fi h (by kernel_rfl)
 refine bk h fun e5 l6 h => ?_
 refine t_cutxS cok 0 (fun (x7 : (Arr 8 Int)) => ⟨[(7, .ptr 3 0)], [.box 105 (.agg [.sl 1 4 [], .agg [.sl 2 1 [], vi .i64 a0.plan.at_], vb a0.off, vb a0.armed, vi .i64 a0.left, vi .i64 a0.steps]), .row (.st .S_pmem_cell) 125 (a0.cells : List S_pmem_cell), .row (.int .i64) 3 (a0.plan.list : List Int), .box 153 (.v (.arr 8 (.int .u64)) (x7 : Arr 8 Int))]⟩) e5 ?_ (fun x7 hy => ?_)
 ·skip
  have h8 := h
  refine t_loop cok (fun (s4 : Int × (Arr 8 Int)) => ⟨[(0, .ptr 0 0), (1, vi .i64 a1), (7, .ptr 3 0), (17, vi .i64 s4.1)], [.box 105 (.agg [.sl 1 4 [], .agg [.sl 2 1 [], vi .i64 a0.plan.at_], vb a0.off, vb a0.armed, vi .i64 a0.left, vi .i64 a0.steps]), .row (.st .S_pmem_cell) 125 (a0.cells : List S_pmem_cell), .row (.int .i64) 3 (a0.plan.list : List Int), .box 153 (.v (.arr 8 (.int .u64)) (s4.2 : Arr 8 Int))]⟩) l6 (by kernel_rfl) (fun s4 x9 h => ?_)
  unfold press_Read.s0 at h
  refine t_cond cok ?_
  refine bi h (fun c10 h => ?_) (fun c10 h => ?_)
  ·skip
   refine bk h fun t11 k12 h => ?_
   refine cl3 cok.g (pmem_Device_Load.sc fu a0 (IntKind.i64.wrap ((IntKind.i64.wrap (a1 * 8)) + s4.1)) _ k12) (.tup [vi .u64 t11.1, vi .i64 t11.2]) [(0, .box 105 (.agg [.sl 1 4 [], .agg [.sl 2 1 [], vi .i64 a0.plan.at_], vb a0.off, vb a0.armed, vi .i64 a0.left, vi .i64 a0.steps])), (1, .row (.st .S_pmem_cell) 125 (a0.cells : List S_pmem_cell)), (2, .row (.int .i64) 3 (a0.plan.list : List Int))] 7 (by kernel_rfl) (by kernel_rfl) ?_
   refine t_cond cok ?_
   refine bi h (fun c13 h => ?_) (fun c13 h => ?_)
   ·skip
    refine lpr h (fun hy => ?_)
    have h := h8
    rw [← hy] at h
    exact fi h (by kernel_rfl)
   refine ag h fun h => ?_
   exact lpi h (by kernel_rfl)
  exact lpx h (fun hy => ems (sj hy) (by kernel_rfl))
 subst hy
 refine bk h fun t14 k15 h => ?_
 refine cl3 cok.g (octet_Octets.sc fu (Arr.l x7) _ k15) (.sl 4 1 []) [(4, .row (.int .u8) 5 (t14 : List Int))] 5 (by kernel_rfl) (by kernel_rfl) ?_
 exact fi h (by kernel_rfl)
def shadow_Store_Get.f (fu : Nat) (a0 : S_shadow_Store) (a1 : Int) : Option ((List Int) × Int) := ((press_Read.f fu a0.device a1).bind fun t1 => some (t1.1, t1.2))
theorem shadow_Store_Get.sc (fu : Nat) (a0 : S_shadow_Store) (a1 : Int) (r : (List Int) × Int) (h : shadow_Store_Get.f fu a0 a1 = some r) : SC Tryd.prog CT 20 [.ptr 0 0, vi .i64 a1] [.box 114 (.agg [.ptr 1 0, .ptr 4 0]), .box 105 (.agg [.sl 2 4 [], .agg [.sl 3 1 [], vi .i64 a0.device.plan.at_], vb a0.device.off, vb a0.device.armed, vi .i64 a0.device.left, vi .i64 a0.device.steps]), .row (.st .S_pmem_cell) 125 (a0.device.cells : List S_pmem_cell), .row (.int .i64) 3 (a0.device.plan.list : List Int), .box 108 (.agg [vi .i64 a0.blocks.reserve, .agg [.ptr 5 0, .ptr 7 0, .ptr 9 0, .ptr 11 0]]), .box 112 (.agg [vi .i64 a0.blocks.sets.1.size, .sl 6 1 []]), .row (.int .u64) 119 (a0.blocks.sets.1.words : List Int), .box 112 (.agg [vi .i64 a0.blocks.sets.2.1.size, .sl 8 1 []]), .row (.int .u64) 119 (a0.blocks.sets.2.1.words : List Int), .box 112 (.agg [vi .i64 a0.blocks.sets.2.2.1.size, .sl 10 1 []]), .row (.int .u64) 119 (a0.blocks.sets.2.2.1.words : List Int), .box 112 (.agg [vi .i64 a0.blocks.sets.2.2.2.size, .sl 12 1 []]), .row (.int .u64) 119 (a0.blocks.sets.2.2.2.words : List Int)] (.tup [.sl 13 1 [], vi .i64 r.2]) [.box 114 (.agg [.ptr 1 0, .ptr 4 0]), .box 105 (.agg [.sl 2 4 [], .agg [.sl 3 1 [], vi .i64 a0.device.plan.at_], vb a0.device.off, vb a0.device.armed, vi .i64 a0.device.left, vi .i64 a0.device.steps]), .row (.st .S_pmem_cell) 125 (a0.device.cells : List S_pmem_cell), .row (.int .i64) 3 (a0.device.plan.list : List Int), .box 108 (.agg [vi .i64 a0.blocks.reserve, .agg [.ptr 5 0, .ptr 7 0, .ptr 9 0, .ptr 11 0]]), .box 112 (.agg [vi .i64 a0.blocks.sets.1.size, .sl 6 1 []]), .row (.int .u64) 119 (a0.blocks.sets.1.words : List Int), .box 112 (.agg [vi .i64 a0.blocks.sets.2.1.size, .sl 8 1 []]), .row (.int .u64) 119 (a0.blocks.sets.2.1.words : List Int), .box 112 (.agg [vi .i64 a0.blocks.sets.2.2.1.size, .sl 10 1 []]), .row (.int .u64) 119 (a0.blocks.sets.2.2.1.words : List Int), .box 112 (.agg [vi .i64 a0.blocks.sets.2.2.2.size, .sl 12 1 []]), .row (.int .u64) 119 (a0.blocks.sets.2.2.2.words : List Int), .row (.int .u8) 5 (r.1 : List Int)] := by
 unfold shadow_Store_Get.f at h
 refine sc_of (r := r) (N := 14) (rs := [.tmp 4, .tmp 5]) (V := fun (r : (List Int) × Int) => .tup [.sl 13 1 [], vi .i64 r.2]) (R' := fun (r : (List Int) × Int) => [.box 114 (.agg [.ptr 1 0, .ptr 4 0]), .box 105 (.agg [.sl 2 4 [], .agg [.sl 3 1 [], vi .i64 a0.device.plan.at_], vb a0.device.off, vb a0.device.armed, vi .i64 a0.device.left, vi .i64 a0.device.steps]), .row (.st .S_pmem_cell) 125 (a0.device.cells : List S_pmem_cell), .row (.int .i64) 3 (a0.device.plan.list : List Int), .box 108 (.agg [vi .i64 a0.blocks.reserve, .agg [.ptr 5 0, .ptr 7 0, .ptr 9 0, .ptr 11 0]]), .box 112 (.agg [vi .i64 a0.blocks.sets.1.size, .sl 6 1 []]), .row (.int .u64) 119 (a0.blocks.sets.1.words : List Int), .box 112 (.agg [vi .i64 a0.blocks.sets.2.1.size, .sl 8 1 []]), .row (.int .u64) 119 (a0.blocks.sets.2.1.words : List Int), .box 112 (.agg [vi .i64 a0.blocks.sets.2.2.1.size, .sl 10 1 []]), .row (.int .u64) 119 (a0.blocks.sets.2.2.1.words : List Int), .box 112 (.agg [vi .i64 a0.blocks.sets.2.2.2.size, .sl 12 1 []]), .row (.int .u64) 119 (a0.blocks.sets.2.2.2.words : List Int), .row (.int .u8) 5 (r.1 : List Int)]) cok Tryd.func20 rfl rfl rfl (by kernel_rfl) (by kernel_rfl) rfl rfl fun X => ?_
 refine bk h fun t1 k2 h => ?_
 refine cl3 cok.g (press_Read.sc fu a0.device a1 _ k2) (.tup [.sl 16 1 [], vi .i64 t1.2]) [(1, .box 105 (.agg [.sl 2 4 [], .agg [.sl 3 1 [], vi .i64 a0.device.plan.at_], vb a0.device.off, vb a0.device.armed, vi .i64 a0.device.left, vi .i64 a0.device.steps])), (2, .row (.st .S_pmem_cell) 125 (a0.device.cells : List S_pmem_cell)), (3, .row (.int .i64) 3 (a0.device.plan.list : List Int)), (16, .row (.int .u8) 5 (t1.1 : List Int))] 17 (by kernel_rfl) (by kernel_rfl) ?_
 exact fi h (by kernel_rfl)
def rickyardlaw19_ShadowBack.s0 (fu : Nat) (a0 : List S_rickyardlaw19_Act) : (Int × S_shadow_Store) → Option (Sum S_shadow_Store (Int × S_shadow_Store)) := fun s32 => (if (decide (s32.1 < (List.length a0 : Int))) = true then if 0 ≤ s32.1 ∧ s32.1 < (List.length a0 : Int) then ((rickyardlaw19_do_a1_1.f fu s32.2 (ix a0 s32.1)).bind fun t38 => some (Sum.inr ((IntKind.i64.wrap (s32.1 + 1)), t38))) else none else some (Sum.inl (s32.2)))
def rickyardlaw19_ShadowBack.s1 (fu : Nat) (e33 : S_shadow_Store) (t40 : S_alloc_Alloc) (t44 : (List Int)) : ((List (List UInt8)) × Int) → Option (Sum (List (List UInt8)) ((List (List UInt8)) × Int)) := fun s46 => (if (decide (s46.2 < (List.length t44 : Int))) = true then if 0 ≤ s46.2 ∧ s46.2 < (List.length t44 : Int) then ((shadow_Store_Get.f fu (⟨e33.device, t40⟩ : S_shadow_Store) (ix t44 s46.2)).bind fun t52 => if List.length s46.1 + List.length [(List.map toB t52.1)] ≤ LIM then some (Sum.inr ((s46.1 ++ [(List.map toB t52.1)]), (IntKind.i64.wrap (s46.2 + 1)))) else none) else none else some (Sum.inl (s46.1)))
def rickyardlaw19_ShadowBack.s2 (fu : Nat) (a1 : List S_rickyardlaw19_Act) : (Int × S_shadow_Store) → Option (Sum S_shadow_Store (Int × S_shadow_Store)) := fun s54 => (if (decide (s54.1 < (List.length a1 : Int))) = true then if 0 ≤ s54.1 ∧ s54.1 < (List.length a1 : Int) then ((rickyardref01_Rest.f fu ((ix a1 s54.1).Kind) 10).bind fun t60 => (((if (decide (t60 < 3)) = true then if 0 ≤ s54.1 ∧ s54.1 < (List.length a1 : Int) then ((rickyardlaw19_do_a1_1.f fu s54.2 (ix a1 s54.1)).bind fun t66 => some (t66)) else none else some (s54.2)) : Option S_shadow_Store).bind fun x62 => some (Sum.inr ((IntKind.i64.wrap (s54.1 + 1)), x62)))) else none else some (Sum.inl (s54.2)))
def rickyardlaw19_ShadowBack.s3 (fu : Nat) (t44 : (List Int)) (e47 : (List (List UInt8))) (e55 : S_shadow_Store) (t68 : S_alloc_Alloc) : Int → Option (Sum (Sum Bool Unit) Int) := fun s77 => (if (decide (s77 < (List.length t44 : Int))) = true then if 0 ≤ s77 ∧ s77 < (List.length t44 : Int) then ((shadow_Store_Get.f fu (⟨e55.device, t68⟩ : S_shadow_Store) (ix t44 s77)).bind fun t84 => (if (!decide (t84.2 = 0)) = true then some (Sum.inl (Sum.inl (false))) else if 0 ≤ s77 ∧ s77 < (List.length e47 : Int) then (if (!decide ((List.map toB t84.1) = (ix e47 s77))) = true then some (Sum.inl (Sum.inl (false))) else some (Sum.inr ((IntKind.i64.wrap (s77 + 1))))) else none)) else none else some (Sum.inl (Sum.inr ())))
def rickyardlaw19_ShadowBack.f (fu : Nat) (a0 : List S_rickyardlaw19_Act) (a1 : List S_rickyardlaw19_Act) : Option Bool := ((rickyardlaw19_awake.f fu).bind fun t1 => (if (!t1) = true then ((rickyardlaw19_awake.f fu).bind fun t4 => some (t4)) else ((rickyardlaw19_small.f fu a0 20).bind fun t6 => (if (!t6) = true then ((rickyardlaw19_awake.f fu).bind fun t9 => some (t9)) else ((rickyardlaw19_small.f fu a1 20).bind fun t11 => (if (!t11) = true then ((rickyardlaw19_awake.f fu).bind fun t14 => some (t14)) else ((rickyardlaw19_Made.f fu 16 0).bind fun t16 => (Option.elim t16.1 ((Option.elim t16.2.1 ((Option.elim t16.2.2 (some (false)) (fun o22 => some (false)))) (fun o20 => (Option.elim t16.2.2 (some (false)) (fun o24 => some (false)))))) (fun o18 => (Option.elim t16.2.1 ((Option.elim t16.2.2 (none) (fun o28 => none))) (fun o26 => (Option.elim t16.2.2 (none) (fun o30 => ((loopM (rickyardlaw19_ShadowBack.s0 fu a0) fu (0, (⟨o26, o30⟩ : S_shadow_Store))).bind fun e33 => ((alloc_Alloc_Mark.f fu e33.blocks).bind fun t40 => ((alloc_Alloc_Works.f fu t40).bind fun t42 => ((bits_Set_List.f fu t42).bind fun t44 => ((loopM (rickyardlaw19_ShadowBack.s1 fu e33 t40 t44) fu (([] : List (List UInt8)), 0)).bind fun e47 => ((loopM (rickyardlaw19_ShadowBack.s2 fu a1) fu (0, (⟨e33.device, t40⟩ : S_shadow_Store))).bind fun e55 => ((alloc_Alloc_Back.f fu e55.blocks).bind fun t68 => ((alloc_Alloc_Works.f fu t68).bind fun t70 => ((bits_Set_List.f fu t70).bind fun t72 => ((rickyardref01_Ints.f fu t72 t44).bind fun t74 => (if (!t74) = true then some (false) else ((loopM (rickyardlaw19_ShadowBack.s3 fu t44 e47 e55 t68) fu (0)).bind fun e78 => match e78 with | Sum.inl p => some p | Sum.inr x80 => some (true))))))))))))))))))))))))))
theorem rickyardlaw19_ShadowBack.sc (fu : Nat) (a0 : List S_rickyardlaw19_Act) (a1 : List S_rickyardlaw19_Act) (r : Bool) (h : rickyardlaw19_ShadowBack.f fu a0 a1 = some r) : SC Tryd.prog CT 5 [.v (.sl (.st .S_rickyardlaw19_Act)) (a0 : List S_rickyardlaw19_Act), .v (.sl (.st .S_rickyardlaw19_Act)) (a1 : List S_rickyardlaw19_Act)] [] (vb r) [] := by
 unfold rickyardlaw19_ShadowBack.f at h
 refine sc_of (r := r) (N := 134) (rs := [.tmp 4]) (V := fun (r : Bool) => vb r) (R' := fun (r : Bool) => []) cok Tryd.func5 rfl rfl rfl (by kernel_rfl) (by kernel_rfl) rfl rfl fun X => ?_
 refine t_reg cok ?_
 refine bk h fun t1 k2 h => ?_
 refine cl3 cok.g (rickyardlaw19_awake.sc fu _ k2) (vb t1) [] 0 (by kernel_rfl) (by kernel_rfl) ?_
 refine bi h (fun c3 h => ?_) (fun c3 h => ?_)
 ·skip
  refine t_cond cok ?_
  refine bk h fun t4 k5 h => ?_
  refine cl3 cok.g (rickyardlaw19_awake.sc fu _ k5) (vb t4) [] 0 (by kernel_rfl) (by kernel_rfl) ?_
  exact fi h (by kernel_rfl)
 refine bk h fun t6 k7 h => ?_
 refine cl3 cok.g (rickyardlaw19_small.sc fu a0 20 _ k7) (vb t6) [] 0 (by kernel_rfl) (by kernel_rfl) ?_
 refine bi h (fun c8 h => ?_) (fun c8 h => ?_)
 ·skip
  refine t_cond cok ?_
  refine bk h fun t9 k10 h => ?_
  refine cl3 cok.g (rickyardlaw19_awake.sc fu _ k10) (vb t9) [] 0 (by kernel_rfl) (by kernel_rfl) ?_
  exact fi h (by kernel_rfl)
 refine bk h fun t11 k12 h => ?_
 refine cl3 cok.g (rickyardlaw19_small.sc fu a1 20 _ k12) (vb t11) [] 0 (by kernel_rfl) (by kernel_rfl) ?_
 refine t_cond cok ?_
 refine bi h (fun c13 h => ?_) (fun c13 h => ?_)
 ·skip
  refine bk h fun t14 k15 h => ?_
  refine cl3 cok.g (rickyardlaw19_awake.sc fu _ k15) (vb t14) [] 0 (by kernel_rfl) (by kernel_rfl) ?_
  exact fi h (by kernel_rfl)
 refine bk h fun t16 k17 h => ?_
 refine oe (x := t16.1) h (fun q19 h => ?_) (fun o18 q19 h => ?_)
 ·skip
  refine oe (x := t16.2.1) h (fun q21 h => ?_) (fun o20 q21 h => ?_)
  ·skip
   refine oe (x := t16.2.2) h (fun q23 h => ?_) (fun o22 q23 h => ?_)
   ·skip
    refine cl3 cok.g (rickyardlaw19_Made.scnnn fu 16 0 _ k17 q19 q21 q23) (.tup [.nilp, .nilp, .nilp]) [] 0 (by kernel_rfl) (by kernel_rfl) ?_
    refine t_reg cok ?_
    refine t_cond cok ?_
    exact fi h (by kernel_rfl)
   refine cl3 cok.g (rickyardlaw19_Made.scnns fu 16 0 _ k17 q19 q21 o22 q23) (.tup [.nilp, .nilp, .ptr 0 0]) [(0, .box 108 (.agg [vi .i64 o22.reserve, .agg [.ptr 1 0, .ptr 3 0, .ptr 5 0, .ptr 7 0]])), (1, .box 112 (.agg [vi .i64 o22.sets.1.size, .sl 2 1 []])), (2, .row (.int .u64) 119 (o22.sets.1.words : List Int)), (3, .box 112 (.agg [vi .i64 o22.sets.2.1.size, .sl 4 1 []])), (4, .row (.int .u64) 119 (o22.sets.2.1.words : List Int)), (5, .box 112 (.agg [vi .i64 o22.sets.2.2.1.size, .sl 6 1 []])), (6, .row (.int .u64) 119 (o22.sets.2.2.1.words : List Int)), (7, .box 112 (.agg [vi .i64 o22.sets.2.2.2.size, .sl 8 1 []])), (8, .row (.int .u64) 119 (o22.sets.2.2.2.words : List Int))] 9 (by kernel_rfl) (by kernel_rfl) ?_
   refine t_reg cok ?_
   refine t_cond cok ?_
   exact fi h (by kernel_rfl)
  refine oe (x := t16.2.2) h (fun q25 h => ?_) (fun o24 q25 h => ?_)
  ·skip
   refine cl3 cok.g (rickyardlaw19_Made.scnsn fu 16 0 _ k17 q19 o20 q21 q25) (.tup [.nilp, .ptr 0 0, .nilp]) [(0, .box 105 (.agg [.sl 1 4 [], .agg [.sl 2 1 [], vi .i64 o20.plan.at_], vb o20.off, vb o20.armed, vi .i64 o20.left, vi .i64 o20.steps])), (1, .row (.st .S_pmem_cell) 125 (o20.cells : List S_pmem_cell)), (2, .row (.int .i64) 3 (o20.plan.list : List Int))] 3 (by kernel_rfl) (by kernel_rfl) ?_
   refine t_reg cok ?_
   refine t_cond cok ?_
   exact fi h (by kernel_rfl)
  refine cl3 cok.g (rickyardlaw19_Made.scnss fu 16 0 _ k17 q19 o20 q21 o24 q25) (.tup [.nilp, .ptr 0 0, .ptr 3 0]) [(0, .box 105 (.agg [.sl 1 4 [], .agg [.sl 2 1 [], vi .i64 o20.plan.at_], vb o20.off, vb o20.armed, vi .i64 o20.left, vi .i64 o20.steps])), (1, .row (.st .S_pmem_cell) 125 (o20.cells : List S_pmem_cell)), (2, .row (.int .i64) 3 (o20.plan.list : List Int)), (3, .box 108 (.agg [vi .i64 o24.reserve, .agg [.ptr 4 0, .ptr 6 0, .ptr 8 0, .ptr 10 0]])), (4, .box 112 (.agg [vi .i64 o24.sets.1.size, .sl 5 1 []])), (5, .row (.int .u64) 119 (o24.sets.1.words : List Int)), (6, .box 112 (.agg [vi .i64 o24.sets.2.1.size, .sl 7 1 []])), (7, .row (.int .u64) 119 (o24.sets.2.1.words : List Int)), (8, .box 112 (.agg [vi .i64 o24.sets.2.2.1.size, .sl 9 1 []])), (9, .row (.int .u64) 119 (o24.sets.2.2.1.words : List Int)), (10, .box 112 (.agg [vi .i64 o24.sets.2.2.2.size, .sl 11 1 []])), (11, .row (.int .u64) 119 (o24.sets.2.2.2.words : List Int))] 12 (by kernel_rfl) (by kernel_rfl) ?_
  refine t_reg cok ?_
  refine t_cond cok ?_
  exact fi h (by kernel_rfl)
 refine oe (x := t16.2.1) h (fun q27 h => ?_) (fun o26 q27 h => ?_)
 ·skip
  refine oe (x := t16.2.2) h (fun q29 h => ?_) (fun o28 q29 h => ?_)
  ·skip
   cases h
  cases h
 refine oe (x := t16.2.2) h (fun q31 h => ?_) (fun o30 q31 h => ?_)
 ·skip
  cases h
 refine cl3 cok.g (rickyardlaw19_Made.scsss fu 16 0 _ k17 o18 q19 o26 q27 o30 q31) (.tup [.ptr 12 0, .ptr 0 0, .ptr 3 0]) [(0, .box 105 (.agg [.sl 1 4 [], .agg [.sl 2 1 [], vi .i64 o26.plan.at_], vb o26.off, vb o26.armed, vi .i64 o26.left, vi .i64 o26.steps])), (1, .row (.st .S_pmem_cell) 125 (o26.cells : List S_pmem_cell)), (2, .row (.int .i64) 3 (o26.plan.list : List Int)), (3, .box 108 (.agg [vi .i64 o30.reserve, .agg [.ptr 4 0, .ptr 6 0, .ptr 8 0, .ptr 10 0]])), (4, .box 112 (.agg [vi .i64 o30.sets.1.size, .sl 5 1 []])), (5, .row (.int .u64) 119 (o30.sets.1.words : List Int)), (6, .box 112 (.agg [vi .i64 o30.sets.2.1.size, .sl 7 1 []])), (7, .row (.int .u64) 119 (o30.sets.2.1.words : List Int)), (8, .box 112 (.agg [vi .i64 o30.sets.2.2.1.size, .sl 9 1 []])), (9, .row (.int .u64) 119 (o30.sets.2.2.1.words : List Int)), (10, .box 112 (.agg [vi .i64 o30.sets.2.2.2.size, .sl 11 1 []])), (11, .row (.int .u64) 119 (o30.sets.2.2.2.words : List Int)), (12, .box 114 (.agg [.ptr 0 0, .ptr 3 0]))] 13 (by kernel_rfl) (by kernel_rfl) ?_
 refine t_reg cok ?_
 refine t_cond cok ?_
 refine bk h fun e33 l34 h => ?_
 refine t_cutx cok 0 (fun (e33 : S_shadow_Store) => ⟨[(1, .v (.sl (.st .S_rickyardlaw19_Act)) (a1 : List S_rickyardlaw19_Act)), (5, .ptr 0 0), (7, .ptr 4 0)], [.box 114 (.agg [.ptr 1 0, .ptr 4 0]), .box 105 (.agg [.sl 2 4 [], .agg [.sl 3 1 [], vi .i64 e33.device.plan.at_], vb e33.device.off, vb e33.device.armed, vi .i64 e33.device.left, vi .i64 e33.device.steps]), .row (.st .S_pmem_cell) 125 (e33.device.cells : List S_pmem_cell), .row (.int .i64) 3 (e33.device.plan.list : List Int), .box 108 (.agg [vi .i64 e33.blocks.reserve, .agg [.ptr 5 0, .ptr 7 0, .ptr 9 0, .ptr 11 0]]), .box 112 (.agg [vi .i64 e33.blocks.sets.1.size, .sl 6 1 []]), .row (.int .u64) 119 (e33.blocks.sets.1.words : List Int), .box 112 (.agg [vi .i64 e33.blocks.sets.2.1.size, .sl 8 1 []]), .row (.int .u64) 119 (e33.blocks.sets.2.1.words : List Int), .box 112 (.agg [vi .i64 e33.blocks.sets.2.2.1.size, .sl 10 1 []]), .row (.int .u64) 119 (e33.blocks.sets.2.2.1.words : List Int), .box 112 (.agg [vi .i64 e33.blocks.sets.2.2.2.size, .sl 12 1 []]), .row (.int .u64) 119 (e33.blocks.sets.2.2.2.words : List Int)]⟩) e33 ?_ ?_
 ·skip
  have h35 := h
  refine t_loop cok (fun (s32 : Int × S_shadow_Store) => ⟨[(0, .v (.sl (.st .S_rickyardlaw19_Act)) (a0 : List S_rickyardlaw19_Act)), (1, .v (.sl (.st .S_rickyardlaw19_Act)) (a1 : List S_rickyardlaw19_Act)), (5, .ptr 0 0), (7, .ptr 4 0), (8, vi .i64 s32.1)], [.box 114 (.agg [.ptr 1 0, .ptr 4 0]), .box 105 (.agg [.sl 2 4 [], .agg [.sl 3 1 [], vi .i64 s32.2.device.plan.at_], vb s32.2.device.off, vb s32.2.device.armed, vi .i64 s32.2.device.left, vi .i64 s32.2.device.steps]), .row (.st .S_pmem_cell) 125 (s32.2.device.cells : List S_pmem_cell), .row (.int .i64) 3 (s32.2.device.plan.list : List Int), .box 108 (.agg [vi .i64 s32.2.blocks.reserve, .agg [.ptr 5 0, .ptr 7 0, .ptr 9 0, .ptr 11 0]]), .box 112 (.agg [vi .i64 s32.2.blocks.sets.1.size, .sl 6 1 []]), .row (.int .u64) 119 (s32.2.blocks.sets.1.words : List Int), .box 112 (.agg [vi .i64 s32.2.blocks.sets.2.1.size, .sl 8 1 []]), .row (.int .u64) 119 (s32.2.blocks.sets.2.1.words : List Int), .box 112 (.agg [vi .i64 s32.2.blocks.sets.2.2.1.size, .sl 10 1 []]), .row (.int .u64) 119 (s32.2.blocks.sets.2.2.1.words : List Int), .box 112 (.agg [vi .i64 s32.2.blocks.sets.2.2.2.size, .sl 12 1 []]), .row (.int .u64) 119 (s32.2.blocks.sets.2.2.2.words : List Int)]⟩) l34 (by kernel_rfl) (fun s32 x36 h => ?_)
  unfold rickyardlaw19_ShadowBack.s0 at h
  refine t_cond cok ?_
  refine bi h (fun c37 h => ?_) (fun c37 h => ?_)
  ·skip
   refine ag h fun h => ?_
   refine bk h fun t38 k39 h => ?_
   refine cl3 cok.g (rickyardlaw19_do_a1_1.sc fu s32.2 (ix a0 s32.1) _ k39) (.tup []) [(0, .box 114 (.agg [.ptr 1 0, .ptr 4 0])), (1, .box 105 (.agg [.sl 2 4 [], .agg [.sl 3 1 [], vi .i64 t38.device.plan.at_], vb t38.device.off, vb t38.device.armed, vi .i64 t38.device.left, vi .i64 t38.device.steps])), (2, .row (.st .S_pmem_cell) 125 (t38.device.cells : List S_pmem_cell)), (3, .row (.int .i64) 3 (t38.device.plan.list : List Int)), (4, .box 108 (.agg [vi .i64 t38.blocks.reserve, .agg [.ptr 5 0, .ptr 7 0, .ptr 26 0, .ptr 28 0]])), (5, .box 112 (.agg [vi .i64 t38.blocks.sets.1.size, .sl 6 1 []])), (6, .row (.int .u64) 119 (t38.blocks.sets.1.words : List Int)), (7, .box 112 (.agg [vi .i64 t38.blocks.sets.2.1.size, .sl 8 1 []])), (8, .row (.int .u64) 119 (t38.blocks.sets.2.1.words : List Int)), (9, .gone), (10, .gone), (11, .gone), (12, .gone), (26, .box 112 (.agg [vi .i64 t38.blocks.sets.2.2.1.size, .sl 27 1 []])), (27, .row (.int .u64) 119 (t38.blocks.sets.2.2.1.words : List Int)), (28, .box 112 (.agg [vi .i64 t38.blocks.sets.2.2.2.size, .sl 29 1 []])), (29, .row (.int .u64) 119 (t38.blocks.sets.2.2.2.words : List Int))] 30 (by kernel_rfl) (by kernel_rfl) ?_
   exact lpi h (by kernel_rfl)
  exact lpx h (fun hy => em (sj hy) (by kernel_rfl))
 refine bk h fun t40 k41 h => ?_
 refine cl3 cok.g (alloc_Alloc_Mark.sc fu e33.blocks _ k41) (.tup []) [(4, .box 108 (.agg [vi .i64 t40.reserve, .agg [.ptr 5 0, .ptr 7 0, .ptr 22 0, .ptr 11 0]])), (5, .box 112 (.agg [vi .i64 t40.sets.1.size, .sl 6 1 []])), (6, .row (.int .u64) 119 (t40.sets.1.words : List Int)), (7, .box 112 (.agg [vi .i64 t40.sets.2.1.size, .sl 8 1 []])), (8, .row (.int .u64) 119 (t40.sets.2.1.words : List Int)), (9, .gone), (10, .gone), (11, .box 112 (.agg [vi .i64 t40.sets.2.2.2.size, .sl 12 1 []])), (12, .row (.int .u64) 119 (t40.sets.2.2.2.words : List Int)), (22, .box 112 (.agg [vi .i64 t40.sets.2.2.1.size, .sl 23 1 []])), (23, .row (.int .u64) 119 (t40.sets.2.2.1.words : List Int))] 24 (by kernel_rfl) (by kernel_rfl) ?_
 refine bk h fun t42 k43 h => ?_
 refine cl3 cok.g (alloc_Alloc_Works.sc fu t40 _ k43) (.ptr 33 0) [(4, .box 108 (.agg [vi .i64 t40.reserve, .agg [.ptr 5 0, .ptr 7 0, .ptr 22 0, .ptr 11 0]])), (5, .box 112 (.agg [vi .i64 t40.sets.1.size, .sl 6 1 []])), (6, .row (.int .u64) 119 (t40.sets.1.words : List Int)), (7, .box 112 (.agg [vi .i64 t40.sets.2.1.size, .sl 8 1 []])), (8, .row (.int .u64) 119 (t40.sets.2.1.words : List Int)), (22, .box 112 (.agg [vi .i64 t40.sets.2.2.1.size, .sl 23 1 []])), (23, .row (.int .u64) 119 (t40.sets.2.2.1.words : List Int)), (11, .box 112 (.agg [vi .i64 t40.sets.2.2.2.size, .sl 12 1 []])), (12, .row (.int .u64) 119 (t40.sets.2.2.2.words : List Int)), (33, .box 112 (.agg [vi .i64 t42.size, .sl 34 1 []])), (34, .row (.int .u64) 119 (t42.words : List Int))] 35 (by kernel_rfl) (by kernel_rfl) ?_
 refine bk h fun t44 k45 h => ?_
 refine cl3 cok.g (bits_Set_List.sc fu t42 _ k45) (.sl 37 1 []) [(33, .box 112 (.agg [vi .i64 t42.size, .sl 34 1 []])), (34, .row (.int .u64) 119 (t42.words : List Int)), (37, .row (.int .i64) 3 (t44 : List Int))] 38 (by kernel_rfl) (by kernel_rfl) ?_
 refine bk h fun e47 l48 h => ?_
 refine t_cutx cok 2 (fun (e47 : (List (List UInt8))) => ⟨[(1, .v (.sl (.st .S_rickyardlaw19_Act)) (a1 : List S_rickyardlaw19_Act)), (5, .ptr 0 0), (7, .ptr 4 0), (9, .sl 13 1 []), (10, .sl 14 1 [])], [.box 114 (.agg [.ptr 1 0, .ptr 4 0]), .box 105 (.agg [.sl 2 4 [], .agg [.sl 3 1 [], vi .i64 e33.device.plan.at_], vb e33.device.off, vb e33.device.armed, vi .i64 e33.device.left, vi .i64 e33.device.steps]), .row (.st .S_pmem_cell) 125 (e33.device.cells : List S_pmem_cell), .row (.int .i64) 3 (e33.device.plan.list : List Int), .box 108 (.agg [vi .i64 t40.reserve, .agg [.ptr 5 0, .ptr 7 0, .ptr 9 0, .ptr 11 0]]), .box 112 (.agg [vi .i64 t40.sets.1.size, .sl 6 1 []]), .row (.int .u64) 119 (t40.sets.1.words : List Int), .box 112 (.agg [vi .i64 t40.sets.2.1.size, .sl 8 1 []]), .row (.int .u64) 119 (t40.sets.2.1.words : List Int), .box 112 (.agg [vi .i64 t40.sets.2.2.1.size, .sl 10 1 []]), .row (.int .u64) 119 (t40.sets.2.2.1.words : List Int), .box 112 (.agg [vi .i64 t40.sets.2.2.2.size, .sl 12 1 []]), .row (.int .u64) 119 (t40.sets.2.2.2.words : List Int), .row (.int .i64) 3 (t44 : List Int), .row (.str) 9 (e47 : List (List UInt8))]⟩) e47 ?_ ?_
 ·skip
  have h49 := h
  refine t_loop cok (fun (s46 : (List (List UInt8)) × Int) => ⟨[(1, .v (.sl (.st .S_rickyardlaw19_Act)) (a1 : List S_rickyardlaw19_Act)), (5, .ptr 0 0), (7, .ptr 4 0), (9, .sl 13 1 []), (10, .sl 14 1 []), (11, vi .i64 s46.2)], [.box 114 (.agg [.ptr 1 0, .ptr 4 0]), .box 105 (.agg [.sl 2 4 [], .agg [.sl 3 1 [], vi .i64 e33.device.plan.at_], vb e33.device.off, vb e33.device.armed, vi .i64 e33.device.left, vi .i64 e33.device.steps]), .row (.st .S_pmem_cell) 125 (e33.device.cells : List S_pmem_cell), .row (.int .i64) 3 (e33.device.plan.list : List Int), .box 108 (.agg [vi .i64 t40.reserve, .agg [.ptr 5 0, .ptr 7 0, .ptr 9 0, .ptr 11 0]]), .box 112 (.agg [vi .i64 t40.sets.1.size, .sl 6 1 []]), .row (.int .u64) 119 (t40.sets.1.words : List Int), .box 112 (.agg [vi .i64 t40.sets.2.1.size, .sl 8 1 []]), .row (.int .u64) 119 (t40.sets.2.1.words : List Int), .box 112 (.agg [vi .i64 t40.sets.2.2.1.size, .sl 10 1 []]), .row (.int .u64) 119 (t40.sets.2.2.1.words : List Int), .box 112 (.agg [vi .i64 t40.sets.2.2.2.size, .sl 12 1 []]), .row (.int .u64) 119 (t40.sets.2.2.2.words : List Int), .row (.int .i64) 3 (t44 : List Int), .row (.str) 9 (s46.1 : List (List UInt8))]⟩) l48 (by kernel_rfl) (fun s46 x50 h => ?_)
  unfold rickyardlaw19_ShadowBack.s1 at h
  refine t_cond cok ?_
  refine bi h (fun c51 h => ?_) (fun c51 h => ?_)
  ·skip
   refine ag h fun h => ?_
   refine bk h fun t52 k53 h => ?_
   refine cl3 cok.g (shadow_Store_Get.sc fu (⟨e33.device, t40⟩ : S_shadow_Store) (ix t44 s46.2) _ k53) (.tup [.sl 28 1 [], vi .i64 t52.2]) [(0, .box 114 (.agg [.ptr 1 0, .ptr 4 0])), (1, .box 105 (.agg [.sl 2 4 [], .agg [.sl 3 1 [], vi .i64 e33.device.plan.at_], vb e33.device.off, vb e33.device.armed, vi .i64 e33.device.left, vi .i64 e33.device.steps])), (2, .row (.st .S_pmem_cell) 125 (e33.device.cells : List S_pmem_cell)), (3, .row (.int .i64) 3 (e33.device.plan.list : List Int)), (4, .box 108 (.agg [vi .i64 t40.reserve, .agg [.ptr 5 0, .ptr 7 0, .ptr 9 0, .ptr 11 0]])), (5, .box 112 (.agg [vi .i64 t40.sets.1.size, .sl 6 1 []])), (6, .row (.int .u64) 119 (t40.sets.1.words : List Int)), (7, .box 112 (.agg [vi .i64 t40.sets.2.1.size, .sl 8 1 []])), (8, .row (.int .u64) 119 (t40.sets.2.1.words : List Int)), (9, .box 112 (.agg [vi .i64 t40.sets.2.2.1.size, .sl 10 1 []])), (10, .row (.int .u64) 119 (t40.sets.2.2.1.words : List Int)), (11, .box 112 (.agg [vi .i64 t40.sets.2.2.2.size, .sl 12 1 []])), (12, .row (.int .u64) 119 (t40.sets.2.2.2.words : List Int)), (28, .row (.int .u8) 5 (t52.1 : List Int))] 29 (by kernel_rfl) (by kernel_rfl) ?_
   refine ag h fun h => ?_
   exact lpi h (by kernel_rfl)
  exact lpx h (fun hy => em (sj hy) (by kernel_rfl))
 refine bk h fun e55 l56 h => ?_
 refine t_cutx cok 4 (fun (e55 : S_shadow_Store) => ⟨[(5, .ptr 0 0), (7, .ptr 4 0), (9, .sl 13 1 []), (10, .sl 14 1 [])], [.box 114 (.agg [.ptr 1 0, .ptr 4 0]), .box 105 (.agg [.sl 2 4 [], .agg [.sl 3 1 [], vi .i64 e55.device.plan.at_], vb e55.device.off, vb e55.device.armed, vi .i64 e55.device.left, vi .i64 e55.device.steps]), .row (.st .S_pmem_cell) 125 (e55.device.cells : List S_pmem_cell), .row (.int .i64) 3 (e55.device.plan.list : List Int), .box 108 (.agg [vi .i64 e55.blocks.reserve, .agg [.ptr 5 0, .ptr 7 0, .ptr 9 0, .ptr 11 0]]), .box 112 (.agg [vi .i64 e55.blocks.sets.1.size, .sl 6 1 []]), .row (.int .u64) 119 (e55.blocks.sets.1.words : List Int), .box 112 (.agg [vi .i64 e55.blocks.sets.2.1.size, .sl 8 1 []]), .row (.int .u64) 119 (e55.blocks.sets.2.1.words : List Int), .box 112 (.agg [vi .i64 e55.blocks.sets.2.2.1.size, .sl 10 1 []]), .row (.int .u64) 119 (e55.blocks.sets.2.2.1.words : List Int), .box 112 (.agg [vi .i64 e55.blocks.sets.2.2.2.size, .sl 12 1 []]), .row (.int .u64) 119 (e55.blocks.sets.2.2.2.words : List Int), .row (.int .i64) 3 (t44 : List Int), .row (.str) 9 (e47 : List (List UInt8))]⟩) e55 ?_ ?_
 ·skip
  have h57 := h
  refine t_loop cok (fun (s54 : Int × S_shadow_Store) => ⟨[(1, .v (.sl (.st .S_rickyardlaw19_Act)) (a1 : List S_rickyardlaw19_Act)), (5, .ptr 0 0), (7, .ptr 4 0), (9, .sl 13 1 []), (10, .sl 14 1 []), (14, vi .i64 s54.1)], [.box 114 (.agg [.ptr 1 0, .ptr 4 0]), .box 105 (.agg [.sl 2 4 [], .agg [.sl 3 1 [], vi .i64 s54.2.device.plan.at_], vb s54.2.device.off, vb s54.2.device.armed, vi .i64 s54.2.device.left, vi .i64 s54.2.device.steps]), .row (.st .S_pmem_cell) 125 (s54.2.device.cells : List S_pmem_cell), .row (.int .i64) 3 (s54.2.device.plan.list : List Int), .box 108 (.agg [vi .i64 s54.2.blocks.reserve, .agg [.ptr 5 0, .ptr 7 0, .ptr 9 0, .ptr 11 0]]), .box 112 (.agg [vi .i64 s54.2.blocks.sets.1.size, .sl 6 1 []]), .row (.int .u64) 119 (s54.2.blocks.sets.1.words : List Int), .box 112 (.agg [vi .i64 s54.2.blocks.sets.2.1.size, .sl 8 1 []]), .row (.int .u64) 119 (s54.2.blocks.sets.2.1.words : List Int), .box 112 (.agg [vi .i64 s54.2.blocks.sets.2.2.1.size, .sl 10 1 []]), .row (.int .u64) 119 (s54.2.blocks.sets.2.2.1.words : List Int), .box 112 (.agg [vi .i64 s54.2.blocks.sets.2.2.2.size, .sl 12 1 []]), .row (.int .u64) 119 (s54.2.blocks.sets.2.2.2.words : List Int), .row (.int .i64) 3 (t44 : List Int), .row (.str) 9 (e47 : List (List UInt8))]⟩) l56 (by kernel_rfl) (fun s54 x58 h => ?_)
  unfold rickyardlaw19_ShadowBack.s2 at h
  refine t_cond cok ?_
  refine bi h (fun c59 h => ?_) (fun c59 h => ?_)
  ·skip
   refine ag h fun h => ?_
   refine bk h fun t60 k61 h => ?_
   refine cl3 cok.g (rickyardref01_Rest.sc fu ((ix a1 s54.1).Kind) 10 _ k61) (vi .i64 t60) [] 15 (by kernel_rfl) (by kernel_rfl) ?_
   refine bk h fun x62 j63 h => ?_
   refine t_cut cok (fun (x62 : S_shadow_Store) => ⟨[(1, .v (.sl (.st .S_rickyardlaw19_Act)) (a1 : List S_rickyardlaw19_Act)), (5, .ptr 0 0), (7, .ptr 4 0), (9, .sl 13 1 []), (10, .sl 14 1 []), (14, vi .i64 s54.1)], [.box 114 (.agg [.ptr 1 0, .ptr 4 0]), .box 105 (.agg [.sl 2 4 [], .agg [.sl 3 1 [], vi .i64 x62.device.plan.at_], vb x62.device.off, vb x62.device.armed, vi .i64 x62.device.left, vi .i64 x62.device.steps]), .row (.st .S_pmem_cell) 125 (x62.device.cells : List S_pmem_cell), .row (.int .i64) 3 (x62.device.plan.list : List Int), .box 108 (.agg [vi .i64 x62.blocks.reserve, .agg [.ptr 5 0, .ptr 7 0, .ptr 9 0, .ptr 11 0]]), .box 112 (.agg [vi .i64 x62.blocks.sets.1.size, .sl 6 1 []]), .row (.int .u64) 119 (x62.blocks.sets.1.words : List Int), .box 112 (.agg [vi .i64 x62.blocks.sets.2.1.size, .sl 8 1 []]), .row (.int .u64) 119 (x62.blocks.sets.2.1.words : List Int), .box 112 (.agg [vi .i64 x62.blocks.sets.2.2.1.size, .sl 10 1 []]), .row (.int .u64) 119 (x62.blocks.sets.2.2.1.words : List Int), .box 112 (.agg [vi .i64 x62.blocks.sets.2.2.2.size, .sl 12 1 []]), .row (.int .u64) 119 (x62.blocks.sets.2.2.2.words : List Int), .row (.int .i64) 3 (t44 : List Int), .row (.str) 9 (e47 : List (List UInt8))]⟩) x62 ?_ ?_
   ·skip
    have h64 := h
    have h := j63
    refine t_cond cok ?_
    refine bi h (fun c65 h => ?_) (fun c65 h => ?_)
    ·skip
     refine ag h fun h => ?_
     refine bk h fun t66 k67 h => ?_
     refine cl3 cok.g (rickyardlaw19_do_a1_1.sc fu s54.2 (ix a1 s54.1) _ k67) (.tup []) [(0, .box 114 (.agg [.ptr 1 0, .ptr 4 0])), (1, .box 105 (.agg [.sl 2 4 [], .agg [.sl 3 1 [], vi .i64 t66.device.plan.at_], vb t66.device.off, vb t66.device.armed, vi .i64 t66.device.left, vi .i64 t66.device.steps])), (2, .row (.st .S_pmem_cell) 125 (t66.device.cells : List S_pmem_cell)), (3, .row (.int .i64) 3 (t66.device.plan.list : List Int)), (4, .box 108 (.agg [vi .i64 t66.blocks.reserve, .agg [.ptr 5 0, .ptr 7 0, .ptr 28 0, .ptr 30 0]])), (5, .box 112 (.agg [vi .i64 t66.blocks.sets.1.size, .sl 6 1 []])), (6, .row (.int .u64) 119 (t66.blocks.sets.1.words : List Int)), (7, .box 112 (.agg [vi .i64 t66.blocks.sets.2.1.size, .sl 8 1 []])), (8, .row (.int .u64) 119 (t66.blocks.sets.2.1.words : List Int)), (9, .gone), (10, .gone), (11, .gone), (12, .gone), (28, .box 112 (.agg [vi .i64 t66.blocks.sets.2.2.1.size, .sl 29 1 []])), (29, .row (.int .u64) 119 (t66.blocks.sets.2.2.1.words : List Int)), (30, .box 112 (.agg [vi .i64 t66.blocks.sets.2.2.2.size, .sl 31 1 []])), (31, .row (.int .u64) 119 (t66.blocks.sets.2.2.2.words : List Int))] 32 (by kernel_rfl) (by kernel_rfl) ?_
     exact em h (by kernel_rfl)
    exact em h (by kernel_rfl)
   exact lpi h (by kernel_rfl)
  exact lpx h (fun hy => em (sj hy) (by kernel_rfl))
 refine bk h fun t68 k69 h => ?_
 refine cl3 cok.g (alloc_Alloc_Back.sc fu e55.blocks _ k69) (.tup []) [(4, .box 108 (.agg [vi .i64 t68.reserve, .agg [.ptr 5 0, .ptr 7 0, .ptr 9 0, .ptr 24 0]])), (5, .box 112 (.agg [vi .i64 t68.sets.1.size, .sl 6 1 []])), (6, .row (.int .u64) 119 (t68.sets.1.words : List Int)), (7, .box 112 (.agg [vi .i64 t68.sets.2.1.size, .sl 8 1 []])), (8, .row (.int .u64) 119 (t68.sets.2.1.words : List Int)), (9, .box 112 (.agg [vi .i64 t68.sets.2.2.1.size, .sl 10 1 []])), (10, .row (.int .u64) 119 (t68.sets.2.2.1.words : List Int)), (11, .gone), (12, .gone), (24, .box 112 (.agg [vi .i64 t68.sets.2.2.2.size, .sl 25 1 []])), (25, .row (.int .u64) 119 (t68.sets.2.2.2.words : List Int))] 26 (by kernel_rfl) (by kernel_rfl) ?_
 refine bk h fun t70 k71 h => ?_
 refine cl3 cok.g (alloc_Alloc_Works.sc fu t68 _ k71) (.ptr 35 0) [(4, .box 108 (.agg [vi .i64 t68.reserve, .agg [.ptr 5 0, .ptr 7 0, .ptr 9 0, .ptr 24 0]])), (5, .box 112 (.agg [vi .i64 t68.sets.1.size, .sl 6 1 []])), (6, .row (.int .u64) 119 (t68.sets.1.words : List Int)), (7, .box 112 (.agg [vi .i64 t68.sets.2.1.size, .sl 8 1 []])), (8, .row (.int .u64) 119 (t68.sets.2.1.words : List Int)), (9, .box 112 (.agg [vi .i64 t68.sets.2.2.1.size, .sl 10 1 []])), (10, .row (.int .u64) 119 (t68.sets.2.2.1.words : List Int)), (24, .box 112 (.agg [vi .i64 t68.sets.2.2.2.size, .sl 25 1 []])), (25, .row (.int .u64) 119 (t68.sets.2.2.2.words : List Int)), (35, .box 112 (.agg [vi .i64 t70.size, .sl 36 1 []])), (36, .row (.int .u64) 119 (t70.words : List Int))] 37 (by kernel_rfl) (by kernel_rfl) ?_
 refine bk h fun t72 k73 h => ?_
 refine cl3 cok.g (bits_Set_List.sc fu t70 _ k73) (.sl 39 1 []) [(35, .box 112 (.agg [vi .i64 t70.size, .sl 36 1 []])), (36, .row (.int .u64) 119 (t70.words : List Int)), (39, .row (.int .i64) 3 (t72 : List Int))] 40 (by kernel_rfl) (by kernel_rfl) ?_
 refine bk h fun t74 k75 h => ?_
 refine cl3 cok.g (rickyardref01_Ints.sc fu t72 t44 _ k75) (vb t74) [] 40 (by kernel_rfl) (by kernel_rfl) ?_
 refine t_cond cok ?_
 refine bi h (fun c76 h => ?_) (fun c76 h => ?_)
 ·skip
  exact fi h (by kernel_rfl)
 refine bk h fun e78 l79 h => ?_
 refine t_cutxS cok 6 (fun (_x : Unit) => ⟨[], []⟩) e78 ?_ (fun x80 hy => ?_)
 ·skip
  have h81 := h
  refine t_loop cok (fun (s77 : Int) => ⟨[(5, .ptr 0 0), (9, .sl 13 1 []), (10, .sl 14 1 []), (15, vi .i64 s77)], [.box 114 (.agg [.ptr 1 0, .ptr 4 0]), .box 105 (.agg [.sl 2 4 [], .agg [.sl 3 1 [], vi .i64 e55.device.plan.at_], vb e55.device.off, vb e55.device.armed, vi .i64 e55.device.left, vi .i64 e55.device.steps]), .row (.st .S_pmem_cell) 125 (e55.device.cells : List S_pmem_cell), .row (.int .i64) 3 (e55.device.plan.list : List Int), .box 108 (.agg [vi .i64 t68.reserve, .agg [.ptr 5 0, .ptr 7 0, .ptr 9 0, .ptr 11 0]]), .box 112 (.agg [vi .i64 t68.sets.1.size, .sl 6 1 []]), .row (.int .u64) 119 (t68.sets.1.words : List Int), .box 112 (.agg [vi .i64 t68.sets.2.1.size, .sl 8 1 []]), .row (.int .u64) 119 (t68.sets.2.1.words : List Int), .box 112 (.agg [vi .i64 t68.sets.2.2.1.size, .sl 10 1 []]), .row (.int .u64) 119 (t68.sets.2.2.1.words : List Int), .box 112 (.agg [vi .i64 t68.sets.2.2.2.size, .sl 12 1 []]), .row (.int .u64) 119 (t68.sets.2.2.2.words : List Int), .row (.int .i64) 3 (t44 : List Int), .row (.str) 9 (e47 : List (List UInt8))]⟩) l79 (by kernel_rfl) (fun s77 x82 h => ?_)
  unfold rickyardlaw19_ShadowBack.s3 at h
  refine t_cond cok ?_
  refine bi h (fun c83 h => ?_) (fun c83 h => ?_)
  ·skip
   refine ag h fun h => ?_
   refine bk h fun t84 k85 h => ?_
   refine cl3 cok.g (shadow_Store_Get.sc fu (⟨e55.device, t68⟩ : S_shadow_Store) (ix t44 s77) _ k85) (.tup [.sl 28 1 [], vi .i64 t84.2]) [(0, .box 114 (.agg [.ptr 1 0, .ptr 4 0])), (1, .box 105 (.agg [.sl 2 4 [], .agg [.sl 3 1 [], vi .i64 e55.device.plan.at_], vb e55.device.off, vb e55.device.armed, vi .i64 e55.device.left, vi .i64 e55.device.steps])), (2, .row (.st .S_pmem_cell) 125 (e55.device.cells : List S_pmem_cell)), (3, .row (.int .i64) 3 (e55.device.plan.list : List Int)), (4, .box 108 (.agg [vi .i64 t68.reserve, .agg [.ptr 5 0, .ptr 7 0, .ptr 9 0, .ptr 11 0]])), (5, .box 112 (.agg [vi .i64 t68.sets.1.size, .sl 6 1 []])), (6, .row (.int .u64) 119 (t68.sets.1.words : List Int)), (7, .box 112 (.agg [vi .i64 t68.sets.2.1.size, .sl 8 1 []])), (8, .row (.int .u64) 119 (t68.sets.2.1.words : List Int)), (9, .box 112 (.agg [vi .i64 t68.sets.2.2.1.size, .sl 10 1 []])), (10, .row (.int .u64) 119 (t68.sets.2.2.1.words : List Int)), (11, .box 112 (.agg [vi .i64 t68.sets.2.2.2.size, .sl 12 1 []])), (12, .row (.int .u64) 119 (t68.sets.2.2.2.words : List Int)), (28, .row (.int .u8) 5 (t84.1 : List Int))] 29 (by kernel_rfl) (by kernel_rfl) ?_
   refine t_draw cok mo [⟨0, false, [17], [], 0, []⟩, ⟨1, false, [123], [], 0, [0]⟩, ⟨2, false, [124], [], 0, [0, 1]⟩, ⟨3, false, [16, 125], [], 0, [0, 1, 2]⟩, ⟨4, false, [125, 126], [28], 0, [0, 1, 2, 3]⟩, ⟨5, false, [10, 125], [], 0, [0, 1, 2]⟩, ⟨6, false, [15, 125], [], 0, [0, 1, 2]⟩, ⟨7, false, [125, 128, 129], [14], 0, [0, 1, 2, 5, 6]⟩, ⟨8, false, [125, 130], [14], 0, [0, 1, 2, 5, 6, 7]⟩, ⟨9, false, [125, 127, 131], [], 0, [0, 1, 2, 3, 4, 5, 6, 7, 8]⟩, ⟨10, true, [125, 132], [], 0, [0, 1, 2, 3, 4, 5, 6, 7, 8, 9]⟩] (by kernel_rfl) ?_
   refine bi h (fun c86 h => ?_) (fun c86 h => ?_)
   ·skip
    refine t_cond cok ?_
    refine lpr h (fun hy => ?_)
    have h := h81
    rw [← hy] at h
    exact fi h (by kernel_rfl)
   refine ag h fun h => ?_
   refine t_cond cok ?_
   refine bi h (fun c87 h => ?_) (fun c87 h => ?_)
   ·skip
    refine lpr h (fun hy => ?_)
    have h := h81
    rw [← hy] at h
    exact fi h (by kernel_rfl)
   exact lpi h (by kernel_rfl)
  exact lpx h (fun hy => ems (sj hy) (by kernel_rfl))
 subst hy
 exact fi h (by kernel_rfl)
end Go.Proofs.YtdifnahlheogdaaDoor
namespace Go.Proofs.YtdifnahlheogdaaDoor.Pure
open Go Go.Xw Go.Yw
def Bytes (l : List Int) : Prop := ∀ x ∈ l, 0 ≤ x ∧ x ≤ 255
theorem ix_nat {α : Type} [Inhabited α] {l : List α} {j : Nat} (h : j < l.length) : ix l (j : Int) = l[j] := by
  simp [ix, List.getD_eq_getElem?_getD, List.getElem?_eq_getElem h]
theorem take_next {α : Type} {l : List α} {j : Nat} (h : j < l.length) : l.take (j + 1) = l.take j ++ [l[j]] := by
  rw [List.take_add_one, List.getElem?_eq_getElem h]
  rfl
theorem loopM_inv {σ ε : Type} {step : σ → Option (Sum ε σ)} (P : Nat → σ → Prop) (n : Nat) (Q : ε → Prop) (h : ∀ j s, j < n → P j s → ∃ s', step s = some (.inr s') ∧ P (j + 1) s') (he : ∀ s, P n s → ∃ e, step s = some (.inl e) ∧ Q e) : ∀ {k j : Nat} {s : σ}, P j s → j ≤ n → n - j < k → ∃ e, loopM step k s = some e ∧ Q e
  | 0, j, s, _, _, hk => by omega
  | k + 1, j, s, hp, hj, hk => by
    unfold loopM
    by_cases e1 : j = n
    · subst e1
      obtain ⟨e, h1, h2⟩ := he s hp
      rw [h1]
      exact ⟨e, rfl, h2⟩
    · obtain ⟨s', h1, h2⟩ := h j s (by omega) hp
      rw [h1]
      exact loopM_inv P n Q h he h2 (by omega) (by omega)
theorem next64 {j n : Nat} (h : j < n) (hn : n ≤ 100000) : IntKind.i64.wrap ((j : Int) + 1) = ((j + 1 : Nat) : Int) := by rw [w64 (by omega) (by omega)]; omega
theorem loopM_term {σ ε : Type} {step : σ → Option (Sum ε σ)} (S : Nat → σ) (n : Nat) (h : ∀ j, j < n → (∃ e, step (S j) = some (.inl e)) ∨ step (S j) = some (.inr (S (j + 1)))) (he : ∃ e, step (S n) = some (.inl e)) : ∀ {k j : Nat}, j ≤ n → n - j < k → ∃ e, loopM step k (S j) = some e
  | 0, j, _, hk => by omega
  | k + 1, j, hj, hk => by
    unfold loopM
    by_cases e1 : j = n
    · subst e1
      obtain ⟨e, h1⟩ := he
      rw [h1]
      exact ⟨e, rfl⟩
    · rcases h j (by omega) with ⟨e, h1⟩ | h1
      · rw [h1]
        exact ⟨e, rfl⟩
      · rw [h1]
        exact loopM_term S n h he (by omega) (by omega)
def wdR (g : Nat → Bool) : Nat → Nat
  | 0 => 0
  | k + 1 => 2 ^ k * (if g k = true then 1 else 0) + wdR g k
theorem wdR_lt (g : Nat → Bool) : ∀ n, wdR g n < 2 ^ n
  | 0 => by simp [wdR]
  | n + 1 => by
    have := wdR_lt g n
    unfold wdR
    rw [Nat.pow_succ]
    split <;> omega
theorem wdR_bit (g : Nat → Bool) (k : Nat) : ∀ n, (wdR g n).testBit k = (decide (k < n) && g k)
  | 0 => by simp [wdR]
  | n + 1 => by
    unfold wdR
    rw [Nat.testBit_two_pow_mul_add _ (wdR_lt g n)]
    by_cases h : k < n
    · rw [if_pos h, wdR_bit g k n]
      simp [h, show k < n + 1 by omega]
    · rw [if_neg h]
      by_cases e : k = n
      · subst e
        cases hg : g k <;> simp [hg]
      · have e2 : ¬ k < n + 1 := by omega
        obtain ⟨m, hm⟩ : ∃ m, k - n = m + 1 := ⟨k - n - 1, by omega⟩
        rw [hm]
        simp only [e2, decide_false, Bool.false_and]
        split <;> simp [Nat.testBit_succ]
theorem wd_ex (g : Nat → Bool) (n : Nat) : ∃ x, x < 2 ^ n ∧ ∀ k, x.testBit k = (decide (k < n) && g k) := ⟨wdR g n, wdR_lt g n, fun k => wdR_bit g k n⟩
noncomputable def wdN (g : Nat → Bool) (n : Nat) : Nat := Classical.choose (wd_ex g n)
theorem wdN_lt (g : Nat → Bool) (n : Nat) : wdN g n < 2 ^ n := (Classical.choose_spec (wd_ex g n)).1
theorem wdN_bit (g : Nat → Bool) (k n : Nat) : (wdN g n).testBit k = (decide (k < n) && g k) := (Classical.choose_spec (wd_ex g n)).2 k
theorem wdN_congr {f g : Nat → Bool} {n : Nat} (h : ∀ k, k < n → f k = g k) : wdN f n = wdN g n := by
  apply Nat.eq_of_testBit_eq
  intro i
  rw [wdN_bit, wdN_bit]
  by_cases e : i < n
  · rw [h i e]
  · simp [e]
theorem p64 : (2 : Nat) ^ 64 = 18446744073709551616 := by decide
theorem wrap_nat {x : Nat} (h : x < 2 ^ 64) : IntKind.u64.wrap (x : Int) = (x : Int) := by
  rw [p64] at h
  exact wu64 (by omega) (by omega)
theorem ofInt_nat (x : Nat) : BitVec.ofInt 64 (x : Int) = BitVec.ofNat 64 x := by rw [BitVec.ofInt_natCast]
theorem and64 {x y : Nat} (hx : x < 2 ^ 64) (hy : y < 2 ^ 64) : bAnd .u64 (x : Int) (y : Int) = ((x &&& y : Nat) : Int) := by
  unfold bAnd
  show IntKind.u64.wrap (((BitVec.ofInt 64 (x : Int) &&& BitVec.ofInt 64 (y : Int)).toNat : Nat) : Int) = _
  rw [ofInt_nat, ofInt_nat, BitVec.toNat_and, BitVec.toNat_ofNat, BitVec.toNat_ofNat, Nat.mod_eq_of_lt hx, Nat.mod_eq_of_lt hy]
  exact wrap_nat (Nat.lt_of_le_of_lt Nat.and_le_left hx)
theorem or64 {x y : Nat} (hx : x < 2 ^ 64) (hy : y < 2 ^ 64) : bOr .u64 (x : Int) (y : Int) = ((x ||| y : Nat) : Int) := by
  unfold bOr
  show IntKind.u64.wrap (((BitVec.ofInt 64 (x : Int) ||| BitVec.ofInt 64 (y : Int)).toNat : Nat) : Int) = _
  rw [ofInt_nat, ofInt_nat, BitVec.toNat_or, BitVec.toNat_ofNat, BitVec.toNat_ofNat, Nat.mod_eq_of_lt hx, Nat.mod_eq_of_lt hy]
  exact wrap_nat (Nat.or_lt_two_pow hx hy)
theorem not64 {x y : Nat} (hx : x < 2 ^ 64) (hy : y < 2 ^ 64) : bNot .u64 (x : Int) (y : Int) = ((wdN (fun k => x.testBit k && !y.testBit k) 64 : Nat) : Int) := by
  unfold bNot
  show IntKind.u64.wrap (((BitVec.ofInt 64 (x : Int) &&& ~~~ BitVec.ofInt 64 (y : Int)).toNat : Nat) : Int) = _
  rw [wrap_nat (BitVec.isLt _), ofInt_nat, ofInt_nat]
  refine congrArg (fun n : Nat => (n : Int)) ?_
  apply Nat.eq_of_testBit_eq
  intro i
  rw [wdN_bit, BitVec.testBit_toNat, BitVec.getLsbD_and, BitVec.getLsbD_not, BitVec.getLsbD_ofNat, BitVec.getLsbD_ofNat]
  by_cases h : i < 64 <;> simp [h]
theorem shr64n {x k : Nat} (hk : k ≤ 64) : shR .u64 (x : Int) (k : Int) = ((x / 2 ^ k : Nat) : Int) := by
  unfold shR
  show Int.fdiv (x : Int) (2 ^ min ((k : Int).toNat) 64) = _
  rw [Int.toNat_natCast, Nat.min_eq_left hk, Int.fdiv_eq_ediv_of_nonneg _ (Int.le_of_lt (Int.pow_pos (by decide)))]
  simp
theorem shl64 {k : Nat} (hk : k < 64) : shL .u64 1 (k : Int) = ((2 ^ k : Nat) : Int) := by
  unfold shL
  show IntKind.u64.wrap (1 * 2 ^ min ((k : Int).toNat) 64) = _
  rw [Int.toNat_natCast, Nat.min_eq_left (Nat.le_of_lt hk), Int.one_mul]
  have : ((2 : Int) ^ k) = ((2 ^ k : Nat) : Int) := by simp
  rw [this]
  exact wrap_nat (Nat.pow_lt_pow_right (by decide) hk)
theorem pow_lt64 {k : Nat} (hk : k < 64) : 2 ^ k < 2 ^ 64 := Nat.pow_lt_pow_right (by decide) hk
theorem or_wd {g : Nat → Bool} {r : Nat} (hr : r < 64) : bOr .u64 ((wdN g 64 : Nat) : Int) (shL .u64 1 (r : Int)) = ((wdN (fun k => g k || decide (k = r)) 64 : Nat) : Int) := by
  rw [shl64 hr, or64 (wdN_lt g 64) (pow_lt64 hr)]
  refine congrArg (fun n : Nat => (n : Int)) ?_
  apply Nat.eq_of_testBit_eq
  intro i
  rw [Nat.testBit_or, wdN_bit, wdN_bit, Nat.testBit_two_pow]
  by_cases h : i < 64
  · by_cases e : r = i <;> simp [h, e, eq_comm]
  · simp [h, show ¬ r = i by omega]
theorem not_wd {g : Nat → Bool} {r : Nat} (hr : r < 64) : bNot .u64 ((wdN g 64 : Nat) : Int) (shL .u64 1 (r : Int)) = ((wdN (fun k => g k && !decide (k = r)) 64 : Nat) : Int) := by
  rw [shl64 hr, not64 (wdN_lt g 64) (pow_lt64 hr)]
  refine congrArg (fun n : Nat => (n : Int)) ?_
  refine wdN_congr fun k hk => ?_
  rw [wdN_bit, Nat.testBit_two_pow]
  by_cases e : r = k <;> simp [hk, e, eq_comm]
theorem has_wd {g : Nat → Bool} {r : Nat} (hr : r < 64) : decide (bAnd .u64 (shR .u64 ((wdN g 64 : Nat) : Int) (r : Int)) 1 = 1) = g r := by
  have hb := wdN_bit g r 64
  rw [shr64n (by omega), show (1 : Int) = ((1 : Nat) : Int) from rfl, and64 (Nat.lt_of_le_of_lt (Nat.div_le_self _ _) (wdN_lt g 64)) (by decide)]
  simp only [hr, decide_true, Bool.true_and] at hb
  rw [← hb, Nat.testBit_eq_decide_div_mod_eq, Nat.and_one_is_mod]
  congr 1
  apply propext
  omega
theorem low_split {x : Nat} (h : x ≠ 0) : ∃ k q, x = 2 ^ k * (2 * q + 1) := by
  induction x using Nat.strongRecOn with
  | _ x ih =>
    by_cases e : x % 2 = 1
    · exact ⟨0, x / 2, by omega⟩
    · obtain ⟨k, q, hk⟩ := ih (x / 2) (by omega) (by omega)
      exact ⟨k + 1, q, by rw [Nat.pow_succ, Nat.mul_comm (2 ^ k) 2, Nat.mul_assoc, ← hk]; omega⟩
theorem tb0 (k a j : Nat) : (2 ^ k * a).testBit j = if j < k then false else a.testBit (j - k) := by
  have := Nat.testBit_two_pow_mul_add a (show 0 < 2 ^ k from Nat.pow_pos (by decide)) j
  simpa using this
theorem low_and (k q : Nat) : (2 ^ k * (2 * q + 1)) &&& (2 ^ k * (2 * q + 1) - 1) = 2 ^ k * (2 * q) := by
  have hp : 0 < 2 ^ k := Nat.pow_pos (by decide)
  have e2 : 2 ^ k * (2 * q + 1) - 1 = 2 ^ k * (2 * q) + (2 ^ k - 1) := by rw [Nat.mul_add]; omega
  apply Nat.eq_of_testBit_eq
  intro j
  rw [Nat.testBit_and, e2, Nat.testBit_two_pow_mul_add _ (by omega : 2 ^ k - 1 < 2 ^ k), tb0, tb0]
  by_cases h : j < k
  · simp [h]
  · rw [if_neg h, if_neg h, if_neg h]
    cases hm : j - k with
    | zero => simp [Nat.testBit_zero]
    | succ m =>
      rw [Nat.testBit_succ, Nat.testBit_succ, show (2 * q + 1) / 2 = q by omega, show 2 * q / 2 = q by omega, Bool.and_self]
theorem low_neg {k q : Nat} (h : 2 ^ k * (2 * q + 1) < 2 ^ 64) : k < 64 ∧ (2 ^ k * (2 * q + 1)) &&& (2 ^ 64 - 2 ^ k * (2 * q + 1)) = 2 ^ k := by
  have hk : k < 64 := by
    by_cases hk : k < 64
    · exact hk
    · have : 2 ^ 64 ≤ 2 ^ k := Nat.pow_le_pow_right (by decide) (by omega)
      have h2 : 2 ^ k * 1 ≤ 2 ^ k * (2 * q + 1) := Nat.mul_le_mul_left _ (by omega)
      omega
  refine ⟨hk, ?_⟩
  have hp : 0 < 2 ^ k := Nat.pow_pos (by decide)
  have es : 2 ^ 64 = 2 ^ k * 2 ^ (64 - k) := by rw [← Nat.pow_add]; congr 1; omega
  have hq : 2 * q + 1 < 2 ^ (64 - k) := by
    rw [es] at h
    exact Nat.lt_of_mul_lt_mul_left h
  have e2 : 2 ^ 64 - 2 ^ k * (2 * q + 1) = 2 ^ k * (2 ^ (64 - k) - (2 * q + 1)) := by rw [es, Nat.mul_sub]
  apply Nat.eq_of_testBit_eq
  intro j
  rw [Nat.testBit_and, e2, tb0, tb0, Nat.testBit_two_pow]
  by_cases hj : j < k
  · simp [hj, show ¬ k = j by omega]
  · rw [if_neg hj, if_neg hj, Nat.testBit_two_pow_sub_succ (by omega : 2 * q < 2 ^ (64 - k))]
    cases hm : j - k with
    | zero => simp [Nat.testBit_zero, show k = j by omega, show 0 < 64 - j by omega]
    | succ m =>
      rw [Nat.testBit_succ, Nat.testBit_succ, show (2 * q + 1) / 2 = q by omega, show 2 * q / 2 = q by omega]
      have : ¬ k = j := by omega
      cases q.testBit m <;> simp [this]
theorem tz_tab : ∀ k : Fin 64, shR .u64 (IntKind.u64.wrap (((2 ^ (k : Nat) : Nat) : Int) * 285870213051353865)) 58 = (((2 ^ (k : Nat) * 285870213051353865) % 2 ^ 64 / 2 ^ 58 : Nat) : Int) ∧ (2 ^ (k : Nat) * 285870213051353865) % 2 ^ 64 / 2 ^ 58 < 64 ∧ Arr.get tabG0 (((2 ^ (k : Nat) * 285870213051353865) % 2 ^ 64 / 2 ^ 58 : Nat) : Int) = ((k : Nat) : Int) := by decide +kernel
theorem tz_eq {fu k q : Nat} (h : 2 ^ k * (2 * q + 1) < 2 ^ 64) : bits_TrailingZeros64.f fu ((2 ^ k * (2 * q + 1) : Nat) : Int) = some (k : Int) := by
  unfold bits_TrailingZeros64.f
  obtain ⟨hk, ha⟩ := low_neg h
  have hp : 0 < 2 ^ k := Nat.pow_pos (by decide)
  have h0 : ¬ ((2 ^ k * (2 * q + 1) : Nat) : Int) = 0 := by
    intro e
    have : 2 ^ k * (2 * q + 1) = 0 := by exact_mod_cast e
    have h2 : 2 ^ k * 1 ≤ 2 ^ k * (2 * q + 1) := Nat.mul_le_mul_left _ (by omega)
    omega
  have hw : IntKind.u64.wrap (-((2 ^ k * (2 * q + 1) : Nat) : Int)) = ((2 ^ 64 - 2 ^ k * (2 * q + 1) : Nat) : Int) := by
    generalize 2 ^ k * (2 * q + 1) = x at *
    have hx : 0 < x := by omega
    rw [p64] at *
    unfold IntKind.wrap
    simp only [IntKind.signed, IntKind.bits]
    simp
    omega
  rw [decide_eq_false h0, if_neg (by decide), hw, and64 h (by rw [p64] at *; have : 2 ^ k * 1 ≤ 2 ^ k * (2 * q + 1) := Nat.mul_le_mul_left _ (by omega); omega), ha]
  obtain ⟨t1, t2, t3⟩ := tz_tab ⟨k, hk⟩
  simp only at t1 t2 t3
  rw [t1, t3, if_pos ⟨by omega, by omega⟩, w64 (by omega) (by omega)]
def mm (c : Nat) : Nat → Nat
  | 0 => 0
  | n + 1 => 256 * mm c n + c
def f1 (n x : Nat) : Nat := ((x / 2) &&& mm 85 n) + (x &&& mm 85 n)
def f2 (n x : Nat) : Nat := ((x / 4) &&& mm 51 n) + (x &&& mm 51 n)
def f3 (n x : Nat) : Nat := (x / 16 + x) &&& mm 15 n
def pc (b : Nat) : Nat := ((List.range 8).filter fun k => b.testBit k).length
def tn : Nat → Nat → Nat
  | 0, _ => 0
  | n + 1, x => 256 * tn n (x / 256) + pc (x % 256)
theorem and256 {y b M c : Nat} (hb : b < 256) (hc : c < 256) : (256 * y + b) &&& (256 * M + c) = 256 * (y &&& M) + (b &&& c) := by
  have e : 256 = 2 ^ 8 := by decide
  have hbc : b &&& c < 2 ^ 8 := Nat.lt_of_le_of_lt Nat.and_le_left (by omega)
  apply Nat.eq_of_testBit_eq
  intro j
  rw [Nat.testBit_and, e, Nat.testBit_two_pow_mul_add _ (by omega : b < 2 ^ 8), Nat.testBit_two_pow_mul_add _ (by omega : c < 2 ^ 8), Nat.testBit_two_pow_mul_add _ hbc]
  by_cases h : j < 8
  · rw [if_pos h, if_pos h, if_pos h, Nat.testBit_and]
  · rw [if_neg h, if_neg h, if_neg h, Nat.testBit_and]
theorem t85 : ∀ (b : Fin 256) (r : Fin 2), (128 * (r : Nat) + (b : Nat) / 2) &&& 85 = ((b : Nat) / 2) &&& 85 := by decide +kernel
theorem t51 : ∀ (b : Fin 256) (r : Fin 4), (64 * (r : Nat) + (b : Nat) / 4) &&& 51 = ((b : Nat) / 4) &&& 51 := by decide +kernel
theorem t15 : ∀ (b : Fin 69) (r : Fin 5), (16 * (r : Nat) + (b : Nat) / 16 + (b : Nat)) &&& 15 = ((b : Nat) / 16 + (b : Nat)) &&& 15 := by decide +kernel
theorem tb : ∀ b : Fin 256, f1 1 b < 256 ∧ f2 1 (f1 1 b) < 69 ∧ f2 1 (f1 1 b) % 16 ≤ 4 ∧ f3 1 (f2 1 (f1 1 b)) = pc b ∧ pc b ≤ 8 := by decide +kernel
theorem tb2 : ∀ b : Fin 256, ((b : Nat) / 2 &&& 85) + ((b : Nat) &&& 85) = f1 1 b ∧ ((b : Nat) / 4 &&& 51) + ((b : Nat) &&& 51) = f2 1 b ∧ ((b : Nat) / 16 + b) &&& 15 = f3 1 b := by decide +kernel
theorem f1_succ {n y b : Nat} (hb : b < 256) : f1 (n + 1) (256 * y + b) = 256 * f1 n y + f1 1 b := by
  have e1 : (256 * y + b) / 2 = 256 * (y / 2) + (128 * (y % 2) + b / 2) := by omega
  unfold f1
  show (((256 * y + b) / 2) &&& (256 * mm 85 n + 85)) + ((256 * y + b) &&& (256 * mm 85 n + 85)) = _
  rw [e1, and256 (by omega) (by decide), and256 hb (by decide)]
  have h1 := t85 ⟨b, hb⟩ ⟨y % 2, by omega⟩
  have h2 := (tb2 ⟨b, hb⟩).1
  simp only at h1 h2
  unfold f1 at h2
  rw [h1, ← h2]
  omega
theorem f2_succ {n y b : Nat} (hb : b < 256) : f2 (n + 1) (256 * y + b) = 256 * f2 n y + f2 1 b := by
  have e1 : (256 * y + b) / 4 = 256 * (y / 4) + (64 * (y % 4) + b / 4) := by omega
  unfold f2
  show (((256 * y + b) / 4) &&& (256 * mm 51 n + 51)) + ((256 * y + b) &&& (256 * mm 51 n + 51)) = _
  rw [e1, and256 (by omega) (by decide), and256 hb (by decide)]
  have h1 := t51 ⟨b, hb⟩ ⟨y % 4, by omega⟩
  have h2 := (tb2 ⟨b, hb⟩).2.1
  simp only at h1 h2
  unfold f2 at h2
  rw [h1, ← h2]
  omega
theorem f3_succ {n y b : Nat} (hb : b < 69) (hy : y % 16 ≤ 4) : f3 (n + 1) (256 * y + b) = 256 * f3 n y + f3 1 b := by
  have e1 : (256 * y + b) / 16 + (256 * y + b) = 256 * (y / 16 + y) + (16 * (y % 16) + b / 16 + b) := by omega
  unfold f3
  show ((256 * y + b) / 16 + (256 * y + b)) &&& (256 * mm 15 n + 15) = _
  rw [e1, and256 (by omega) (by decide)]
  have h1 := t15 ⟨b, hb⟩ ⟨y % 16, by omega⟩
  have h2 := (tb2 ⟨b, by omega⟩).2.2
  simp only at h1 h2
  unfold f3 at h2
  rw [h1, ← h2]
theorem f_all : ∀ (n x : Nat), f1 n x < 256 ^ n ∧ f2 n (f1 n x) ≤ mm 68 n ∧ f2 n (f1 n x) % 16 ≤ 4 ∧ f3 n (f2 n (f1 n x)) = tn n x
  | 0, x => by simp [f1, f2, f3, mm, tn]
  | n + 1, x => by
    obtain ⟨h1, h2, h3, h4⟩ := f_all n (x / 256)
    have hx : x = 256 * (x / 256) + x % 256 := by omega
    have hb : x % 256 < 256 := by omega
    obtain ⟨b1, b2, b3, b4, _⟩ := tb ⟨x % 256, hb⟩
    simp only at b1 b2 b3 b4
    have e1 : f1 (n + 1) x = 256 * f1 n (x / 256) + f1 1 (x % 256) := by
      conv => lhs; rw [hx]
      exact f1_succ hb
    have e2 := f2_succ (n := n) (y := f1 n (x / 256)) b1
    have e3 := f3_succ (n := n) (y := f2 n (f1 n (x / 256))) b2 h3
    rw [e1, e2, e3, h4, b4]
    refine ⟨?_, ?_, by omega, rfl⟩
    · rw [Nat.pow_succ]
      omega
    · unfold mm
      omega
theorem tn8 (x : Nat) : ∃ s0 s1 s2 s3 s4 s5 s6 s7 : Nat, tn 8 x = s0 + 256 * s1 + 65536 * s2 + 16777216 * s3 + 4294967296 * s4 + 1099511627776 * s5 + 281474976710656 * s6 + 72057594037927936 * s7 ∧ (s0 ≤ 8 ∧ s1 ≤ 8 ∧ s2 ≤ 8 ∧ s3 ≤ 8 ∧ s4 ≤ 8 ∧ s5 ≤ 8 ∧ s6 ≤ 8 ∧ s7 ≤ 8) ∧ s0 = pc (x % 256) ∧ s1 = pc (x / 256 % 256) ∧ s2 = pc (x / 256 / 256 % 256) ∧ s3 = pc (x / 256 / 256 / 256 % 256) ∧ s4 = pc (x / 256 / 256 / 256 / 256 % 256) ∧ s5 = pc (x / 256 / 256 / 256 / 256 / 256 % 256) ∧ s6 = pc (x / 256 / 256 / 256 / 256 / 256 / 256 % 256) ∧ s7 = pc (x / 256 / 256 / 256 / 256 / 256 / 256 / 256 % 256) := by
  have hp : ∀ y, pc (y % 256) ≤ 8 := fun y => (tb ⟨y % 256, by omega⟩).2.2.2.2
  refine ⟨_, _, _, _, _, _, _, _, ?_, ⟨hp _, hp _, hp _, hp _, hp _, hp _, hp _, hp _⟩, rfl, rfl, rfl, rfl, rfl, rfl, rfl, rfl⟩
  simp only [tn]
  omega
def cnt (g : Nat → Bool) (n : Nat) : Nat := ((List.range n).filter g).length
theorem cnt_add (g : Nat → Bool) (m n : Nat) : cnt g (m + n) = cnt g m + cnt (fun k => g (m + k)) n := by
  unfold cnt
  rw [List.range_add, List.filter_append, List.length_append, List.filter_map, List.length_map]
  rfl
theorem cnt_congr {f g : Nat → Bool} {n : Nat} (h : ∀ k, k < n → f k = g k) : cnt f n = cnt g n := by
  unfold cnt
  rw [List.filter_congr fun k hk => h k (List.mem_range.1 hk)]
theorem div_bit (x k : Nat) : (x / 256).testBit k = x.testBit (k + 8) := by
  rw [show (256 : Nat) = 2 ^ 8 from by decide, Nat.testBit_div_two_pow]
theorem pc_low (x : Nat) : pc (x % 256) = cnt (fun k => x.testBit k) 8 := by
  refine cnt_congr fun k hk => ?_
  rw [show (256 : Nat) = 2 ^ 8 from by decide, Nat.testBit_mod_two_pow]
  simp [hk]
theorem cnt8 (x n : Nat) : cnt (fun k => x.testBit k) (8 + n) = pc (x % 256) + cnt (fun k => (x / 256).testBit k) n := by
  rw [cnt_add, pc_low]
  congr 1
  refine cnt_congr fun k _ => ?_
  rw [div_bit, Nat.add_comm]
theorem and127 {x : Nat} (h : x < 9223372036854775808) : bAnd .i64 (IntKind.i64.wrap (x : Int)) 127 = ((x % 128 : Nat) : Int) := by
  rw [w64 (by omega) (by omega)]
  unfold bAnd
  show IntKind.i64.wrap (((BitVec.ofInt 64 (x : Int) &&& BitVec.ofInt 64 127).toNat : Nat) : Int) = _
  rw [show (127 : Int) = ((127 : Nat) : Int) from rfl, ofInt_nat, ofInt_nat, BitVec.toNat_and, BitVec.toNat_ofNat, BitVec.toNat_ofNat, Nat.mod_eq_of_lt (by omega), Nat.mod_eq_of_lt (by decide), show (127 : Nat) = 2 ^ 7 - 1 from rfl, Nat.and_two_pow_sub_one_eq_mod]
  rw [w64 (by omega) (by omega)]
theorem shr_of {x : Nat} {k : Int} {m : Nat} (hk : k = (m : Int)) (hm : m ≤ 64) : shR .u64 (x : Int) k = ((x / 2 ^ m : Nat) : Int) := by rw [hk]; exact shr64n hm
theorem dv {X A r m : Nat} (h : X = m * A + r) (hr : r < m) : X / m = A := by
  rw [h, Nat.mul_add_div (by omega), Nat.div_eq_of_lt hr, Nat.add_zero]
def fd (x : Nat) : Nat := x + x / 256
def fe (x : Nat) : Nat := x + x / 65536
def fg (x : Nat) : Nat := (x + x / 4294967296) % 128
theorem fold8 {s0 s1 s2 s3 s4 s5 s6 s7 : Nat} (hs : s0 ≤ 8 ∧ s1 ≤ 8 ∧ s2 ≤ 8 ∧ s3 ≤ 8 ∧ s4 ≤ 8 ∧ s5 ≤ 8 ∧ s6 ≤ 8 ∧ s7 ≤ 8) : fg (fe (fd (s0 + 256 * s1 + 65536 * s2 + 16777216 * s3 + 4294967296 * s4 + 1099511627776 * s5 + 281474976710656 * s6 + 72057594037927936 * s7))) = s0 + (s1 + (s2 + (s3 + (s4 + (s5 + (s6 + s7)))))) := by
  have d1 : fd (s0 + 256 * s1 + 65536 * s2 + 16777216 * s3 + 4294967296 * s4 + 1099511627776 * s5 + 281474976710656 * s6 + 72057594037927936 * s7) = (s0 + s1) + 256 * (s1 + s2) + 65536 * (s2 + s3) + 16777216 * (s3 + s4) + 4294967296 * (s4 + s5) + 1099511627776 * (s5 + s6) + 281474976710656 * (s6 + s7) + 72057594037927936 * s7 := by
    unfold fd
    rw [dv (X := (s0 + 256 * s1 + 65536 * s2 + 16777216 * s3 + 4294967296 * s4 + 1099511627776 * s5 + 281474976710656 * s6 + 72057594037927936 * s7)) (A := s1 + 256 * s2 + 65536 * s3 + 16777216 * s4 + 4294967296 * s5 + 1099511627776 * s6 + 281474976710656 * s7) (r := s0) (m := 256) (by omega) (by omega)]
    omega
  rw [d1]
  have d2 : fe ((s0 + s1) + 256 * (s1 + s2) + 65536 * (s2 + s3) + 16777216 * (s3 + s4) + 4294967296 * (s4 + s5) + 1099511627776 * (s5 + s6) + 281474976710656 * (s6 + s7) + 72057594037927936 * s7) = (s0 + s1 + s2 + s3) + 256 * (s1 + s2 + s3 + s4) + 65536 * (s2 + s3 + s4 + s5) + 16777216 * (s3 + s4 + s5 + s6) + 4294967296 * (s4 + s5 + s6 + s7) + 1099511627776 * (s5 + s6 + s7) + 281474976710656 * (s6 + s7) + 72057594037927936 * s7 := by
    unfold fe
    rw [dv (A := (s2 + s3) + 256 * (s3 + s4) + 65536 * (s4 + s5) + 16777216 * (s5 + s6) + 4294967296 * (s6 + s7) + 1099511627776 * s7) (r := (s0 + s1) + 256 * (s1 + s2)) (m := 65536) (by omega) (by omega)]
    omega
  rw [d2]
  unfold fg
  rw [dv (A := (s4 + s5 + s6 + s7) + 256 * (s5 + s6 + s7) + 65536 * (s6 + s7) + 16777216 * s7) (r := (s0 + s1 + s2 + s3) + 256 * (s1 + s2 + s3 + s4) + 65536 * (s2 + s3 + s4 + s5) + 16777216 * (s3 + s4 + s5 + s6)) (m := 4294967296) (by omega) (by omega)]
  omega
theorem ones_eq {fu x : Nat} (h : x < 2 ^ 64) : bits_OnesCount64.f fu (x : Int) = some ((cnt (fun k => x.testBit k) 64 : Nat) : Int) := by
  obtain ⟨h1, h2, _, h3⟩ := f_all 8 x
  obtain ⟨s0, s1, s2, s3, s4, s5, s6, s7, ht, hs, q0, q1, q2, q3, q4, q5, q6, q7⟩ := tn8 x
  have hm : mm 85 8 = 6148914691236517205 ∧ mm 51 8 = 3689348814741910323 ∧ mm 15 8 = 1085102592571150095 ∧ mm 68 8 = 4919131752989213764 := by decide
  have hc : cnt (fun k => x.testBit k) 64 = s0 + (s1 + (s2 + (s3 + (s4 + (s5 + (s6 + s7)))))) := by
    rw [show 64 = 8 + 56 from rfl, cnt8, show 56 = 8 + 48 from rfl, cnt8, show 48 = 8 + 40 from rfl, cnt8, show 40 = 8 + 32 from rfl, cnt8, show 32 = 8 + 24 from rfl, cnt8, show 24 = 8 + 16 from rfl, cnt8, show 16 = 8 + 8 from rfl, cnt8, ← pc_low, q0, q1, q2, q3, q4, q5, q6, q7]
  have a1 : IntKind.u64.wrap (bAnd .u64 (shR .u64 (x : Int) 1) 6148914691236517205 + bAnd .u64 (x : Int) 6148914691236517205) = ((f1 8 x : Nat) : Int) := by
    rw [shr_of (k := 1) (m := 1) rfl (by decide), show (6148914691236517205 : Int) = ((6148914691236517205 : Nat) : Int) from rfl, and64 (by omega) (by decide), and64 h (by decide), ← Int.natCast_add, wrap_nat]
    · unfold f1
      rw [hm.1]
    · have := h1
      unfold f1 at this
      rw [hm.1] at this
      exact Nat.lt_of_lt_of_le this (by decide)
  unfold bits_OnesCount64.f
  rw [a1]
  generalize f1 8 x = y1 at *
  have hy1 : y1 < 2 ^ 64 := Nat.lt_of_lt_of_le h1 (by decide)
  have a2 : IntKind.u64.wrap (bAnd .u64 (shR .u64 (y1 : Int) 2) 3689348814741910323 + bAnd .u64 (y1 : Int) 3689348814741910323) = ((f2 8 y1 : Nat) : Int) := by
    rw [shr_of (k := 2) (m := 2) rfl (by decide), show (3689348814741910323 : Int) = ((3689348814741910323 : Nat) : Int) from rfl, and64 (by omega) (by decide), and64 hy1 (by decide), ← Int.natCast_add, wrap_nat]
    · unfold f2
      rw [hm.2.1]
    · have := h2
      unfold f2 at this
      rw [hm.2.1, hm.2.2.2] at this
      exact Nat.lt_of_le_of_lt this (by decide)
  rw [a2]
  rw [hm.2.2.2] at h2
  generalize f2 8 y1 = y2 at *
  have a3 : bAnd .u64 (IntKind.u64.wrap (shR .u64 (y2 : Int) 4 + (y2 : Int))) 1085102592571150095 = ((tn 8 x : Nat) : Int) := by
    rw [shr_of (k := 4) (m := 4) rfl (by decide), ← Int.natCast_add, wrap_nat (by rw [p64]; omega), show (1085102592571150095 : Int) = ((1085102592571150095 : Nat) : Int) from rfl, and64 (by rw [p64]; omega) (by decide), ← h3]
    unfold f3
    rw [hm.2.2.1]
  rw [a3, ht]
  have sh : ∀ (y m : Nat) (k : Int), k = (m : Int) → m ≤ 64 → y + y / 2 ^ m < 2 ^ 64 → IntKind.u64.wrap ((y : Int) + shR .u64 (y : Int) k) = ((y + y / 2 ^ m : Nat) : Int) := by
    intro y m k hk hm hy
    rw [shr_of hk hm, ← Int.natCast_add, wrap_nat hy]
  rw [sh _ 8 8 rfl (by decide) (by rw [p64]; omega), sh _ 16 16 rfl (by decide) (by rw [p64]; omega), sh _ 32 32 rfl (by decide) (by rw [p64]; omega), and127 (by omega), hc]
  clear a3 a2 a1 hc q0 q1 q2 q3 q4 q5 q6 q7 sh h3 ht hy1 h1 h2 hm h
  refine congrArg (fun n : Nat => some ((n : Nat) : Int)) ?_
  rw [show (2 : Nat) ^ 8 = 256 from by decide, show (2 : Nat) ^ 16 = 65536 from by decide, show (2 : Nat) ^ 32 = 4294967296 from by decide]
  exact fold8 hs
noncomputable def wordAt (f : Nat → Bool) (j : Nat) : Nat := wdN (fun k => f (64 * j + k)) 64
noncomputable def wordsOf (f : Nat → Bool) (m : Nat) : List Int := (List.range m).map fun j => ((wordAt f j : Nat) : Int)
noncomputable def setOf (n : Nat) (f : Nat → Bool) : S_bits_Set := ⟨(n : Int), wordsOf f ((n + 63) / 64)⟩
def els (n : Nat) (f : Nat → Bool) : List Int := ((List.range n).filter f).map fun (k : Nat) => (k : Int)
def Low (n : Nat) (f : Nat → Bool) : Prop := ∀ k, f k = true → k < n
def addF (n : Nat) (f : Nat → Bool) (l : List Int) : Nat → Bool := fun k => f k || (decide (k < n) && decide ((k : Int) ∈ l))
def dropF (f : Nat → Bool) (l : List Int) : Nat → Bool := fun k => f k && !decide ((k : Int) ∈ l)
def hasI (n : Nat) (f : Nat → Bool) (k : Int) : Bool := decide (0 ≤ k) && (decide (k < (n : Int)) && f k.toNat)
theorem words_len (f : Nat → Bool) (m : Nat) : (wordsOf f m).length = m := by simp [wordsOf]
theorem words_ix {f : Nat → Bool} {m j : Nat} (h : j < m) : ix (wordsOf f m) (j : Int) = ((wordAt f j : Nat) : Int) := by
  rw [ix_nat (by rw [words_len]; exact h)]
  simp [wordsOf]
theorem word_congr {f g : Nat → Bool} {j : Nat} (h : ∀ k, k < 64 → f (64 * j + k) = g (64 * j + k)) : wordAt f j = wordAt g j := wdN_congr h
theorem words_congr {f g : Nat → Bool} {m : Nat} (h : ∀ k, k < 64 * m → f k = g k) : wordsOf f m = wordsOf g m := by
  unfold wordsOf
  apply List.map_congr_left
  intro j hj
  have := List.mem_range.1 hj
  rw [word_congr fun k hk => h _ (by omega)]
theorem set_congr {f g : Nat → Bool} {n : Nat} (h : ∀ k, f k = g k) : setOf n f = setOf n g := by
  rw [show f = g from funext h]
theorem words_set {f : Nat → Bool} {m k : Nat} {v : Nat} (hk : k / 64 < m) (g : Nat → Bool) (hv : v = wordAt g (k / 64)) (hg : ∀ i, i / 64 ≠ k / 64 → g i = f i) : (wordsOf f m).set (k / 64) ((v : Nat) : Int) = wordsOf g m := by
  apply List.ext_getElem (by simp [wordsOf])
  intro j h1 h2
  rw [List.getElem_set]
  simp only [wordsOf, List.getElem_map, List.getElem_range]
  by_cases e : k / 64 = j
  · rw [if_pos e, hv, e]
  · rw [if_neg e, word_congr fun i hi => (hg (64 * j + i) (by omega)).symm]
theorem tdiv64 (k : Nat) : Int.tdiv (k : Int) 64 = ((k / 64 : Nat) : Int) := by
  rw [Int.tdiv_eq_ediv_of_nonneg (by omega)]
  omega
theorem tmod64 (k : Nat) : Int.tmod (k : Int) 64 = ((k % 64 : Nat) : Int) := by
  rw [Int.tmod_eq_emod_of_nonneg (by omega)]
  omega
theorem may_b {fu : Nat} {s : S_bits_Set} {k : Int} : bits_Set_may.f fu s k = some (decide (0 ≤ k) && decide (k < s.size)) := by
  unfold bits_Set_may.f
  by_cases h : k ≥ 0
  · have h' : 0 ≤ k := h
    simp [h']
  · have h' : ¬ 0 ≤ k := h
    simp [h']
theorem has_eq {fu n : Nat} {f : Nat → Bool} {k : Int} (hn : n ≤ 100000) : bits_Set_Has.f fu (setOf n f) k = some (hasI n f k) := by
  unfold bits_Set_Has.f hasI
  rw [may_b]
  simp only [Option.bind_some]
  by_cases h : 0 ≤ k ∧ k < (n : Int)
  · obtain ⟨j, rfl⟩ : ∃ j : Nat, k = (j : Int) := ⟨k.toNat, by omega⟩
    have hj : j / 64 < (n + 63) / 64 := by omega
    rw [show (setOf n f).size = (n : Int) from rfl, decide_eq_true h.1, decide_eq_true h.2, Bool.true_and, if_pos rfl, tdiv64, tmod64, w64 (by omega) (by omega), show (setOf n f).words = wordsOf f ((n + 63) / 64) from rfl, words_ix hj, if_pos ⟨by omega, by rw [words_len]; omega⟩, if_pos (by omega)]
    have := has_wd (g := fun r => f (64 * (j / 64) + r)) (r := j % 64) (by omega)
    unfold wordAt
    rw [this]
    simp only [Bool.true_and, Int.toNat_natCast]
    rw [show 64 * (j / 64) + j % 64 = j by omega]
  · rw [show (setOf n f).size = (n : Int) from rfl]
    by_cases h0 : 0 ≤ k
    · rw [decide_eq_true h0, decide_eq_false (fun q => h ⟨h0, q⟩)]
      rfl
    · rw [decide_eq_false h0]
      rfl
theorem one_eq {n : Nat} {f : Nat → Bool} {x : Int} {fu : Nat} (hn : n ≤ 100000) (op : Int → Int → Int) (g : Bool → Bool → Bool) (hop : ∀ (g' : Nat → Bool) (r : Nat), r < 64 → op ((wdN g' 64 : Nat) : Int) (shL .u64 1 (r : Int)) = ((wdN (fun k => g (g' k) (decide (k = r))) 64 : Nat) : Int)) (hg : ∀ b, g b false = b) :
    ((if (decide (0 ≤ x) && decide (x < (n : Int))) = true then if 0 ≤ (IntKind.i64.wrap (Int.tdiv x 64)) ∧ (IntKind.i64.wrap (Int.tdiv x 64)) < (List.length (wordsOf f ((n + 63) / 64)) : Int) then if 0 ≤ (Int.tmod x 64) then if 0 ≤ (IntKind.i64.wrap (Int.tdiv x 64)) ∧ (IntKind.i64.wrap (Int.tdiv x 64)) < (List.length (wordsOf f ((n + 63) / 64)) : Int) then some ((List.set (wordsOf f ((n + 63) / 64)) (Int.toNat (IntKind.i64.wrap (Int.tdiv x 64))) (op (ix (wordsOf f ((n + 63) / 64)) (IntKind.i64.wrap (Int.tdiv x 64))) (shL .u64 1 (Int.tmod x 64))))) else none else none else none else some (wordsOf f ((n + 63) / 64))) : Option (List Int)) =
      some (wordsOf (fun k => g (f k) (decide (k < n) && decide ((k : Int) = x))) ((n + 63) / 64)) := by
  by_cases h : 0 ≤ x ∧ x < (n : Int)
  · obtain ⟨j, rfl⟩ : ∃ j : Nat, x = (j : Int) := ⟨x.toNat, by omega⟩
    have hj : j / 64 < (n + 63) / 64 := by omega
    rw [decide_eq_true h.1, decide_eq_true h.2, Bool.true_and, if_pos rfl, tdiv64, tmod64, w64 (by omega) (by omega), if_pos ⟨by omega, by rw [words_len]; omega⟩, if_pos (by omega), if_pos ⟨by omega, by rw [words_len]; omega⟩, words_ix hj, Int.toNat_natCast]
    unfold wordAt
    rw [hop _ _ (by omega)]
    refine congrArg some (words_set hj _ ?_ ?_)
    rotate_left
    · intro i hi
      have : ¬ ((i : Int) = (j : Int)) := by omega
      simp [this, hg]
    · unfold wordAt
      refine wdN_congr fun k hk => ?_
      congr 1
      by_cases e : k = j % 64
      · have e1 : 64 * (j / 64) + k = j := by omega
        have e2 : j < n := by omega
        rw [e1, decide_eq_true e2, decide_eq_true e, decide_eq_true (rfl : (j : Int) = (j : Int))]
        rfl
      · have e1 : ¬ ((64 * (j / 64) + k : Nat) : Int) = (j : Int) := by omega
        simp only [e, e1, decide_false, Bool.and_false]
  · have hb : (decide (0 ≤ x) && decide (x < (n : Int))) = false := by
      by_cases h0 : 0 ≤ x
      · rw [decide_eq_false (fun q => h ⟨h0, q⟩), Bool.and_false]
      · rw [decide_eq_false h0, Bool.false_and]
    rw [hb, if_neg (by decide)]
    refine congrArg some (words_congr fun k _ => ?_)
    have : (decide (k < n) && decide ((k : Int) = x)) = false := by
      by_cases e : (k : Int) = x
      · have : ¬ k < n := by omega
        simp [this]
      · simp [e]
    rw [this, hg]
theorem add_eq {fu n : Nat} {f : Nat → Bool} {l : List Int} (hn : n ≤ 100000) (hl : l.length ≤ 100000) (hf : l.length < fu) : bits_Set_Add.f fu (setOf n f) l = some (setOf n (addF n f l)) := by
  unfold bits_Set_Add.f
  have : loopM (bits_Set_Add.s0 fu (setOf n f) l) fu (0, (setOf n f).words) = some (wordsOf (addF n f l) ((n + 63) / 64)) := by
    refine loopM_run (S := fun j => ((j : Int), wordsOf (addF n f (l.take j)) ((n + 63) / 64))) l.length ?_ ?_ ?_ hf
    · simp only [show wordsOf (addF n f (l.take 0)) ((n + 63) / 64) = wordsOf f ((n + 63) / 64) from words_congr fun k _ => by simp [addF]]
      rfl
    · intro j hj
      unfold bits_Set_Add.s0
      have c1 : 0 ≤ (j : Int) ∧ (j : Int) < (l.length : Int) := by omega
      simp only
      rw [decide_eq_true c1.2, if_pos rfl, if_pos c1, ix_nat hj, may_b, next64 hj (by omega)]
      simp only [Option.bind_some]
      rw [show (setOf n f).size = (n : Int) from rfl, one_eq (fu := fu) hn (bOr .u64) (fun a b => a || b) (fun g r hr => or_wd hr) (by simp)]
      simp only [Option.bind_some]
      rw [words_congr fun k _ => show _ = addF n f (l.take (j + 1)) k from ?_]
      simp only [addF, take_next hj, List.mem_append, List.mem_singleton]
      cases f k <;> cases decide (k < n) <;> simp
    · unfold bits_Set_Add.s0
      rw [decide_eq_false (show ¬ ((l.length : Int) < (l.length : Int)) by omega), if_neg (by decide), List.take_length]
  rw [this]
  rfl
theorem dropp_eq {fu n : Nat} {f : Nat → Bool} {l : List Int} (hn : n ≤ 100000) (hl : l.length ≤ 100000) (hf : l.length < fu) (hlow : Low n f) : bits_Set_Drop.f fu (setOf n f) l = some (setOf n (dropF f l)) := by
  unfold bits_Set_Drop.f
  have : loopM (bits_Set_Drop.s0 fu (setOf n f) l) fu (0, (setOf n f).words) = some (wordsOf (dropF f l) ((n + 63) / 64)) := by
    refine loopM_run (S := fun j => ((j : Int), wordsOf (dropF f (l.take j)) ((n + 63) / 64))) l.length ?_ ?_ ?_ hf
    · simp only [show wordsOf (dropF f (l.take 0)) ((n + 63) / 64) = wordsOf f ((n + 63) / 64) from words_congr fun k _ => by simp [dropF]]
      rfl
    · intro j hj
      unfold bits_Set_Drop.s0
      have c1 : 0 ≤ (j : Int) ∧ (j : Int) < (l.length : Int) := by omega
      simp only
      rw [decide_eq_true c1.2, if_pos rfl, if_pos c1, ix_nat hj, may_b, next64 hj (by omega)]
      simp only [Option.bind_some]
      rw [show (setOf n f).size = (n : Int) from rfl, one_eq (fu := fu) hn (bNot .u64) (fun a b => a && !b) (fun g r hr => not_wd hr) (by simp)]
      simp only [Option.bind_some]
      rw [words_congr fun k _ => show _ = dropF f (l.take (j + 1)) k from ?_]
      simp only [dropF, take_next hj, List.mem_append, List.mem_singleton]
      by_cases hk : k < n
      · cases f k <;> simp [hk]
      · have : f k = false := by
          cases e : f k
          · rfl
          · exact absurd (hlow k e) hk
        simp [this]
    · unfold bits_Set_Drop.s0
      rw [decide_eq_false (show ¬ ((l.length : Int) < (l.length : Int)) by omega), if_neg (by decide), List.take_length]
  rw [this]
  rfl
theorem cnt_low {f : Nat → Bool} {n m : Nat} (h : Low n f) (hm : n ≤ m) : cnt f m = cnt f n := by
  obtain ⟨k, rfl⟩ : ∃ k, m = n + k := ⟨m - n, by omega⟩
  rw [cnt_add]
  have : cnt (fun k => f (n + k)) k = 0 := by
    unfold cnt
    rw [List.length_eq_zero_iff, List.filter_eq_nil_iff]
    intro i _ hi
    have := h _ hi
    omega
  omega
theorem count_eq {fu n : Nat} {f : Nat → Bool} (hn : n ≤ 100000) (hf : n < fu) (hlow : Low n f) : bits_Set_Count.f fu (setOf n f) = some ((cnt f n : Nat) : Int) := by
  unfold bits_Set_Count.f
  have hle : ∀ j, cnt f (64 * j) ≤ 64 * j := fun j => by
    unfold cnt
    exact Nat.le_trans (List.length_filter_le _ _) (by simp)
  have : loopM (bits_Set_Count.s0 fu (setOf n f)) fu (0, 0) = some ((cnt f (64 * ((n + 63) / 64)) : Nat) : Int) := by
    refine loopM_run (S := fun j => (((cnt f (64 * j) : Nat) : Int), (j : Int))) ((n + 63) / 64) (by simp [cnt]) ?_ ?_ (by omega)
    · intro j hj
      unfold bits_Set_Count.s0
      have hw : (setOf n f).words = wordsOf f ((n + 63) / 64) := rfl
      have c1 : 0 ≤ (j : Int) ∧ (j : Int) < ((wordsOf f ((n + 63) / 64)).length : Int) := by rw [words_len]; omega
      simp only [hw]
      rw [decide_eq_true c1.2, if_pos rfl, if_pos c1, words_ix hj, show bits_OnesCount64.f fu ((wordAt f j : Nat) : Int) = _ from ones_eq (wdN_lt _ 64), next64 hj (by omega)]
      simp only [Option.bind_some]
      have hc : cnt (fun k => (wordAt f j).testBit k) 64 = cnt (fun k => f (64 * j + k)) 64 := by
        refine cnt_congr fun k hk => ?_
        unfold wordAt
        rw [wdN_bit]
        simp [hk]
      have h1 := hle j
      have h2 := hle (j + 1)
      rw [hc, ← Int.natCast_add, ← cnt_add, show 64 * j + 64 = 64 * (j + 1) by omega, w64 (by omega) (by omega)]
    · unfold bits_Set_Count.s0
      have hw : (setOf n f).words = wordsOf f ((n + 63) / 64) := rfl
      simp only [hw]
      rw [words_len, decide_eq_false (by omega), if_neg (by decide)]
  rw [this, cnt_low hlow (by omega)]
  rfl
theorem filter_first {p q : Nat → Bool} {k n : Nat} (hk : k < n) (h1 : ∀ j, j < k → p j = false) (h2 : p k = true) (h3 : ∀ j, k < j → p j = q j) (h4 : ∀ j, j ≤ k → q j = false) : (List.range n).filter p = k :: (List.range n).filter q := by
  obtain ⟨m, rfl⟩ : ∃ m, n = k + 1 + m := ⟨n - (k + 1), by omega⟩
  have e1 : (List.range k).filter p = [] := by
    rw [List.filter_eq_nil_iff]
    intro j hj
    rw [h1 j (List.mem_range.1 hj)]
    decide
  have e2 : (List.range (k + 1)).filter q = [] := by
    rw [List.filter_eq_nil_iff]
    intro j hj
    rw [h4 j (by have := List.mem_range.1 hj; omega)]
    decide
  rw [List.range_add, List.filter_append, List.filter_append, e2, List.range_succ, List.filter_append, e1]
  simp only [List.filter_cons, h2, if_true, List.filter_nil, List.nil_append, List.cons_append, List.cons.injEq, true_and]
  apply List.filter_congr
  intro j hj
  obtain ⟨i, _, rfl⟩ := List.mem_map.1 hj
  exact h3 _ (by omega)
theorem low_bits {k q : Nat} (h : 2 ^ k * (2 * q + 1) < 2 ^ 64) : (List.range 64).filter (fun r => (2 ^ k * (2 * q + 1)).testBit r) = k :: (List.range 64).filter (fun r => (2 ^ k * (2 * q)).testBit r) := by
  refine filter_first (low_neg h).1 (fun j hj => ?_) ?_ (fun j hj => ?_) (fun j hj => ?_)
  · rw [tb0, if_pos hj]
  · rw [tb0, if_neg (by omega), Nat.sub_self, Nat.testBit_zero]
    simp
  · rw [tb0, tb0, if_neg (by omega), if_neg (by omega)]
    obtain ⟨m, hm⟩ : ∃ m, j - k = m + 1 := ⟨j - k - 1, by omega⟩
    rw [hm, Nat.testBit_succ, Nat.testBit_succ, show (2 * q + 1) / 2 = q by omega, show 2 * q / 2 = q by omega]
  · rw [tb0]
    split
    · rfl
    · rw [show j - k = 0 by omega, Nat.testBit_zero]
      simp
theorem list_in {fu i : Nat} {s : List Int × Int} (hs : s.2 = (i : Int)) (hi : i ≤ 100000) : ∀ (c x k : Nat) (acc : List Int), x < 2 ^ 64 → ((List.range 64).filter fun r => x.testBit r).length = c → c < k → acc.length + c ≤ 1000000 →
    loopM (bits_Set_List.s1 fu s) k (acc, (x : Int)) = some (acc ++ ((List.range 64).filter fun r => x.testBit r).map fun r => ((64 * i + r : Nat) : Int))
  | c, x, 0, acc, hx, hc, hk, ha => by omega
  | c, x, k + 1, acc, hx, hc, hk, ha => by
    unfold loopM
    by_cases e : x = 0
    · subst e
      have : bits_Set_List.s1 fu s (acc, ((0 : Nat) : Int)) = some (.inl acc) := by
        unfold bits_Set_List.s1
        rfl
      rw [this]
      simp
    · obtain ⟨t, q, hx'⟩ := low_split e
      rw [hx'] at hx hc ⊢
      have hl := low_bits hx
      have ht := (low_neg hx).1
      have h0 : ¬ ((2 ^ t * (2 * q + 1) : Nat) : Int) = 0 := by
        intro z
        rw [← hx'] at z
        omega
      have hpos : 0 < 2 ^ t * (2 * q + 1) := by omega
      have hlt : 2 ^ t * (2 * q) < 2 ^ 64 := Nat.lt_of_le_of_lt (Nat.mul_le_mul_left _ (by omega)) hx
      have hw : IntKind.u64.wrap (((2 ^ t * (2 * q + 1) : Nat) : Int) - 1) = ((2 ^ t * (2 * q + 1) - 1 : Nat) : Int) := by
        have : ((2 ^ t * (2 * q + 1) : Nat) : Int) - 1 = ((2 ^ t * (2 * q + 1) - 1 : Nat) : Int) := by omega
        rw [this]
        exact wrap_nat (by omega)
      have hst : bits_Set_List.s1 fu s (acc, ((2 ^ t * (2 * q + 1) : Nat) : Int)) = some (.inr (acc ++ [((64 * i + t : Nat) : Int)], ((2 ^ t * (2 * q) : Nat) : Int))) := by
        unfold bits_Set_List.s1
        simp only
        rw [decide_eq_false h0, Bool.not_false, if_pos rfl, tz_eq hx]
        simp only [Option.bind_some]
        rw [hs, w64 (n := (i : Int) * 64) (by omega) (by omega), w64 (by omega) (by omega), hw, and64 hx (by omega), low_and, show (i : Int) * 64 + (t : Int) = ((64 * i + t : Nat) : Int) by omega]
        rw [if_pos (Nat.le_trans (by simp only [List.length_cons, List.length_nil]; omega : _ ≤ 1000001) (by decide))]
      rw [hst, hl]
      rw [hl, List.length_cons] at hc
      have ih := list_in (fu := fu) hs hi (c - 1) (2 ^ t * (2 * q)) k (acc ++ [((64 * i + t : Nat) : Int)]) hlt (by omega) (by omega) (by simp only [List.length_append, List.length_cons, List.length_nil]; omega)
      simp only
      rw [ih]
      simp
theorem els_add (f : Nat → Bool) (m n : Nat) : els (m + n) f = els m f ++ ((List.range n).filter fun k => f (m + k)).map fun k => ((m + k : Nat) : Int) := by
  unfold els
  rw [List.range_add, List.filter_append, List.map_append, List.filter_map, List.map_map]
  rfl
theorem els_len (n : Nat) (f : Nat → Bool) : (els n f).length = cnt f n := by simp [els, cnt]
theorem els_low {f : Nat → Bool} {n m : Nat} (h : Low n f) (hm : n ≤ m) : els m f = els n f := by
  obtain ⟨k, rfl⟩ : ∃ k, m = n + k := ⟨m - n, by omega⟩
  rw [els_add]
  have : (List.range k).filter (fun k => f (n + k)) = [] := by
    rw [List.filter_eq_nil_iff]
    intro i _ hi
    have := h _ hi
    omega
  rw [this]
  simp
theorem cnt_le (f : Nat → Bool) (n : Nat) : cnt f n ≤ n := by
  unfold cnt
  exact Nat.le_trans (List.length_filter_le _ _) (by simp)
theorem list_eq {fu n : Nat} {f : Nat → Bool} (hn : n ≤ 100000) (hf : n + 64 < fu) (hlow : Low n f) : bits_Set_List.f fu (setOf n f) = some (els n f) := by
  unfold bits_Set_List.f
  have : loopM (bits_Set_List.s0 fu (setOf n f)) fu ([], 0) = some (els (64 * ((n + 63) / 64)) f) := by
    refine loopM_run (S := fun j => (els (64 * j) f, (j : Int))) ((n + 63) / 64) (by simp [els]) ?_ ?_ (by omega)
    · intro j hj
      unfold bits_Set_List.s0
      have hw : (setOf n f).words = wordsOf f ((n + 63) / 64) := rfl
      have c1 : 0 ≤ (j : Int) ∧ (j : Int) < ((wordsOf f ((n + 63) / 64)).length : Int) := by rw [words_len]; omega
      simp only [hw]
      have hb : ((List.range 64).filter fun r => (wordAt f j).testBit r) = (List.range 64).filter fun r => f (64 * j + r) := by
        apply List.filter_congr
        intro r hr
        unfold wordAt
        rw [wdN_bit]
        simp [List.mem_range.1 hr]
      have hle : ((List.range 64).filter fun r => (wordAt f j).testBit r).length ≤ 64 := Nat.le_trans (List.length_filter_le _ _) (by simp)
      have hel : (els (64 * j) f).length ≤ 64 * j := by rw [els_len]; exact cnt_le _ _
      rw [decide_eq_true c1.2, if_pos rfl, if_pos c1, words_ix hj, list_in (fu := fu) (i := j) (s := (els (64 * j) f, (j : Int))) rfl (by omega) _ (wordAt f j) fu (els (64 * j) f) (wdN_lt _ 64) rfl (by omega) (by omega), next64 hj (by omega)]
      simp only [Option.bind_some]
      rw [hb, ← els_add, show 64 * j + 64 = 64 * (j + 1) by omega]
    · unfold bits_Set_List.s0
      have hw : (setOf n f).words = wordsOf f ((n + 63) / 64) := rfl
      simp only [hw]
      rw [words_len, decide_eq_false (by omega), if_neg (by decide)]
  rw [this, els_low hlow (by omega)]
  rfl
theorem mem_els {n k : Nat} {f : Nat → Bool} : (k : Int) ∈ els n f ↔ k < n ∧ f k = true := by
  unfold els
  rw [List.mem_map]
  constructor
  · rintro ⟨i, hi, e⟩
    have : i = k := by omega
    subst this
    obtain ⟨h1, h2⟩ := List.mem_filter.1 hi
    exact ⟨List.mem_range.1 h1, h2⟩
  · rintro ⟨h1, h2⟩
    exact ⟨k, List.mem_filter.2 ⟨List.mem_range.2 h1, h2⟩, rfl⟩
theorem clone_eq {fu n : Nat} {f : Nat → Bool} (hn : n ≤ 100000) : bits_Set_clone.f fu (setOf n f) = some (setOf n f) := by
  unfold bits_Set_clone.f slices_Clone.f
  rw [show (setOf n f).words = wordsOf f ((n + 63) / 64) from rfl, words_len, if_pos (Nat.le_trans (by omega : _ ≤ 1000000) (by decide))]
  rfl
theorem with_eq {fu n : Nat} {f g : Nat → Bool} (hn : n ≤ 90000) (hf : n + 64 < fu) (hg : Low n g) : bits_Set_With.f fu (setOf n f) (setOf n g) = some (setOf n fun k => f k || g k) := by
  unfold bits_Set_With.f
  have hl := cnt_le g n
  rw [clone_eq (by omega), list_eq (by omega) hf hg]
  simp only [Option.bind_some]
  rw [add_eq (by omega) (by rw [els_len]; omega) (by rw [els_len]; omega)]
  refine congrArg some (set_congr fun k => ?_)
  unfold addF
  congr 1
  rw [Bool.eq_iff_iff]
  simp only [Bool.and_eq_true, decide_eq_true_eq, mem_els]
  exact ⟨fun h => h.2.2, fun h => ⟨hg k h, hg k h, h⟩⟩
theorem with1_eq {fu n : Nat} {f : Nat → Bool} (hn : n ≤ 90000) (hf : n + 64 < fu) (hg : Low n f) : bits_Set_With_a1.f fu (setOf n f) = some (setOf n f) := by
  have h := with_eq (fu := fu) (f := f) hn hf hg
  unfold bits_Set_With.f at h
  unfold bits_Set_With_a1.f
  rw [h]
  refine congrArg some (set_congr fun k => ?_)
  simp
theorem gap_eq {fu n k : Nat} {f : Nat → Bool} (hn : n ≤ 100000) (hf : n < fu) (hk : k < n) (h0 : f k = false) (h1 : ∀ i, i < k → f i = true) : bits_Set_Gap.f fu (setOf n f) 0 = some (k : Int) := by
  unfold bits_Set_Gap.f
  have : loopM (bits_Set_Gap.s0 fu (setOf n f)) fu (mxI 0 0) = some (.inl (k : Int)) := by
    refine loopM_run (S := fun j => ((j : Nat) : Int)) k (by rfl) ?_ ?_ (by omega)
    · intro j hj
      unfold bits_Set_Gap.s0
      rw [show (setOf n f).size = (n : Int) from rfl, decide_eq_true (by omega), if_pos rfl, has_eq hn, next64 (n := n) (by omega) hn]
      have : hasI n f (j : Int) = true := by
        unfold hasI
        rw [decide_eq_true (by omega), decide_eq_true (by omega), Int.toNat_natCast, h1 j hj]
        rfl
      simp [this]
    · unfold bits_Set_Gap.s0
      rw [show (setOf n f).size = (n : Int) from rfl, decide_eq_true (by omega), if_pos rfl, has_eq hn]
      have : hasI n f (k : Int) = false := by
        unfold hasI
        rw [Int.toNat_natCast, h0]
        simp
      simp [this]
  rw [this]
  rfl
theorem of_eq {fu n : Nat} {l : List Int} (hn : n ≤ 3072) (hl : l.length ≤ 100000) (hf : l.length < fu) : bits_Of.f fu (n : Int) l = some (setOf n (addF n (fun _ => false) l)) := by
  unfold bits_Of.f
  have e1 : mnI (mxI (n : Int) 0) 3072 = (n : Int) := by
    unfold mxI mnI
    rw [if_neg (by omega)]
    split <;> omega
  have e2 : IntKind.i64.wrap (Int.tdiv (IntKind.i64.wrap ((IntKind.i64.wrap ((n : Int) + 64)) - 1)) 64) = (((n + 63) / 64 : Nat) : Int) := by
    rw [w64 (n := (n : Int) + 64) (by omega) (by omega), w64 (n := (n : Int) + 64 - 1) (by omega) (by omega), show (n : Int) + 64 - 1 = ((n + 63 : Nat) : Int) by omega, tdiv64, w64 (by omega) (by omega)]
  rw [e1, e2, if_pos ⟨by omega, Nat.le_trans (by omega : _ ≤ 100000) (by decide)⟩, Int.toNat_natCast]
  have e3 : (⟨(n : Int), List.replicate ((n + 63) / 64) (0 : Int)⟩ : S_bits_Set) = setOf n fun _ => false := by
    unfold setOf
    congr 1
    apply List.ext_getElem (by simp [wordsOf])
    intro i h1 h2
    have : wordAt (fun _ => false) i = 0 := by
      apply Nat.eq_of_testBit_eq
      intro k
      unfold wordAt
      rw [wdN_bit]
      simp
    simp [wordsOf, this]
  rw [e3, add_eq (by omega) hl hf]
  rfl
end Go.Proofs.YtdifnahlheogdaaDoor.Pure
namespace Go.Proofs.YtdifnahlheogdaaDoor
open Go Go.Xw Go.Yw
end Go.Proofs.YtdifnahlheogdaaDoor
namespace Go.Proofs.YtdifnahlheogdaaDoor.Pure
open Go Go.Xw Go.Yw
structure AA where
  r : Int
  c : Nat → Bool
  e : Nat → Bool
  m : Nat → Bool
  w : Nat → Bool
noncomputable def AA.of (n : Nat) (a : AA) : S_alloc_Alloc := ⟨a.r, (setOf n a.c, setOf n a.e, setOf n a.m, setOf n a.w)⟩
structure AOk (n : Nat) (a : AA) : Prop where
  c : Low n a.c
  e : Low n a.e
  m : Low n a.m
  w : Low n a.w
  r : 0 ≤ a.r ∧ a.r ≤ 1000
def AA.held (a : AA) : Nat → Bool := fun k => ((a.w k || a.c k) || a.e k) || a.m k
def AA.free (n : Nat) (a : AA) : List Nat := (List.range n).filter fun k => !a.held k
def AA.least (n : Nat) (a : AA) : Nat := (a.free n).headD 0
def AA.setW (a : AA) (w : Nat → Bool) : AA := ⟨a.r, a.c, a.e, a.m, w⟩
def AA.put (n : Nat) (a : AA) (k : Nat) : AA := a.setW (addF n a.w [(k : Int)])
def AA.cut (a : AA) (k : Int) : AA := a.setW (dropF a.w [k])
def AA.mark (a : AA) : AA := ⟨a.r, a.c, a.e, a.w, a.w⟩
def AA.back (a : AA) : AA := ⟨a.r, a.c, a.e, a.m, a.m⟩
def AA.abort (a : AA) : AA := ⟨a.r, a.c, a.e, a.c, a.c⟩
def AA.give (n : Nat) (a : AA) (k : Int) : Int × AA := if hasI n a.w k = true then (0, a.cut k) else (2, a)
def AA.own (n : Nat) (a : AA) (k : Int) : Bool := hasI n a.w k && !hasI n a.m k
def AA.take (n : Nat) (a : AA) : Int × Int × AA := if ((a.free n).length : Int) ≤ a.r then (0, 10, a) else ((a.least n : Int), 0, a.put n (a.least n))
theorem copied_eq {fu n : Nat} {f : Nat → Bool} (hn : n ≤ 90000) (hf : n + 64 < fu) (h : Low n f) : alloc_copied.f fu (setOf n f) = some (setOf n f) := by
  unfold alloc_copied.f
  rw [with1_eq hn hf h]
  rfl
theorem Low.or {n : Nat} {f g : Nat → Bool} (hf : Low n f) (hg : Low n g) : Low n (fun k => f k || g k) := by
  intro k h
  rcases Bool.or_eq_true_iff.1 h with h | h
  · exact hf k h
  · exact hg k h
theorem addF_low {n : Nat} {f : Nat → Bool} {l : List Int} (h : Low n f) : Low n (addF n f l) := by
  intro k hk
  unfold addF at hk
  rcases Bool.or_eq_true_iff.1 hk with h' | h'
  · exact h k h'
  · exact of_decide_eq_true (Bool.and_eq_true_iff.1 h').1
theorem dropF_low {n : Nat} {f : Nat → Bool} {l : List Int} (h : Low n f) : Low n (dropF f l) := fun k hk => h k (Bool.and_eq_true_iff.1 hk).1
theorem held_low {n : Nat} {a : AA} (h : AOk n a) : Low n a.held := ((h.w.or h.c).or h.e).or h.m
theorem held_eq {fu n : Nat} {a : AA} (hn : n ≤ 90000) (hf : n + 64 < fu) (h : AOk n a) : alloc_Alloc_held.f fu (a.of n) = some (setOf n a.held) := by
  unfold alloc_Alloc_held.f AA.of
  simp only
  rw [copied_eq hn hf h.w]
  simp only [Option.bind_some]
  rw [with_eq hn hf h.c]
  simp only [Option.bind_some]
  rw [with_eq hn hf h.e]
  simp only [Option.bind_some]
  rw [with_eq hn hf h.m]
  rfl
theorem cnt_not (f : Nat → Bool) : ∀ n, cnt f n + ((List.range n).filter fun k => !f k).length = n
  | 0 => rfl
  | n + 1 => by
    have := cnt_not f n
    unfold cnt at *
    rw [List.range_succ, List.filter_append, List.filter_append, List.length_append, List.length_append]
    cases h : f n <;> simp [h] <;> omega
theorem free_len (n : Nat) (a : AA) : ((a.free n).length : Int) = (n : Int) - ((cnt a.held n : Nat) : Int) := by
  have := cnt_not a.held n
  unfold AA.free
  omega
theorem filter_head {p : Nat → Bool} : ∀ {n : Nat}, ((List.range n).filter p).length ≠ 0 → ((List.range n).filter p).headD 0 < n ∧ p (((List.range n).filter p).headD 0) = true ∧ ∀ i, i < ((List.range n).filter p).headD 0 → p i = false
  | 0, h => absurd rfl h
  | n + 1, h => by
    rw [List.range_succ, List.filter_append] at h ⊢
    cases e : (List.range n).filter p with
    | nil =>
      rw [e] at h
      have hn : ∀ i, i < n → p i = false := by
        intro i hi
        have := List.filter_eq_nil_iff.1 e i (List.mem_range.2 hi)
        simpa using this
      cases hp : p n
      · simp [hp] at h
      · have e2 : [n].filter p = [n] := by simp [hp]
        rw [e2]
        exact ⟨by simp, hp, hn⟩
    | cons x l =>
      have := filter_head (p := p) (n := n) (by rw [e]; simp)
      rw [e] at this
      simp only [List.headD_cons, List.cons_append] at this ⊢
      exact ⟨by omega, this.2⟩
theorem least_ok {n : Nat} {a : AA} (h : (a.free n).length ≠ 0) : a.least n < n ∧ a.held (a.least n) = false ∧ ∀ i, i < a.least n → a.held i = true := by
  have := filter_head (p := fun k => !a.held k) (n := n) h
  simpa [AA.least, AA.free] using this
theorem take_eq {fu n : Nat} {a : AA} (hn : n ≤ 90000) (hf : n + 64 < fu) (h : AOk n a) : alloc_Alloc_Take.f fu (a.of n) = some ((a.take n).1, (a.take n).2.1, (a.take n).2.2.of n) := by
  have hr := h.r
  have hc := cnt_le a.held n
  have hfl := free_len n a
  unfold alloc_Alloc_Take.f alloc_Alloc_take.f
  rw [held_eq hn hf h]
  simp only [Option.bind_some, bits_Set_Size.f]
  rw [count_eq (by omega) (by omega) (held_low h)]
  simp only [Option.bind_some]
  rw [show (setOf n a.held).size = (n : Int) from rfl, w64 (by omega) (by omega), ← hfl, show (a.of n).reserve = a.r from rfl]
  unfold AA.take
  by_cases e : ((a.free n).length : Int) ≤ a.r
  · rw [decide_eq_true e, if_pos rfl, if_pos e]
    rfl
  · rw [decide_eq_false e, if_neg (by decide), if_neg e]
    obtain ⟨h1, h2, h3⟩ := least_ok (n := n) (a := a) (by omega)
    rw [gap_eq (by omega) (by omega) h1 h2 h3]
    simp only [Option.bind_some]
    rw [show (a.of n).sets.2.2.2 = setOf n a.w from rfl, add_eq (by omega) (by simp) (by simp; omega)]
    rfl
theorem give_eq {fu n : Nat} {a : AA} {k : Int} (hn : n ≤ 90000) (hf : n + 64 < fu) (h : AOk n a) : alloc_Alloc_Give.f fu (a.of n) k = some ((a.give n k).1, (a.give n k).2.of n) := by
  unfold alloc_Alloc_Give.f AA.give
  rw [show (a.of n).sets.2.2.2 = setOf n a.w from rfl, has_eq (by omega)]
  simp only [Option.bind_some]
  cases hasI n a.w k
  · rfl
  · rw [if_neg (by decide), if_pos rfl, dropp_eq (by omega) (by simp) (by simp; omega) h.w]
    rfl
theorem own_eq {fu n : Nat} {a : AA} {k : Int} (hn : n ≤ 90000) : alloc_Alloc_Own.f fu (a.of n) k = some (a.own n k) := by
  unfold alloc_Alloc_Own.f AA.own
  rw [show (a.of n).sets.2.2.2 = setOf n a.w from rfl, show (a.of n).sets.2.2.1 = setOf n a.m from rfl, has_eq (by omega)]
  simp only [Option.bind_some]
  cases hasI n a.w k
  · rfl
  · rw [if_pos rfl, has_eq (by omega)]
    rfl
theorem mark_eq {fu n : Nat} {a : AA} (hn : n ≤ 90000) (hf : n + 64 < fu) (h : AOk n a) : alloc_Alloc_Mark.f fu (a.of n) = some (a.mark.of n) := by
  unfold alloc_Alloc_Mark.f alloc_Alloc_become_c2_c3.f
  rw [show (a.of n).sets.2.2.2 = setOf n a.w from rfl, copied_eq hn hf h.w]
  rfl
theorem back_eq {fu n : Nat} {a : AA} (hn : n ≤ 90000) (hf : n + 64 < fu) (h : AOk n a) : alloc_Alloc_Back.f fu (a.of n) = some (a.back.of n) := by
  unfold alloc_Alloc_Back.f alloc_Alloc_become_c3_c2.f
  rw [show (a.of n).sets.2.2.1 = setOf n a.m from rfl, copied_eq hn hf h.m]
  rfl
theorem abort_eq {fu n : Nat} {a : AA} (hn : n ≤ 90000) (hf : n + 64 < fu) (h : AOk n a) : alloc_Alloc_Abort.f fu (a.of n) = some (a.abort.of n) := by
  unfold alloc_Alloc_Abort.f alloc_Alloc_become_c3_c0.f
  rw [show (a.of n).sets.1 = setOf n a.c from rfl, copied_eq hn hf h.c]
  simp only [Option.bind_some]
  rw [show (⟨(a.of n).reserve, (setOf n a.c, (a.of n).sets.2.1, (a.of n).sets.2.2.1, setOf n a.c)⟩ : S_alloc_Alloc) = (a.setW a.c).of n from rfl, mark_eq (a := a.setW a.c) hn hf ⟨h.c, h.e, h.m, h.c, h.r⟩]
  rfl
theorem works_eq {fu n : Nat} {a : AA} (hn : n ≤ 90000) (hf : n + 64 < fu) (h : AOk n a) : alloc_Alloc_Works.f fu (a.of n) = some (setOf n a.w) := by
  unfold alloc_Alloc_Works.f
  rw [show (a.of n).sets.2.2.2 = setOf n a.w from rfl, copied_eq hn hf h.w]
  rfl
theorem anew_eq {fu n : Nat} {f g : Nat → Bool} {r : Int} (hn : n ≤ 90000) (hf : n + 64 < fu) (h1 : Low n f) (h2 : Low n g) (hr : 0 ≤ r) : alloc_New.f fu (setOf n f) (setOf n g) r = some (some ((⟨r, f, g, f, f⟩ : AA).of n), 0) := by
  unfold alloc_New.f bits_Set_Size.f
  simp only [Option.bind_some]
  rw [show (setOf n f).size = (n : Int) from rfl, show (setOf n g).size = (n : Int) from rfl, decide_eq_true (rfl : (n : Int) = (n : Int)), if_neg (by decide), decide_eq_false (show ¬ r < 0 by omega), if_neg (by decide), copied_eq hn hf h2, copied_eq hn hf h1]
  rfl
theorem take_ok {n : Nat} {a : AA} (h : AOk n a) : AOk n (a.take n).2.2 := by
  unfold AA.take
  split
  · exact h
  · exact ⟨h.c, h.e, h.m, addF_low h.w, h.r⟩
theorem give_ok {n : Nat} {a : AA} {k : Int} (h : AOk n a) : AOk n (a.give n k).2 := by
  unfold AA.give
  split
  · exact ⟨h.c, h.e, h.m, dropF_low h.w, h.r⟩
  · exact h
theorem mark_ok {n : Nat} {a : AA} (h : AOk n a) : AOk n a.mark := ⟨h.c, h.e, h.w, h.w, h.r⟩
theorem back_ok {n : Nat} {a : AA} (h : AOk n a) : AOk n a.back := ⟨h.c, h.e, h.m, h.m, h.r⟩
theorem abort_ok {n : Nat} {a : AA} (h : AOk n a) : AOk n a.abort := ⟨h.c, h.e, h.c, h.c, h.r⟩
def upd {α : Type} (g : Nat → α → α) (lo j : Nat) (cs : List α) : List α := cs.mapIdx fun i c => if lo ≤ i ∧ i < lo + j then g i c else c
theorem upd_len {α : Type} (g : Nat → α → α) (lo j : Nat) (cs : List α) : (upd g lo j cs).length = cs.length := by simp [upd]
theorem upd_zero {α : Type} (g : Nat → α → α) (lo : Nat) (cs : List α) : upd g lo 0 cs = cs := by
  apply List.ext_getElem (by simp [upd])
  intro i h1 h2
  simp only [upd, List.getElem_mapIdx]
  rw [if_neg (by omega)]
theorem upd_get {α : Type} (g : Nat → α → α) (lo j : Nat) (cs : List α) (i : Nat) (h : i < (upd g lo j cs).length) : (upd g lo j cs)[i] = if lo ≤ i ∧ i < lo + j then g i (cs[i]'(by simpa [upd] using h)) else cs[i]'(by simpa [upd] using h) := by
  simp only [upd, List.getElem_mapIdx]
theorem upd_next {α : Type} (g : Nat → α → α) (lo j : Nat) (cs : List α) (h : lo + j < cs.length) : (upd g lo j cs)[lo + j]'(by rw [upd_len]; exact h) = cs[lo + j] := by
  rw [upd_get, if_neg (by omega)]
theorem upd_set {α : Type} (g : Nat → α → α) (lo j : Nat) (cs : List α) (h : lo + j < cs.length) : (upd g lo j cs).set (lo + j) (g (lo + j) cs[lo + j]) = upd g lo (j + 1) cs := by
  apply List.ext_getElem (by simp [upd])
  intro i h1 h2
  rw [List.getElem_set, upd_get g lo (j + 1)]
  by_cases e : lo + j = i
  · subst e
    rw [if_pos rfl, if_pos (by omega)]
  · rw [if_neg e, upd_get]
    by_cases c : lo ≤ i ∧ i < lo + j
    · rw [if_pos c, if_pos (by omega)]
    · rw [if_neg c, if_neg (by omega)]
theorem upd_same {α : Type} (g : Nat → α → α) (lo j : Nat) (cs : List α) (h : lo + j < cs.length) (e : g (lo + j) cs[lo + j] = cs[lo + j]) : upd g lo j cs = upd g lo (j + 1) cs := by
  apply List.ext_getElem (by simp [upd])
  intro i h1 h2
  rw [upd_get g lo j, upd_get g lo (j + 1)]
  by_cases e' : lo + j = i
  · subst e'
    rw [if_neg (by omega), if_pos (by omega), e]
  · by_cases c : lo ≤ i ∧ i < lo + j
    · rw [if_pos c, if_pos (by omega)]
    · rw [if_neg c, if_neg (by omega)]
theorem upd_all {α : Type} (g : Nat → α → α) (cs : List α) : upd g 0 cs.length cs = cs.mapIdx g := by
  apply List.ext_getElem (by simp [upd])
  intro i h1 h2
  rw [upd_get, if_pos ⟨by omega, by rw [upd_len] at h1; omega⟩, List.getElem_mapIdx]
theorem getD_set {α : Type} (cs : List α) (i k : Nat) (v d : α) (hi : i < cs.length) : (cs.set i v).getD k d = if i = k then v else cs.getD k d := by
  simp only [List.getD_eq_getElem?_getD, List.getElem?_set]
  by_cases h : i = k
  · subst h
    simp [hi]
  · simp [h]
end Go.Proofs.YtdifnahlheogdaaDoor.Pure
namespace Go.Proofs.YtdifnahlheogdaaDoor
open Go Go.Xw Go.Yw
end Go.Proofs.YtdifnahlheogdaaDoor
namespace Go.Proofs.YtdifnahlheogdaaDoor.Pure
open Go Go.Xw Go.Yw
def lay (v n : Nat) : List Int := (List.range n).map fun i => ((v / 256 ^ i % 256 : Nat) : Int)
theorem lay_len (v n : Nat) : (lay v n).length = n := by simp [lay]
theorem lay_succ (v n : Nat) : lay v (n + 1) = lay v n ++ [((v / 256 ^ n % 256 : Nat) : Int)] := by
  simp [lay, List.range_succ]
theorem wu8_mod {n : Nat} : IntKind.u8.wrap (n : Int) = ((n % 256 : Nat) : Int) := by
  unfold IntKind.wrap
  simp only [IntKind.signed, IntKind.bits]
  simp
theorem shr64 (n : Nat) : shR .u64 (n : Int) 8 = ((n / 256 : Nat) : Int) := by
  unfold shR
  show Int.fdiv (n : Int) (2 ^ min ((8 : Int).toNat) 64) = _
  rw [show (2 : Int) ^ min ((8 : Int).toNat) 64 = 256 from by decide, Int.fdiv_eq_ediv_of_nonneg _ (by decide)]
  omega
theorem olay_eq {fu v n : Nat} (hn : n ≤ 8) (hf : n < fu) : octet_Lay.f fu (v : Int) (n : Int) = some (lay v n) := by
  unfold octet_Lay.f
  have h0 : ¬ ((n : Int) < 0) := by omega
  have h8 : ¬ ((n : Int) > 8) := by omega
  have hL : Int.toNat (n : Int) ≤ LIM := by
    have : (8 : Nat) ≤ LIM := by decide
    omega
  simp only [h0, h8, decide_false, Bool.false_eq_true, if_false]
  rw [if_pos ⟨by omega, hL⟩]
  have : loopM (octet_Lay.s0 fu (n : Int)) fu ((v : Int), 0, List.replicate (Int.toNat (n : Int)) (0 : Int)) = some (lay v n) := by
    refine loopM_run (S := fun j => (((v / 256 ^ j : Nat) : Int), (j : Int), lay v j ++ List.replicate (n - j) (0 : Int))) n (by simp [lay]) ?_ ?_ hf
    · intro j hj
      unfold octet_Lay.s0
      have w3 : IntKind.i64.wrap ((j : Int) + 1) = ((j + 1 : Nat) : Int) := by rw [w64 (by omega) (by omega)]; omega
      have e1 : (List.replicate (Int.toNat (n : Int)) (0 : Int)).length = n := by simp
      have e2 : (lay v j ++ List.replicate (n - j) (0 : Int)).length = n := by rw [List.length_append, lay_len, List.length_replicate]; omega
      have e3 : List.set (lay v j ++ List.replicate (n - j) (0 : Int)) (Int.toNat (j : Int)) (IntKind.u8.wrap ((v / 256 ^ j : Nat) : Int)) = lay v (j + 1) ++ List.replicate (n - (j + 1)) (0 : Int) := by
        rw [Int.toNat_natCast, List.set_append, if_neg (by rw [lay_len]; omega), lay_len, Nat.sub_self, wu8_mod, lay_succ, show n - j = n - (j + 1) + 1 from by omega, List.replicate_succ]
        simp
      have e4 : shR .u64 ((v / 256 ^ j : Nat) : Int) 8 = ((v / 256 ^ (j + 1) : Nat) : Int) := by
        rw [shr64, Nat.div_div_eq_div_mul, Nat.pow_succ]
      have h1 : (j : Int) < (n : Int) := by omega
      simp only [e1, e2, e3, e4, w3, h1, decide_true, if_true]
      rw [if_pos ⟨by omega, trivial⟩]
    · unfold octet_Lay.s0
      simp
  rw [this]
  rfl
def num : List Int → Nat
  | [] => 0
  | c :: l => c.toNat + 256 * num l
theorem num_append : ∀ (a b : List Int), num (a ++ b) = num a + 256 ^ a.length * num b
  | [], b => by simp [num]
  | c :: a, b => by
    simp only [List.cons_append, num, num_append a b, List.length_cons, Nat.pow_succ]
    rw [Nat.mul_add, Nat.add_assoc, ← Nat.mul_assoc, Nat.mul_comm 256 (256 ^ a.length)]
theorem num_lt : ∀ {l : List Int}, Bytes l → num l < 256 ^ l.length
  | [], _ => by simp [num]
  | c :: l, h => by
    have h1 := h c (by simp)
    have h2 := num_lt (l := l) fun x hx => h x (by simp [hx])
    simp only [num, List.length_cons, Nat.pow_succ]
    omega
theorem or_add (a c j : Nat) (ha : a < 256 ^ j) : a ||| c * 256 ^ j = a + 256 ^ j * c := by
  have e : 256 ^ j = 2 ^ (8 * j) := by rw [Nat.pow_mul]
  rw [e] at ha ⊢
  rw [Nat.mul_comm c, Nat.or_comm, ← Nat.two_pow_add_eq_or_of_lt ha, Nat.add_comm]
theorem read_eq {fu : Nat} {l : List Int} (hb : Bytes l) (hl : l.length ≤ 8) (hf : l.length < fu) : octet_Read.f fu l = some ((num l : Nat) : Int) := by
  unfold octet_Read.f
  have hm : mnI (l.length : Int) 8 = (l.length : Int) := by
    unfold mnI
    split <;> omega
  have hc : cut l 0 (l.length : Int) = l := by
    unfold cut
    simp
  rw [hm, if_pos ⟨by omega, Int.le_refl _⟩]
  have : loopM (octet_Read.s0 fu l) fu (0, 0) = some ((num l : Nat) : Int) := by
    refine loopM_run (S := fun j => (((num (l.take j) : Nat) : Int), (j : Int))) l.length (by simp [num]) ?_ ?_ hf
    · intro j hj
      unfold octet_Read.s0
      rw [hm, hc]
      have h1 : (j : Int) < (l.length : Int) := by omega
      have w3 : IntKind.i64.wrap ((j : Int) + 1) = ((j + 1 : Nat) : Int) := by rw [w64 (by omega) (by omega)]; omega
      have w4 : IntKind.i64.wrap (8 * (j : Int)) = ((8 * j : Nat) : Int) := by rw [w64 (by omega) (by omega)]; omega
      have hcb := hb _ (List.getElem_mem hj)
      obtain ⟨c, hc'⟩ : ∃ c : Nat, l[j] = (c : Int) := ⟨l[j].toNat, by omega⟩
      have hlt : num (l.take j) < 256 ^ j := by
        have := num_lt (l := l.take j) fun x hx => hb x (List.mem_of_mem_take hx)
        rwa [List.length_take, Nat.min_eq_left (by omega)] at this
      have e256 : (256 : Nat) ^ j * 256 ≤ 256 ^ 8 := by
        rw [← Nat.pow_succ]
        exact Nat.pow_le_pow_right (by decide) (by omega)
      have e8 : (256 : Nat) ^ 8 = 18446744073709551616 := by decide
      have hcj : c * 256 ^ j < 18446744073709551616 := by
        have : c * 256 ^ j ≤ 255 * 256 ^ j := Nat.mul_le_mul_right _ (by omega)
        have : 0 < 256 ^ j := Nat.pow_pos (by decide)
        omega
      have e1 : shL .u64 (IntKind.u64.wrap (ix l (j : Int))) ((8 * j : Nat) : Int) = ((c * 256 ^ j : Nat) : Int) := by
        rw [ix_nat hj, hc', wu64 (by omega) (by omega)]
        unfold shL
        rw [Int.toNat_natCast, Nat.min_eq_left (by show 8 * j ≤ 64; omega)]
        have : (c : Int) * 2 ^ (8 * j) = ((c * 256 ^ j : Nat) : Int) := by
          have h256 : ((256 ^ j : Nat) : Int) = 2 ^ (8 * j) := by
            rw [Int.natCast_pow, Int.pow_mul]
            exact congrArg (fun z : Int => z ^ j) (by decide : ((256 : Nat) : Int) = 2 ^ 8)
          rw [Int.natCast_mul, h256]
        rw [this, wu64 (by omega) (by omega)]
      have e2 : bOr .u64 ((num (l.take j) : Nat) : Int) ((c * 256 ^ j : Nat) : Int) = ((num (l.take (j + 1)) : Nat) : Int) := by
        unfold bOr
        show IntKind.u64.wrap (((BitVec.ofInt 64 ((num (l.take j) : Nat) : Int) ||| BitVec.ofInt 64 ((c * 256 ^ j : Nat) : Int)).toNat : Nat) : Int) = _
        rw [BitVec.ofInt_natCast, BitVec.ofInt_natCast, BitVec.toNat_or, BitVec.toNat_ofNat, BitVec.toNat_ofNat, Nat.mod_eq_of_lt (by omega), Nat.mod_eq_of_lt (by omega), or_add _ _ _ hlt, take_next hj, num_append]
        have hs : num (l.take j) + 256 ^ j * c < 18446744073709551616 := by
          rw [Nat.mul_comm]
          have : c * 256 ^ j ≤ 255 * 256 ^ j := Nat.mul_le_mul_right _ (by omega)
          omega
        rw [wu64 (by omega) (by omega)]
        simp only [num, hc', Int.toNat_natCast, List.length_take, Nat.min_eq_left (by omega : j ≤ l.length), Nat.mul_zero, Nat.add_zero]
      simp only [h1, decide_true, if_true, w4, e1, e2, w3]
      rw [if_pos ⟨by omega, trivial⟩, if_pos (by omega)]
    · unfold octet_Read.s0
      rw [hm, hc]
      simp
  rw [this]
  rfl
end Go.Proofs.YtdifnahlheogdaaDoor.Pure
namespace Go.Proofs.YtdifnahlheogdaaDoor
open Go Go.Xw Go.Yw
end Go.Proofs.YtdifnahlheogdaaDoor
namespace Go.Proofs.YtdifnahlheogdaaDoor.Pure
open Go Go.Xw Go.Yw
abbrev Cell := S_pmem_cell
abbrev Dev := S_pmem_Device
def keepC (c : Cell) (w : Int) : Cell := ⟨w, c.stored, 0, false⟩
def evict (p : Int) (cs : List Cell) : List Cell := cs.mapIdx fun i c => if 0 ≤ p ∧ (i : Int) = p % (cs.length : Int) then keepC c c.stored else c
def pick (p : S_pmem_plan) : Int := if p.list.length = 0 then -1 else ix p.list p.at_
def nextP (p : S_pmem_plan) : S_pmem_plan := if p.list.length = 0 then p else ⟨p.list, (p.at_ + 1) % (p.list.length : Int)⟩
def tick (d : Dev) : Dev := ⟨evict (pick d.plan) d.cells, nextP d.plan, if d.armed then decide (d.left - 1 = 0) else d.off, d.armed, if d.armed then d.left - 1 else d.left, d.steps + 1⟩
def mayI (off : Bool) (k n : Int) : Int := if off = true then 3 else if k < 0 ∨ k ≥ n then 2 else 0
def putC (k w : Int) (cs : List Cell) : List Cell := cs.mapIdx fun i c => if (i : Int) = k then ⟨c.lasts, w, c.sent, c.flushed⟩ else c
def sendC (c : Cell) : Cell := ⟨c.lasts, c.stored, c.stored, true⟩
def sendL (k : Int) (cs : List Cell) : List Cell := cs.mapIdx fun i c => if 8 * k ≤ (i : Int) ∧ (i : Int) < 8 * k + 8 then sendC c else c
def fenceC (c : Cell) : Cell := if c.flushed = true then keepC c c.sent else c
def withC (d : Dev) (cs : List Cell) : Dev := ⟨cs, d.plan, d.off, d.armed, d.left, d.steps⟩
def storeD (d : Dev) (k w : Int) : Int × Dev := if mayI d.off k (d.cells.length : Int) = 0 then (0, tick (withC d (putC k w d.cells))) else (mayI d.off k (d.cells.length : Int), d)
def loadD (d : Dev) (k : Int) : Int × Int := if mayI d.off k (d.cells.length : Int) = 0 then ((ix d.cells k).stored, 0) else (0, mayI d.off k (d.cells.length : Int))
def flushD (d : Dev) (k : Int) : Int × Dev := if mayI d.off k ((d.cells.length / 8 : Nat) : Int) = 0 then (0, tick (withC d (sendL k d.cells))) else (mayI d.off k ((d.cells.length / 8 : Nat) : Int), d)
def fenceD (d : Dev) : Int × Dev := if d.off = true then (3, d) else (0, tick (withC d (d.cells.map fenceC)))
def I64 (x : Int) : Prop := -9223372036854775808 ≤ x ∧ x ≤ 9223372036854775807
def U64 (x : Int) : Prop := 0 ≤ x ∧ x ≤ 18446744073709551615
def okC (c : Cell) : Prop := U64 c.lasts ∧ U64 c.stored ∧ U64 c.sent
structure DevOk (n : Nat) (B : Int) (d : Dev) : Prop where
  len : d.cells.length = n
  val : ∀ c ∈ d.cells, okC c
  at0 : d.plan.list.length ≠ 0 → 0 ≤ d.plan.at_ ∧ d.plan.at_ < (d.plan.list.length : Int)
  pl : d.plan.list.length ≤ 1000
  arm : d.armed = true → 0 ≤ d.left ∧ d.left ≤ 9223372036854775807 ∧ d.off = decide (d.left = 0)
  una : d.armed = false → d.off = false
  st : 0 ≤ d.steps ∧ d.steps ≤ B
theorem ix_set {α : Type} [Inhabited α] {l : List α} {k : Nat} {v : α} (h : k < l.length) : ix (l.set k v) (k : Int) = v := by
  rw [ix_nat (by simpa using h)]
  simp
theorem updR_nat {α : Type} [Inhabited α] {l : List α} {k : Nat} {f : α → α} : updR l (k : Int) f = l.set k (f (ix l (k : Int))) := by
  unfold updR
  rw [Int.toNat_natCast]
theorem keep_eq {fu k : Nat} {l : List Cell} {w : Int} (h : k < l.length) : pmem_cell_keep__i0.f fu l (k : Int) w = some (l.set k (keepC (ix l (k : Int)) w)) := by
  unfold pmem_cell_keep__i0.f
  simp only [updR_nat, List.set_set, ix_set h, keepC]
theorem pnext_eq {fu : Nat} {d : Dev} (h0 : d.plan.list.length ≠ 0 → 0 ≤ d.plan.at_ ∧ d.plan.at_ < (d.plan.list.length : Int)) (hl : d.plan.list.length ≤ 1000) : pmem_plan_next__i0_1.f fu d = some (pick d.plan, ⟨d.cells, nextP d.plan, d.off, d.armed, d.left, d.steps⟩) := by
  unfold pmem_plan_next__i0_1.f pick nextP
  by_cases e : d.plan.list.length = 0
  · have e' : (d.plan.list.length : Int) = 0 := by omega
    rw [decide_eq_true e', if_pos rfl, if_pos e, if_pos e]
  · have e' : ¬ (d.plan.list.length : Int) = 0 := by omega
    have h := h0 e
    rw [decide_eq_false e', if_neg (by decide), if_pos h, if_pos e', if_neg e, if_neg e, w64 (by omega) (by omega), Int.tmod_eq_emod_of_nonneg (by omega)]
theorem set_upd {cs : List Cell} {k : Nat} (g : Cell → Cell) (hk : k < cs.length) : cs.set k (g (ix cs (k : Int))) = cs.mapIdx fun i c => if i = k then g c else c := by
  rw [ix_nat hk]
  apply List.ext_getElem (by simp)
  intro i h1 h2
  rw [List.getElem_set, List.getElem_mapIdx]
  by_cases e : k = i
  · subst e
    simp
  · rw [if_neg e, if_neg (fun q => e q.symm)]
theorem evict_no {p : Int} (cs : List Cell) (h : ¬ 0 ≤ p) : evict p cs = cs := by
  apply List.ext_getElem (by simp [evict])
  intro i h1 h2
  simp only [evict, List.getElem_mapIdx]
  rw [if_neg fun q => h q.1]
theorem dstep_eq {fu n : Nat} {B : Int} {d : Dev} (h : DevOk n B d) (hB : B < 9223372036854775807) (ho : d.off = false) : pmem_Device_step.f fu d = some (tick d) := by
  unfold pmem_Device_step.f
  have hs := h.st
  have w1 : IntKind.i64.wrap (d.steps + 1) = d.steps + 1 := w64 (by omega) (by omega)
  rw [pnext_eq (d := ⟨d.cells, d.plan, d.off, d.armed, d.left, IntKind.i64.wrap (d.steps + 1)⟩) h.at0 h.pl, w1]
  simp only [Option.bind_some]
  have hc : ∀ q, q = pick d.plan → q ≥ 0 → ((if (decide ((List.length d.cells : Int) > 0)) = true then if (List.length d.cells : Int) ≠ 0 then if 0 ≤ (Int.tmod q (List.length d.cells : Int)) ∧ (Int.tmod q (List.length d.cells : Int)) < (List.length d.cells : Int) then ((pmem_cell_keep__i0.f fu d.cells (Int.tmod q (List.length d.cells : Int)) ((ix d.cells (Int.tmod q (List.length d.cells : Int))).stored) : Option (List S_pmem_cell)).bind fun t8 => some (t8)) else none else none else some (d.cells)) : Option (List S_pmem_cell)) = some (evict q d.cells) := by
    intro q _ hq
    by_cases hl : (List.length d.cells : Int) > 0
    · rw [decide_eq_true hl, Int.tmod_eq_emod_of_nonneg hq]
      have hm0 := Int.emod_nonneg q (show (List.length d.cells : Int) ≠ 0 by omega)
      have hm1 := Int.emod_lt_of_pos q hl
      have e1 : (List.length d.cells : Int) ≠ 0 := by omega
      obtain ⟨k, hk⟩ : ∃ k : Nat, q % (List.length d.cells : Int) = (k : Int) := ⟨(q % (List.length d.cells : Int)).toNat, by omega⟩
      have hkl : k < d.cells.length := by omega
      rw [if_pos rfl, if_pos e1, if_pos ⟨hm0, hm1⟩, hk, keep_eq hkl]
      simp only [Option.bind_some]
      refine congrArg some ((set_upd (fun c => keepC c c.stored) hkl).trans ?_)
      apply List.ext_getElem (by simp [evict])
      intro i h1 h2
      simp only [evict, List.getElem_mapIdx, hk]
      by_cases e : i = k
      · rw [if_pos e, if_pos ⟨hq, by omega⟩]
      · rw [if_neg e, if_neg fun z => e (by omega)]
    · have : d.cells = [] := List.length_eq_zero_iff.1 (by omega)
      rw [this]
      simp [evict]
  have hd : ∀ (r : List Cell), ((((if d.armed = true then some ((decide ((IntKind.i64.wrap (d.left - 1)) = 0)), (IntKind.i64.wrap (d.left - 1))) else some (d.off, d.left)) : Option (Bool × Int)).bind fun x45 => some ((⟨r, nextP d.plan, x45.1, d.armed, x45.2, (d.steps + 1)⟩ : S_pmem_Device))) : Option Dev) = some ⟨r, nextP d.plan, if d.armed then decide (d.left - 1 = 0) else d.off, d.armed, if d.armed then d.left - 1 else d.left, d.steps + 1⟩ := by
    intro r
    cases ha : d.armed
    · simp
    · have := h.arm ha
      rw [ho] at this
      have : d.left ≠ 0 := by
        intro e
        rw [e] at this
        exact absurd this.2.2 (by decide)
      rw [w64 (by omega) (by omega)]
      simp
  by_cases hq : pick d.plan ≥ 0
  · rw [decide_eq_true hq, if_pos rfl, hc _ rfl hq]
    simp only [Option.bind_some]
    exact hd _
  · rw [decide_eq_false hq, if_neg (by decide)]
    have := hd d.cells
    rw [this]
    unfold tick
    rw [evict_no _ hq]
theorem evict_len (p : Int) (cs : List Cell) : (evict p cs).length = cs.length := by simp [evict]
theorem keep_ok {c : Cell} {w : Int} (h : okC c) (hw : U64 w) : okC (keepC c w) := ⟨hw, h.2.1, by unfold U64; simp [keepC]⟩
theorem mapIdx_ok {cs : List Cell} {g : Nat → Cell → Cell} (h : ∀ c ∈ cs, okC c) (hg : ∀ i c, okC c → okC (g i c)) : ∀ c ∈ cs.mapIdx g, okC c := by
  intro c hc
  obtain ⟨i, hi, rfl⟩ := List.getElem_of_mem hc
  rw [List.getElem_mapIdx]
  exact hg _ _ (h _ (List.getElem_mem _))
theorem evict_ok {p : Int} {cs : List Cell} (h : ∀ c ∈ cs, okC c) : ∀ c ∈ evict p cs, okC c := by
  refine mapIdx_ok h fun i c hc => ?_
  split
  · exact keep_ok hc hc.2.1
  · exact hc
theorem tick_ok {n : Nat} {B : Int} {d : Dev} (h : DevOk n B d) (ho : d.off = false) : DevOk n (B + 1) (tick d) := by
  refine ⟨?_, ?_, ?_, ?_, ?_, ?_, ?_⟩
  · exact (evict_len _ _).trans h.len
  · exact evict_ok h.val
  · intro e
    by_cases z : d.plan.list.length = 0
    · exact absurd (by simp [tick, nextP, z]) e
    · have : (tick d).plan = ⟨d.plan.list, (d.plan.at_ + 1) % (d.plan.list.length : Int)⟩ := by simp [tick, nextP, z]
      rw [this]
      exact ⟨Int.emod_nonneg _ (by omega), Int.emod_lt_of_pos _ (by omega)⟩
  · by_cases z : d.plan.list.length = 0
    · simp [tick, nextP, z]
    · simp only [tick, nextP, z, if_false]
      exact h.pl
  · intro ha
    have ha' : d.armed = true := ha
    have := h.arm ha'
    have hl : d.left ≠ 0 := by
      intro e
      rw [e, ho] at this
      exact absurd this.2.2 (by decide)
    simp only [tick, ha', if_true]
    exact ⟨by omega, by omega, trivial⟩
  · intro ha
    have ha' : d.armed = false := ha
    simp only [tick, ha', Bool.false_eq_true, if_false]
    exact h.una ha'
  · have := h.st
    simp only [tick]
    omega
theorem DevOk.up {n : Nat} {B C : Int} {d : Dev} (h : DevOk n B d) (hc : B ≤ C) : DevOk n C d := ⟨h.len, h.val, h.at0, h.pl, h.arm, h.una, ⟨h.st.1, by have := h.st; omega⟩⟩
theorem with_ok {n : Nat} {B : Int} {d : Dev} (h : DevOk n B d) {cs : List Cell} (hl : cs.length = n) (hv : ∀ c ∈ cs, okC c) : DevOk n B (withC d cs) := ⟨hl, hv, h.at0, h.pl, h.arm, h.una, h.st⟩
end Go.Proofs.YtdifnahlheogdaaDoor.Pure
