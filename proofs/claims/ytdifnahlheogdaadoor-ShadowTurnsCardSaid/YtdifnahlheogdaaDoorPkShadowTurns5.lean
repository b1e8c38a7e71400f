/- ShadowTurns: texts merged, part 5 of 5. The last part proves that the law ShadowTurns holds for every input. -/
import Derived.Test.YtdifnahlheogdaaDoorPkShadowTurns4
import Derived.Test.YtdifnahlheogdaaDoorCards
import Derived.Test.YtdifnahlheogdaaDoorTie
import Derived.OpenShut
import Derived.ProofKit
import Derived.ChangeOld
import Derived.Below
import Derived.SizedLaws
import Derived.SevenTiedAt
set_option maxRecDepth 100000
set_option maxHeartbeats 4000000
set_option linter.unusedVariables false
set_option linter.unusedSimpArgs false
namespace Go.Proofs.YtdifnahlheogdaaDoor
open Go Go.Xw Go.Yw
def shadow_Store_Turn.f (fu : Nat) (a0 : S_shadow_Store) (a1 : Int) (a2 : List Int) : Option (Int × Int × S_shadow_Store) := (if (!decide ((List.length a2 : Int) = 64)) = true then some (0, 2, a0) else ((alloc_Alloc_Works.f fu a0.blocks).bind fun t2 => ((bits_Set_Has.f fu t2 a1).bind fun t4 => (if (!t4) = true then some (0, 2, a0) else ((alloc_Alloc_Own.f fu a0.blocks a1).bind fun t7 => (if t7 = true then ((shadow_Store_written.f fu a0 a1 a2).bind fun t10 => some (t10.1, t10.2.1, t10.2.2)) else ((shadow_Store_Make.f fu a0 a2).bind fun t12 => (if (!decide (t12.2.1 = 0)) = true then some (0, t12.2.1, t12.2.2) else ((alloc_Alloc_Give.f fu t12.2.2.blocks a1).bind fun t15 => some (t12.1, t15.1, (⟨t12.2.2.device, t15.2⟩ : S_shadow_Store)))))))))))
theorem shadow_Store_Turn.sc (fu : Nat) (a0 : S_shadow_Store) (a1 : Int) (a2 : List Int) (r : Int × Int × S_shadow_Store) (h : shadow_Store_Turn.f fu a0 a1 a2 = some r) : SC Tryd.prog CT 19 [.ptr 0 0, vi .i64 a1, .v (.sl (.int .u8)) (a2 : List Int)] [.box 114 (.agg [.ptr 1 0, .ptr 4 0]), .box 105 (.agg [.sl 2 4 [], .agg [.sl 3 1 [], vi .i64 a0.device.plan.at_], vb a0.device.off, vb a0.device.armed, vi .i64 a0.device.left, vi .i64 a0.device.steps]), .row (.st .S_pmem_cell) 125 (a0.device.cells : List S_pmem_cell), .row (.int .i64) 3 (a0.device.plan.list : List Int), .box 108 (.agg [vi .i64 a0.blocks.reserve, .agg [.ptr 5 0, .ptr 7 0, .ptr 9 0, .ptr 11 0]]), .box 112 (.agg [vi .i64 a0.blocks.sets.1.size, .sl 6 1 []]), .row (.int .u64) 119 (a0.blocks.sets.1.words : List Int), .box 112 (.agg [vi .i64 a0.blocks.sets.2.1.size, .sl 8 1 []]), .row (.int .u64) 119 (a0.blocks.sets.2.1.words : List Int), .box 112 (.agg [vi .i64 a0.blocks.sets.2.2.1.size, .sl 10 1 []]), .row (.int .u64) 119 (a0.blocks.sets.2.2.1.words : List Int), .box 112 (.agg [vi .i64 a0.blocks.sets.2.2.2.size, .sl 12 1 []]), .row (.int .u64) 119 (a0.blocks.sets.2.2.2.words : List Int)] (.tup [vi .i64 r.1, vi .i64 r.2.1]) [.box 114 (.agg [.ptr 1 0, .ptr 4 0]), .box 105 (.agg [.sl 2 4 [], .agg [.sl 3 1 [], vi .i64 r.2.2.device.plan.at_], vb r.2.2.device.off, vb r.2.2.device.armed, vi .i64 r.2.2.device.left, vi .i64 r.2.2.device.steps]), .row (.st .S_pmem_cell) 125 (r.2.2.device.cells : List S_pmem_cell), .row (.int .i64) 3 (r.2.2.device.plan.list : List Int), .box 108 (.agg [vi .i64 r.2.2.blocks.reserve, .agg [.ptr 5 0, .ptr 7 0, .ptr 9 0, .ptr 11 0]]), .box 112 (.agg [vi .i64 r.2.2.blocks.sets.1.size, .sl 6 1 []]), .row (.int .u64) 119 (r.2.2.blocks.sets.1.words : List Int), .box 112 (.agg [vi .i64 r.2.2.blocks.sets.2.1.size, .sl 8 1 []]), .row (.int .u64) 119 (r.2.2.blocks.sets.2.1.words : List Int), .box 112 (.agg [vi .i64 r.2.2.blocks.sets.2.2.1.size, .sl 10 1 []]), .row (.int .u64) 119 (r.2.2.blocks.sets.2.2.1.words : List Int), .box 112 (.agg [vi .i64 r.2.2.blocks.sets.2.2.2.size, .sl 12 1 []]), .row (.int .u64) 119 (r.2.2.blocks.sets.2.2.2.words : List Int)] := by
 unfold shadow_Store_Turn.f at h
 refine sc_of (r := r) (N := 51) (rs := [.tmp 6, .tmp 7]) (V := fun (r : Int × Int × S_shadow_Store) => .tup [vi .i64 r.1, vi .i64 r.2.1]) (R' := fun (r : Int × Int × S_shadow_Store) => [.box 114 (.agg [.ptr 1 0, .ptr 4 0]), .box 105 (.agg [.sl 2 4 [], .agg [.sl 3 1 [], vi .i64 r.2.2.device.plan.at_], vb r.2.2.device.off, vb r.2.2.device.armed, vi .i64 r.2.2.device.left, vi .i64 r.2.2.device.steps]), .row (.st .S_pmem_cell) 125 (r.2.2.device.cells : List S_pmem_cell), .row (.int .i64) 3 (r.2.2.device.plan.list : List Int), .box 108 (.agg [vi .i64 r.2.2.blocks.reserve, .agg [.ptr 5 0, .ptr 7 0, .ptr 9 0, .ptr 11 0]]), .box 112 (.agg [vi .i64 r.2.2.blocks.sets.1.size, .sl 6 1 []]), .row (.int .u64) 119 (r.2.2.blocks.sets.1.words : List Int), .box 112 (.agg [vi .i64 r.2.2.blocks.sets.2.1.size, .sl 8 1 []]), .row (.int .u64) 119 (r.2.2.blocks.sets.2.1.words : List Int), .box 112 (.agg [vi .i64 r.2.2.blocks.sets.2.2.1.size, .sl 10 1 []]), .row (.int .u64) 119 (r.2.2.blocks.sets.2.2.1.words : List Int), .box 112 (.agg [vi .i64 r.2.2.blocks.sets.2.2.2.size, .sl 12 1 []]), .row (.int .u64) 119 (r.2.2.blocks.sets.2.2.2.words : List Int)]) cok Tryd.func19 rfl rfl rfl (by kernel_rfl) (by kernel_rfl) rfl rfl fun X => ?_
 refine t_reg cok ?_
 refine bi h (fun c1 h => ?_) (fun c1 h => ?_)
 ·skip
  refine t_cond cok ?_
  exact fi h (by kernel_rfl)
 refine bk h fun t2 k3 h => ?_
 refine cl3 cok.g (alloc_Alloc_Works.sc fu a0.blocks _ k3) (.ptr 22 0) [(4, .box 108 (.agg [vi .i64 a0.blocks.reserve, .agg [.ptr 5 0, .ptr 7 0, .ptr 9 0, .ptr 11 0]])), (5, .box 112 (.agg [vi .i64 a0.blocks.sets.1.size, .sl 6 1 []])), (6, .row (.int .u64) 119 (a0.blocks.sets.1.words : List Int)), (7, .box 112 (.agg [vi .i64 a0.blocks.sets.2.1.size, .sl 8 1 []])), (8, .row (.int .u64) 119 (a0.blocks.sets.2.1.words : List Int)), (9, .box 112 (.agg [vi .i64 a0.blocks.sets.2.2.1.size, .sl 10 1 []])), (10, .row (.int .u64) 119 (a0.blocks.sets.2.2.1.words : List Int)), (11, .box 112 (.agg [vi .i64 a0.blocks.sets.2.2.2.size, .sl 12 1 []])), (12, .row (.int .u64) 119 (a0.blocks.sets.2.2.2.words : List Int)), (22, .box 112 (.agg [vi .i64 t2.size, .sl 23 1 []])), (23, .row (.int .u64) 119 (t2.words : List Int))] 24 (by kernel_rfl) (by kernel_rfl) ?_
 refine bk h fun t4 k5 h => ?_
 refine cl3 cok.g (bits_Set_Has.sc fu t2 a1 _ k5) (vb t4) [(22, .box 112 (.agg [vi .i64 t2.size, .sl 23 1 []])), (23, .row (.int .u64) 119 (t2.words : List Int))] 26 (by kernel_rfl) (by kernel_rfl) ?_
 refine t_cond cok ?_
 refine bi h (fun c6 h => ?_) (fun c6 h => ?_)
 ·skip
  exact fi h (by kernel_rfl)
 refine bk h fun t7 k8 h => ?_
 refine cl3 cok.g (alloc_Alloc_Own.sc fu a0.blocks a1 _ k8) (vb t7) [(4, .box 108 (.agg [vi .i64 a0.blocks.reserve, .agg [.ptr 5 0, .ptr 7 0, .ptr 9 0, .ptr 11 0]])), (5, .box 112 (.agg [vi .i64 a0.blocks.sets.1.size, .sl 6 1 []])), (6, .row (.int .u64) 119 (a0.blocks.sets.1.words : List Int)), (7, .box 112 (.agg [vi .i64 a0.blocks.sets.2.1.size, .sl 8 1 []])), (8, .row (.int .u64) 119 (a0.blocks.sets.2.1.words : List Int)), (9, .box 112 (.agg [vi .i64 a0.blocks.sets.2.2.1.size, .sl 10 1 []])), (10, .row (.int .u64) 119 (a0.blocks.sets.2.2.1.words : List Int)), (11, .box 112 (.agg [vi .i64 a0.blocks.sets.2.2.2.size, .sl 12 1 []])), (12, .row (.int .u64) 119 (a0.blocks.sets.2.2.2.words : List Int))] 35 (by kernel_rfl) (by kernel_rfl) ?_
 refine t_cond cok ?_
 refine bi h (fun c9 h => ?_) (fun c9 h => ?_)
 ·skip
  refine bk h fun t10 k11 h => ?_
  refine cl3 cok.g (shadow_Store_written.sc fu a0 a1 a2 _ k11) (.tup [vi .i64 t10.1, vi .i64 t10.2.1]) [(0, .box 114 (.agg [.ptr 1 0, .ptr 4 0])), (1, .box 105 (.agg [.sl 2 4 [], .agg [.sl 3 1 [], vi .i64 t10.2.2.device.plan.at_], vb t10.2.2.device.off, vb t10.2.2.device.armed, vi .i64 t10.2.2.device.left, vi .i64 t10.2.2.device.steps])), (2, .row (.st .S_pmem_cell) 125 (t10.2.2.device.cells : List S_pmem_cell)), (3, .row (.int .i64) 3 (t10.2.2.device.plan.list : List Int)), (4, .box 108 (.agg [vi .i64 t10.2.2.blocks.reserve, .agg [.ptr 5 0, .ptr 7 0, .ptr 9 0, .ptr 11 0]])), (5, .box 112 (.agg [vi .i64 t10.2.2.blocks.sets.1.size, .sl 6 1 []])), (6, .row (.int .u64) 119 (t10.2.2.blocks.sets.1.words : List Int)), (7, .box 112 (.agg [vi .i64 t10.2.2.blocks.sets.2.1.size, .sl 8 1 []])), (8, .row (.int .u64) 119 (t10.2.2.blocks.sets.2.1.words : List Int)), (9, .box 112 (.agg [vi .i64 t10.2.2.blocks.sets.2.2.1.size, .sl 10 1 []])), (10, .row (.int .u64) 119 (t10.2.2.blocks.sets.2.2.1.words : List Int)), (11, .box 112 (.agg [vi .i64 t10.2.2.blocks.sets.2.2.2.size, .sl 12 1 []])), (12, .row (.int .u64) 119 (t10.2.2.blocks.sets.2.2.2.words : List Int))] 48 (by kernel_rfl) (by kernel_rfl) ?_
  exact fi h (by kernel_rfl)
 refine bk h fun t12 k13 h => ?_
 refine cl3 cok.g (shadow_Store_Make.sc fu a0 a2 _ k13) (.tup [vi .i64 t12.1, vi .i64 t12.2.1]) [(0, .box 114 (.agg [.ptr 1 0, .ptr 4 0])), (1, .box 105 (.agg [.sl 2 4 [], .agg [.sl 3 1 [], vi .i64 t12.2.2.device.plan.at_], vb t12.2.2.device.off, vb t12.2.2.device.armed, vi .i64 t12.2.2.device.left, vi .i64 t12.2.2.device.steps])), (2, .row (.st .S_pmem_cell) 125 (t12.2.2.device.cells : List S_pmem_cell)), (3, .row (.int .i64) 3 (t12.2.2.device.plan.list : List Int)), (4, .box 108 (.agg [vi .i64 t12.2.2.blocks.reserve, .agg [.ptr 5 0, .ptr 7 0, .ptr 9 0, .ptr 11 0]])), (5, .box 112 (.agg [vi .i64 t12.2.2.blocks.sets.1.size, .sl 6 1 []])), (6, .row (.int .u64) 119 (t12.2.2.blocks.sets.1.words : List Int)), (7, .box 112 (.agg [vi .i64 t12.2.2.blocks.sets.2.1.size, .sl 8 1 []])), (8, .row (.int .u64) 119 (t12.2.2.blocks.sets.2.1.words : List Int)), (9, .box 112 (.agg [vi .i64 t12.2.2.blocks.sets.2.2.1.size, .sl 10 1 []])), (10, .row (.int .u64) 119 (t12.2.2.blocks.sets.2.2.1.words : List Int)), (11, .box 112 (.agg [vi .i64 t12.2.2.blocks.sets.2.2.2.size, .sl 12 1 []])), (12, .row (.int .u64) 119 (t12.2.2.blocks.sets.2.2.2.words : List Int))] 48 (by kernel_rfl) (by kernel_rfl) ?_
 refine t_cond cok ?_
 refine bi h (fun c14 h => ?_) (fun c14 h => ?_)
 ·skip
  exact fi h (by kernel_rfl)
 refine bk h fun t15 k16 h => ?_
 refine cl3 cok.g (alloc_Alloc_Give.sc fu t12.2.2.blocks a1 _ k16) (vi .i64 t15.1) [(4, .box 108 (.agg [vi .i64 t15.2.reserve, .agg [.ptr 5 0, .ptr 7 0, .ptr 9 0, .ptr 11 0]])), (5, .box 112 (.agg [vi .i64 t15.2.sets.1.size, .sl 6 1 []])), (6, .row (.int .u64) 119 (t15.2.sets.1.words : List Int)), (7, .box 112 (.agg [vi .i64 t15.2.sets.2.1.size, .sl 8 1 []])), (8, .row (.int .u64) 119 (t15.2.sets.2.1.words : List Int)), (9, .box 112 (.agg [vi .i64 t15.2.sets.2.2.1.size, .sl 10 1 []])), (10, .row (.int .u64) 119 (t15.2.sets.2.2.1.words : List Int)), (11, .box 112 (.agg [vi .i64 t15.2.sets.2.2.2.size, .sl 12 1 []])), (12, .row (.int .u64) 119 (t15.2.sets.2.2.2.words : List Int))] 57 (by kernel_rfl) (by kernel_rfl) ?_
 exact fi h (by kernel_rfl)
def rickyardlaw19_awake.f (fu : Nat) : Option Bool := ((rickyardlaw19_Made.f fu 9 0).bind fun t1 => (Option.elim t1.1 ((Option.elim t1.2.1 ((Option.elim t1.2.2 (some (false)) (fun o7 => some (false)))) (fun o5 => (Option.elim t1.2.2 (some (false)) (fun o9 => some (false)))))) (fun o3 => (Option.elim t1.2.1 ((Option.elim t1.2.2 (none) (fun o13 => none))) (fun o11 => (Option.elim t1.2.2 (none) (fun o15 => ((rickyardlaw19_whole.f fu 1).bind fun t17 => ((shadow_Store_Make.f fu (⟨o11, o15⟩ : S_shadow_Store) t17).bind fun t19 => ((rickyardlaw19_whole.f fu 2).bind fun t21 => ((shadow_Store_Turn.f fu t19.2.2 t19.1 t21).bind fun t23 => ((alloc_Alloc_Mark.f fu t23.2.2.blocks).bind fun t25 => ((rickyardlaw19_whole.f fu 3).bind fun t27 => ((shadow_Store_Turn.f fu (⟨t23.2.2.device, t25⟩ : S_shadow_Store) t19.1 t27).bind fun t29 => (if (decide (t19.2.1 = 0)) = true then (if (decide (t23.2.1 = 0)) = true then (if (decide (t29.2.1 = 0)) = true then (if (decide (t19.1 = 2)) = true then (if (decide (t23.1 = 2)) = true then some ((decide (t29.1 = 3))) else some (false)) else some (false)) else some (false)) else some (false)) else some (false))))))))))))))))
theorem rickyardlaw19_awake.sc (fu : Nat) (r : Bool) (h : rickyardlaw19_awake.f fu = some r) : SC Tryd.prog CT 10 [] [] (vb r) [] := by
 unfold rickyardlaw19_awake.f at h
 refine sc_of (r := r) (N := 65) (rs := [.tmp 0]) (V := fun (r : Bool) => vb r) (R' := fun (r : Bool) => []) cok Tryd.func10 rfl rfl rfl (by kernel_rfl) (by kernel_rfl) rfl rfl fun X => ?_
 refine bk h fun t1 k2 h => ?_
 refine oe (x := t1.1) h (fun q4 h => ?_) (fun o3 q4 h => ?_)
 ·skip
  refine oe (x := t1.2.1) h (fun q6 h => ?_) (fun o5 q6 h => ?_)
  ·skip
   refine oe (x := t1.2.2) h (fun q8 h => ?_) (fun o7 q8 h => ?_)
   ·skip
    refine cl3 cok.g (rickyardlaw19_Made.scnnn fu 9 0 _ k2 q4 q6 q8) (.tup [.nilp, .nilp, .nilp]) [] 0 (by kernel_rfl) (by kernel_rfl) ?_
    refine t_reg cok ?_
    refine t_cond cok ?_
    exact fi h (by kernel_rfl)
   refine cl3 cok.g (rickyardlaw19_Made.scnns fu 9 0 _ k2 q4 q6 o7 q8) (.tup [.nilp, .nilp, .ptr 0 0]) [(0, .box 108 (.agg [vi .i64 o7.reserve, .agg [.ptr 1 0, .ptr 3 0, .ptr 5 0, .ptr 7 0]])), (1, .box 112 (.agg [vi .i64 o7.sets.1.size, .sl 2 1 []])), (2, .row (.int .u64) 119 (o7.sets.1.words : List Int)), (3, .box 112 (.agg [vi .i64 o7.sets.2.1.size, .sl 4 1 []])), (4, .row (.int .u64) 119 (o7.sets.2.1.words : List Int)), (5, .box 112 (.agg [vi .i64 o7.sets.2.2.1.size, .sl 6 1 []])), (6, .row (.int .u64) 119 (o7.sets.2.2.1.words : List Int)), (7, .box 112 (.agg [vi .i64 o7.sets.2.2.2.size, .sl 8 1 []])), (8, .row (.int .u64) 119 (o7.sets.2.2.2.words : List Int))] 9 (by kernel_rfl) (by kernel_rfl) ?_
   refine t_reg cok ?_
   refine t_cond cok ?_
   exact fi h (by kernel_rfl)
  refine oe (x := t1.2.2) h (fun q10 h => ?_) (fun o9 q10 h => ?_)
  ·skip
   refine cl3 cok.g (rickyardlaw19_Made.scnsn fu 9 0 _ k2 q4 o5 q6 q10) (.tup [.nilp, .ptr 0 0, .nilp]) [(0, .box 105 (.agg [.sl 1 4 [], .agg [.sl 2 1 [], vi .i64 o5.plan.at_], vb o5.off, vb o5.armed, vi .i64 o5.left, vi .i64 o5.steps])), (1, .row (.st .S_pmem_cell) 125 (o5.cells : List S_pmem_cell)), (2, .row (.int .i64) 3 (o5.plan.list : List Int))] 3 (by kernel_rfl) (by kernel_rfl) ?_
   refine t_reg cok ?_
   refine t_cond cok ?_
   exact fi h (by kernel_rfl)
  refine cl3 cok.g (rickyardlaw19_Made.scnss fu 9 0 _ k2 q4 o5 q6 o9 q10) (.tup [.nilp, .ptr 0 0, .ptr 3 0]) [(0, .box 105 (.agg [.sl 1 4 [], .agg [.sl 2 1 [], vi .i64 o5.plan.at_], vb o5.off, vb o5.armed, vi .i64 o5.left, vi .i64 o5.steps])), (1, .row (.st .S_pmem_cell) 125 (o5.cells : List S_pmem_cell)), (2, .row (.int .i64) 3 (o5.plan.list : List Int)), (3, .box 108 (.agg [vi .i64 o9.reserve, .agg [.ptr 4 0, .ptr 6 0, .ptr 8 0, .ptr 10 0]])), (4, .box 112 (.agg [vi .i64 o9.sets.1.size, .sl 5 1 []])), (5, .row (.int .u64) 119 (o9.sets.1.words : List Int)), (6, .box 112 (.agg [vi .i64 o9.sets.2.1.size, .sl 7 1 []])), (7, .row (.int .u64) 119 (o9.sets.2.1.words : List Int)), (8, .box 112 (.agg [vi .i64 o9.sets.2.2.1.size, .sl 9 1 []])), (9, .row (.int .u64) 119 (o9.sets.2.2.1.words : List Int)), (10, .box 112 (.agg [vi .i64 o9.sets.2.2.2.size, .sl 11 1 []])), (11, .row (.int .u64) 119 (o9.sets.2.2.2.words : List Int))] 12 (by kernel_rfl) (by kernel_rfl) ?_
  refine t_reg cok ?_
  refine t_cond cok ?_
  exact fi h (by kernel_rfl)
 refine oe (x := t1.2.1) h (fun q12 h => ?_) (fun o11 q12 h => ?_)
 ·skip
  refine oe (x := t1.2.2) h (fun q14 h => ?_) (fun o13 q14 h => ?_)
  ·skip
   cases h
  cases h
 refine oe (x := t1.2.2) h (fun q16 h => ?_) (fun o15 q16 h => ?_)
 ·skip
  cases h
 refine cl3 cok.g (rickyardlaw19_Made.scsss fu 9 0 _ k2 o3 q4 o11 q12 o15 q16) (.tup [.ptr 12 0, .ptr 0 0, .ptr 3 0]) [(0, .box 105 (.agg [.sl 1 4 [], .agg [.sl 2 1 [], vi .i64 o11.plan.at_], vb o11.off, vb o11.armed, vi .i64 o11.left, vi .i64 o11.steps])), (1, .row (.st .S_pmem_cell) 125 (o11.cells : List S_pmem_cell)), (2, .row (.int .i64) 3 (o11.plan.list : List Int)), (3, .box 108 (.agg [vi .i64 o15.reserve, .agg [.ptr 4 0, .ptr 6 0, .ptr 8 0, .ptr 10 0]])), (4, .box 112 (.agg [vi .i64 o15.sets.1.size, .sl 5 1 []])), (5, .row (.int .u64) 119 (o15.sets.1.words : List Int)), (6, .box 112 (.agg [vi .i64 o15.sets.2.1.size, .sl 7 1 []])), (7, .row (.int .u64) 119 (o15.sets.2.1.words : List Int)), (8, .box 112 (.agg [vi .i64 o15.sets.2.2.1.size, .sl 9 1 []])), (9, .row (.int .u64) 119 (o15.sets.2.2.1.words : List Int)), (10, .box 112 (.agg [vi .i64 o15.sets.2.2.2.size, .sl 11 1 []])), (11, .row (.int .u64) 119 (o15.sets.2.2.2.words : List Int)), (12, .box 114 (.agg [.ptr 0 0, .ptr 3 0]))] 13 (by kernel_rfl) (by kernel_rfl) ?_
 refine t_reg cok ?_
 refine t_cond cok ?_
 refine bk h fun t17 k18 h => ?_
 refine cl3 cok.g (rickyardlaw19_whole.sc fu 1 _ k18) (.sl 13 1 []) [(13, .row (.int .u8) 5 (t17 : List Int))] 14 (by kernel_rfl) (by kernel_rfl) ?_
 refine bk h fun t19 k20 h => ?_
 refine cl3 cok.g (shadow_Store_Make.sc fu (⟨o11, o15⟩ : S_shadow_Store) t17 _ k20) (.tup [vi .i64 t19.1, vi .i64 t19.2.1]) [(12, .box 114 (.agg [.ptr 0 0, .ptr 3 0])), (0, .box 105 (.agg [.sl 1 4 [], .agg [.sl 2 1 [], vi .i64 t19.2.2.device.plan.at_], vb t19.2.2.device.off, vb t19.2.2.device.armed, vi .i64 t19.2.2.device.left, vi .i64 t19.2.2.device.steps])), (1, .row (.st .S_pmem_cell) 125 (t19.2.2.device.cells : List S_pmem_cell)), (2, .row (.int .i64) 3 (t19.2.2.device.plan.list : List Int)), (3, .box 108 (.agg [vi .i64 t19.2.2.blocks.reserve, .agg [.ptr 4 0, .ptr 6 0, .ptr 8 0, .ptr 10 0]])), (4, .box 112 (.agg [vi .i64 t19.2.2.blocks.sets.1.size, .sl 5 1 []])), (5, .row (.int .u64) 119 (t19.2.2.blocks.sets.1.words : List Int)), (6, .box 112 (.agg [vi .i64 t19.2.2.blocks.sets.2.1.size, .sl 7 1 []])), (7, .row (.int .u64) 119 (t19.2.2.blocks.sets.2.1.words : List Int)), (8, .box 112 (.agg [vi .i64 t19.2.2.blocks.sets.2.2.1.size, .sl 9 1 []])), (9, .row (.int .u64) 119 (t19.2.2.blocks.sets.2.2.1.words : List Int)), (10, .box 112 (.agg [vi .i64 t19.2.2.blocks.sets.2.2.2.size, .sl 11 1 []])), (11, .row (.int .u64) 119 (t19.2.2.blocks.sets.2.2.2.words : List Int))] 27 (by kernel_rfl) (by kernel_rfl) ?_
 refine bk h fun t21 k22 h => ?_
 refine cl3 cok.g (rickyardlaw19_whole.sc fu 2 _ k22) (.sl 27 1 []) [(27, .row (.int .u8) 5 (t21 : List Int))] 28 (by kernel_rfl) (by kernel_rfl) ?_
 refine bk h fun t23 k24 h => ?_
 refine cl3 cok.g (shadow_Store_Turn.sc fu t19.2.2 t19.1 t21 _ k24) (.tup [vi .i64 t23.1, vi .i64 t23.2.1]) [(12, .box 114 (.agg [.ptr 0 0, .ptr 3 0])), (0, .box 105 (.agg [.sl 1 4 [], .agg [.sl 2 1 [], vi .i64 t23.2.2.device.plan.at_], vb t23.2.2.device.off, vb t23.2.2.device.armed, vi .i64 t23.2.2.device.left, vi .i64 t23.2.2.device.steps])), (1, .row (.st .S_pmem_cell) 125 (t23.2.2.device.cells : List S_pmem_cell)), (2, .row (.int .i64) 3 (t23.2.2.device.plan.list : List Int)), (3, .box 108 (.agg [vi .i64 t23.2.2.blocks.reserve, .agg [.ptr 4 0, .ptr 6 0, .ptr 8 0, .ptr 10 0]])), (4, .box 112 (.agg [vi .i64 t23.2.2.blocks.sets.1.size, .sl 5 1 []])), (5, .row (.int .u64) 119 (t23.2.2.blocks.sets.1.words : List Int)), (6, .box 112 (.agg [vi .i64 t23.2.2.blocks.sets.2.1.size, .sl 7 1 []])), (7, .row (.int .u64) 119 (t23.2.2.blocks.sets.2.1.words : List Int)), (8, .box 112 (.agg [vi .i64 t23.2.2.blocks.sets.2.2.1.size, .sl 9 1 []])), (9, .row (.int .u64) 119 (t23.2.2.blocks.sets.2.2.1.words : List Int)), (10, .box 112 (.agg [vi .i64 t23.2.2.blocks.sets.2.2.2.size, .sl 11 1 []])), (11, .row (.int .u64) 119 (t23.2.2.blocks.sets.2.2.2.words : List Int))] 41 (by kernel_rfl) (by kernel_rfl) ?_
 refine bk h fun t25 k26 h => ?_
 refine cl3 cok.g (alloc_Alloc_Mark.sc fu t23.2.2.blocks _ k26) (.tup []) [(3, .box 108 (.agg [vi .i64 t25.reserve, .agg [.ptr 4 0, .ptr 6 0, .ptr 50 0, .ptr 10 0]])), (4, .box 112 (.agg [vi .i64 t25.sets.1.size, .sl 5 1 []])), (5, .row (.int .u64) 119 (t25.sets.1.words : List Int)), (6, .box 112 (.agg [vi .i64 t25.sets.2.1.size, .sl 7 1 []])), (7, .row (.int .u64) 119 (t25.sets.2.1.words : List Int)), (8, .gone), (9, .gone), (10, .box 112 (.agg [vi .i64 t25.sets.2.2.2.size, .sl 11 1 []])), (11, .row (.int .u64) 119 (t25.sets.2.2.2.words : List Int)), (50, .box 112 (.agg [vi .i64 t25.sets.2.2.1.size, .sl 51 1 []])), (51, .row (.int .u64) 119 (t25.sets.2.2.1.words : List Int))] 52 (by kernel_rfl) (by kernel_rfl) ?_
 refine bk h fun t27 k28 h => ?_
 refine cl3 cok.g (rickyardlaw19_whole.sc fu 3 _ k28) (.sl 52 1 []) [(52, .row (.int .u8) 5 (t27 : List Int))] 53 (by kernel_rfl) (by kernel_rfl) ?_
 refine bk h fun t29 k30 h => ?_
 refine cl3 cok.g (shadow_Store_Turn.sc fu (⟨t23.2.2.device, t25⟩ : S_shadow_Store) t19.1 t27 _ k30) (.tup [vi .i64 t29.1, vi .i64 t29.2.1]) [(12, .box 114 (.agg [.ptr 0 0, .ptr 3 0])), (0, .box 105 (.agg [.sl 1 4 [], .agg [.sl 2 1 [], vi .i64 t29.2.2.device.plan.at_], vb t29.2.2.device.off, vb t29.2.2.device.armed, vi .i64 t29.2.2.device.left, vi .i64 t29.2.2.device.steps])), (1, .row (.st .S_pmem_cell) 125 (t29.2.2.device.cells : List S_pmem_cell)), (2, .row (.int .i64) 3 (t29.2.2.device.plan.list : List Int)), (3, .box 108 (.agg [vi .i64 t29.2.2.blocks.reserve, .agg [.ptr 4 0, .ptr 6 0, .ptr 50 0, .ptr 10 0]])), (4, .box 112 (.agg [vi .i64 t29.2.2.blocks.sets.1.size, .sl 5 1 []])), (5, .row (.int .u64) 119 (t29.2.2.blocks.sets.1.words : List Int)), (6, .box 112 (.agg [vi .i64 t29.2.2.blocks.sets.2.1.size, .sl 7 1 []])), (7, .row (.int .u64) 119 (t29.2.2.blocks.sets.2.1.words : List Int)), (50, .box 112 (.agg [vi .i64 t29.2.2.blocks.sets.2.2.1.size, .sl 51 1 []])), (51, .row (.int .u64) 119 (t29.2.2.blocks.sets.2.2.1.words : List Int)), (10, .box 112 (.agg [vi .i64 t29.2.2.blocks.sets.2.2.2.size, .sl 11 1 []])), (11, .row (.int .u64) 119 (t29.2.2.blocks.sets.2.2.2.words : List Int))] 66 (by kernel_rfl) (by kernel_rfl) ?_
 refine t_reg cok ?_
 refine bi h (fun c31 h => ?_) (fun c31 h => ?_)
 ·skip
  refine bi h (fun c32 h => ?_) (fun c32 h => ?_)
  ·skip
   refine bi h (fun c33 h => ?_) (fun c33 h => ?_)
   ·skip
    refine bi h (fun c34 h => ?_) (fun c34 h => ?_)
    ·skip
     refine bi h (fun c35 h => ?_) (fun c35 h => ?_)
     ·skip
      exact fi h (by kernel_rfl)
     exact fi h (by kernel_rfl)
    exact fi h (by kernel_rfl)
   exact fi h (by kernel_rfl)
  exact fi h (by kernel_rfl)
 exact fi h (by kernel_rfl)
def shadow_Store_Drop.f (fu : Nat) (a0 : S_shadow_Store) (a1 : Int) : Option (Int × S_shadow_Store) := ((alloc_Alloc_Give.f fu a0.blocks a1).bind fun t1 => some (t1.1, (⟨a0.device, t1.2⟩ : S_shadow_Store)))
theorem shadow_Store_Drop.sc (fu : Nat) (a0 : S_shadow_Store) (a1 : Int) (r : Int × S_shadow_Store) (h : shadow_Store_Drop.f fu a0 a1 = some r) : SC Tryd.prog CT 21 [.ptr 0 0, vi .i64 a1] [.box 114 (.agg [.ptr 1 0, .ptr 4 0]), .box 105 (.agg [.sl 2 4 [], .agg [.sl 3 1 [], vi .i64 a0.device.plan.at_], vb a0.device.off, vb a0.device.armed, vi .i64 a0.device.left, vi .i64 a0.device.steps]), .row (.st .S_pmem_cell) 125 (a0.device.cells : List S_pmem_cell), .row (.int .i64) 3 (a0.device.plan.list : List Int), .box 108 (.agg [vi .i64 a0.blocks.reserve, .agg [.ptr 5 0, .ptr 7 0, .ptr 9 0, .ptr 11 0]]), .box 112 (.agg [vi .i64 a0.blocks.sets.1.size, .sl 6 1 []]), .row (.int .u64) 119 (a0.blocks.sets.1.words : List Int), .box 112 (.agg [vi .i64 a0.blocks.sets.2.1.size, .sl 8 1 []]), .row (.int .u64) 119 (a0.blocks.sets.2.1.words : List Int), .box 112 (.agg [vi .i64 a0.blocks.sets.2.2.1.size, .sl 10 1 []]), .row (.int .u64) 119 (a0.blocks.sets.2.2.1.words : List Int), .box 112 (.agg [vi .i64 a0.blocks.sets.2.2.2.size, .sl 12 1 []]), .row (.int .u64) 119 (a0.blocks.sets.2.2.2.words : List Int)] (vi .i64 r.1) [.box 114 (.agg [.ptr 1 0, .ptr 4 0]), .box 105 (.agg [.sl 2 4 [], .agg [.sl 3 1 [], vi .i64 r.2.device.plan.at_], vb r.2.device.off, vb r.2.device.armed, vi .i64 r.2.device.left, vi .i64 r.2.device.steps]), .row (.st .S_pmem_cell) 125 (r.2.device.cells : List S_pmem_cell), .row (.int .i64) 3 (r.2.device.plan.list : List Int), .box 108 (.agg [vi .i64 r.2.blocks.reserve, .agg [.ptr 5 0, .ptr 7 0, .ptr 9 0, .ptr 11 0]]), .box 112 (.agg [vi .i64 r.2.blocks.sets.1.size, .sl 6 1 []]), .row (.int .u64) 119 (r.2.blocks.sets.1.words : List Int), .box 112 (.agg [vi .i64 r.2.blocks.sets.2.1.size, .sl 8 1 []]), .row (.int .u64) 119 (r.2.blocks.sets.2.1.words : List Int), .box 112 (.agg [vi .i64 r.2.blocks.sets.2.2.1.size, .sl 10 1 []]), .row (.int .u64) 119 (r.2.blocks.sets.2.2.1.words : List Int), .box 112 (.agg [vi .i64 r.2.blocks.sets.2.2.2.size, .sl 12 1 []]), .row (.int .u64) 119 (r.2.blocks.sets.2.2.2.words : List Int)] := by
 unfold shadow_Store_Drop.f at h
 refine sc_of (r := r) (N := 11) (rs := [.tmp 4]) (V := fun (r : Int × S_shadow_Store) => vi .i64 r.1) (R' := fun (r : Int × S_shadow_Store) => [.box 114 (.agg [.ptr 1 0, .ptr 4 0]), .box 105 (.agg [.sl 2 4 [], .agg [.sl 3 1 [], vi .i64 r.2.device.plan.at_], vb r.2.device.off, vb r.2.device.armed, vi .i64 r.2.device.left, vi .i64 r.2.device.steps]), .row (.st .S_pmem_cell) 125 (r.2.device.cells : List S_pmem_cell), .row (.int .i64) 3 (r.2.device.plan.list : List Int), .box 108 (.agg [vi .i64 r.2.blocks.reserve, .agg [.ptr 5 0, .ptr 7 0, .ptr 9 0, .ptr 11 0]]), .box 112 (.agg [vi .i64 r.2.blocks.sets.1.size, .sl 6 1 []]), .row (.int .u64) 119 (r.2.blocks.sets.1.words : List Int), .box 112 (.agg [vi .i64 r.2.blocks.sets.2.1.size, .sl 8 1 []]), .row (.int .u64) 119 (r.2.blocks.sets.2.1.words : List Int), .box 112 (.agg [vi .i64 r.2.blocks.sets.2.2.1.size, .sl 10 1 []]), .row (.int .u64) 119 (r.2.blocks.sets.2.2.1.words : List Int), .box 112 (.agg [vi .i64 r.2.blocks.sets.2.2.2.size, .sl 12 1 []]), .row (.int .u64) 119 (r.2.blocks.sets.2.2.2.words : List Int)]) cok Tryd.func21 rfl rfl rfl (by kernel_rfl) (by kernel_rfl) rfl rfl fun X => ?_
 refine bk h fun t1 k2 h => ?_
 refine cl3 cok.g (alloc_Alloc_Give.sc fu a0.blocks a1 _ k2) (vi .i64 t1.1) [(4, .box 108 (.agg [vi .i64 t1.2.reserve, .agg [.ptr 5 0, .ptr 7 0, .ptr 9 0, .ptr 11 0]])), (5, .box 112 (.agg [vi .i64 t1.2.sets.1.size, .sl 6 1 []])), (6, .row (.int .u64) 119 (t1.2.sets.1.words : List Int)), (7, .box 112 (.agg [vi .i64 t1.2.sets.2.1.size, .sl 8 1 []])), (8, .row (.int .u64) 119 (t1.2.sets.2.1.words : List Int)), (9, .box 112 (.agg [vi .i64 t1.2.sets.2.2.1.size, .sl 10 1 []])), (10, .row (.int .u64) 119 (t1.2.sets.2.2.1.words : List Int)), (11, .box 112 (.agg [vi .i64 t1.2.sets.2.2.2.size, .sl 12 1 []])), (12, .row (.int .u64) 119 (t1.2.sets.2.2.2.words : List Int))] 22 (by kernel_rfl) (by kernel_rfl) ?_
 exact fi h (by kernel_rfl)
def octet_Lay.s0 (fu : Nat) (a1 : Int) : (Int × Int × (List Int)) → Option (Sum (List Int) (Int × Int × (List Int))) := fun s3 => (if (decide (s3.2.1 < (List.length (List.replicate (Int.toNat a1) (0 : Int)) : Int))) = true then if 0 ≤ s3.2.1 ∧ s3.2.1 < (List.length s3.2.2 : Int) then some (Sum.inr ((shR .u64 s3.1 8), (IntKind.i64.wrap (s3.2.1 + 1)), (List.set s3.2.2 (Int.toNat s3.2.1) (IntKind.u8.wrap s3.1)))) else none else some (Sum.inl (s3.2.2)))
def octet_Lay.f (fu : Nat) (a0 : Int) (a1 : Int) : Option (List Int) := (if (decide (a1 < 0)) = true then some ([]) else (if (decide (a1 > 8)) = true then some ([]) else if 0 ≤ a1 ∧ Int.toNat a1 ≤ LIM then ((loopM (octet_Lay.s0 fu a1) fu (a0, 0, (List.replicate (Int.toNat a1) (0 : Int)))).bind fun e4 => some (e4)) else none))
theorem octet_Lay.sc (fu : Nat) (a0 : Int) (a1 : Int) (r : (List Int)) (h : octet_Lay.f fu a0 a1 = some r) : SC Tryd.prog CT 108 [vi .u64 a0, vi .i64 a1] [] (.sl 0 1 []) [.row (.int .u8) 5 (r : List Int)] := by
 unfold octet_Lay.f at h
 refine sc_of (r := r) (N := 29) (rs := [.tmp 4]) (V := fun (r : (List Int)) => .sl 0 1 []) (R' := fun (r : (List Int)) => [.row (.int .u8) 5 (r : List Int)]) cok Tryd.func108 rfl rfl rfl (by kernel_rfl) (by kernel_rfl) rfl rfl fun X => ?_
 refine t_reg cok ?_
 refine bi h (fun c1 h => ?_) (fun c1 h => ?_)
 ·skip
  refine t_cond cok ?_
  exact fi h (by kernel_rfl)
 refine t_cond cok ?_
 refine bi h (fun c2 h => ?_) (fun c2 h => ?_)
 ·skip
  exact fi h (by kernel_rfl)
 refine agL h rfl fun h => ?_
 refine bk h fun e4 l5 h => ?_
 refine t_cutx cok 0 (fun (e4 : (List Int)) => ⟨[(5, .sl 0 1 [])], [.row (.int .u8) 5 (e4 : List Int)]⟩) e4 ?_ ?_
 ·skip
  have h6 := h
  refine t_loop cok (fun (s3 : Int × Int × (List Int)) => ⟨[(0, vi .u64 s3.1), (5, .sl 0 1 []), (16, vi .i64 (List.length (List.replicate (Int.toNat a1) (0 : Int)) : Int)), (17, vi .i64 s3.2.1)], [.row (.int .u8) 5 (s3.2.2 : List Int)]⟩) l5 (by kernel_rfl) (fun s3 x7 h => ?_)
  unfold octet_Lay.s0 at h
  refine t_cond cok ?_
  refine bi h (fun c8 h => ?_) (fun c8 h => ?_)
  ·skip
   refine ag h fun h => ?_
   refine ⟨by decide, ?_⟩
   exact lpi h (by kernel_rfl)
  exact lpx h (fun hy => em (sj hy) (by kernel_rfl))
 exact fi h (by kernel_rfl)
def octet_Octets.s0 (fu : Nat) (a0 : List Int) : ((List Int) × Int) → Option (Sum (List Int) ((List Int) × Int)) := fun s1 => (if (decide (s1.2 < (List.length a0 : Int))) = true then if 0 ≤ s1.2 ∧ s1.2 < (List.length a0 : Int) then ((octet_Lay.f fu (ix a0 s1.2) 8).bind fun t7 => if List.length s1.1 + List.length t7 ≤ LIM then some (Sum.inr ((s1.1 ++ t7), (IntKind.i64.wrap (s1.2 + 1)))) else none) else none else some (Sum.inl (s1.1)))
def octet_Octets.f (fu : Nat) (a0 : List Int) : Option (List Int) := ((loopM (octet_Octets.s0 fu a0) fu (([] : List Int), 0)).bind fun e2 => some (e2))
theorem octet_Octets.sc (fu : Nat) (a0 : List Int) (r : (List Int)) (h : octet_Octets.f fu a0 = some r) : SC Tryd.prog CT 96 [.v (.sl (.int .u64)) (a0 : List Int)] [] (.sl 0 1 []) [.row (.int .u8) 5 (r : List Int)] := by
 unfold octet_Octets.f at h
 refine sc_of (r := r) (N := 18) (rs := [.tmp 2]) (V := fun (r : (List Int)) => .sl 0 1 []) (R' := fun (r : (List Int)) => [.row (.int .u8) 5 (r : List Int)]) cok Tryd.func96 rfl rfl rfl (by kernel_rfl) (by kernel_rfl) rfl rfl fun X => ?_
 refine bk h fun e2 l3 h => ?_
 refine t_cutx cok 0 (fun (e2 : (List Int)) => ⟨[(3, .sl 0 1 [])], [.row (.int .u8) 5 (e2 : List Int)]⟩) e2 ?_ ?_
 ·skip
  have h4 := h
  refine t_loop cok (fun (s1 : (List Int) × Int) => ⟨[(3, .sl 0 1 []), (6, .v (.sl (.int .u64)) (a0 : List Int)), (7, vi .i64 (List.length a0 : Int)), (8, vi .i64 s1.2)], [.row (.int .u8) 5 (s1.1 : List Int)]⟩) l3 (by kernel_rfl) (fun s1 x5 h => ?_)
  unfold octet_Octets.s0 at h
  refine t_cond cok ?_
  refine bi h (fun c6 h => ?_) (fun c6 h => ?_)
  ·skip
   refine ag h fun h => ?_
   refine bk h fun t7 k8 h => ?_
   refine cl3 cok.g (octet_Lay.sc fu (ix a0 s1.2) 8 _ k8) (.sl 1 1 []) [(1, .row (.int .u8) 5 (t7 : List Int))] 2 (by kernel_rfl) (by kernel_rfl) ?_
   refine ag h fun h => ?_
   exact lpi h (by kernel_rfl)
  exact lpx h (fun hy => em (sj hy) (by kernel_rfl))
 exact fi h (by kernel_rfl)
def pmem_Device_Load.f (fu : Nat) (a0 : S_pmem_Device) (a1 : Int) : Option (Int × Int) := ((pmem_Device_may.f fu a0 a1 (List.length a0.cells : Int)).bind fun t1 => (if (!decide (t1 = 0)) = true then some (0, t1) else if 0 ≤ a1 ∧ a1 < (List.length a0.cells : Int) then some ((ix a0.cells a1).stored, 0) else none))
theorem pmem_Device_Load.sc (fu : Nat) (a0 : S_pmem_Device) (a1 : Int) (r : Int × Int) (h : pmem_Device_Load.f fu a0 a1 = some r) : SC Tryd.prog CT 95 [.ptr 0 0, vi .i64 a1] [.box 105 (.agg [.sl 1 4 [], .agg [.sl 2 1 [], vi .i64 a0.plan.at_], vb a0.off, vb a0.armed, vi .i64 a0.left, vi .i64 a0.steps]), .row (.st .S_pmem_cell) 125 (a0.cells : List S_pmem_cell), .row (.int .i64) 3 (a0.plan.list : List Int)] (.tup [vi .u64 r.1, vi .i64 r.2]) [.box 105 (.agg [.sl 1 4 [], .agg [.sl 2 1 [], vi .i64 a0.plan.at_], vb a0.off, vb a0.armed, vi .i64 a0.left, vi .i64 a0.steps]), .row (.st .S_pmem_cell) 125 (a0.cells : List S_pmem_cell), .row (.int .i64) 3 (a0.plan.list : List Int)] := by
 unfold pmem_Device_Load.f at h
 refine sc_of (r := r) (N := 26) (rs := [.tmp 4, .tmp 5]) (V := fun (r : Int × Int) => .tup [vi .u64 r.1, vi .i64 r.2]) (R' := fun (r : Int × Int) => [.box 105 (.agg [.sl 1 4 [], .agg [.sl 2 1 [], vi .i64 a0.plan.at_], vb a0.off, vb a0.armed, vi .i64 a0.left, vi .i64 a0.steps]), .row (.st .S_pmem_cell) 125 (a0.cells : List S_pmem_cell), .row (.int .i64) 3 (a0.plan.list : List Int)]) cok Tryd.func95 rfl rfl rfl (by kernel_rfl) (by kernel_rfl) rfl rfl fun X => ?_
 refine bk h fun t1 k2 h => ?_
 refine cl3 cok.g (pmem_Device_may.sc fu a0 a1 (List.length a0.cells : Int) _ k2) (vi .i64 t1) [(0, .box 105 (.agg [.sl 1 4 [], .agg [.sl 2 1 [], vi .i64 a0.plan.at_], vb a0.off, vb a0.armed, vi .i64 a0.left, vi .i64 a0.steps])), (1, .row (.st .S_pmem_cell) 125 (a0.cells : List S_pmem_cell)), (2, .row (.int .i64) 3 (a0.plan.list : List Int))] 6 (by kernel_rfl) (by kernel_rfl) ?_
 refine t_cond cok ?_
 refine bi h (fun c3 h => ?_) (fun c3 h => ?_)
 ·skip
  exact fi h (by kernel_rfl)
 refine ag h fun h => ?_
 exact fi h (by kernel_rfl)
def press_Read.s0 (fu : Nat) (a0 : S_pmem_Device) (a1 : Int) : (Int × (Arr 8 Int)) → Option (Sum (Sum ((List Int) × Int) (Arr 8 Int)) (Int × (Arr 8 Int))) := fun s4 => (if (decide (s4.1 < 8)) = true then ((pmem_Device_Load.f fu a0 (IntKind.i64.wrap ((IntKind.i64.wrap (a1 * 8)) + s4.1))).bind fun t11 => (if (!decide (t11.2 = 0)) = true then some (Sum.inl (Sum.inl ([], t11.2))) else if 0 ≤ s4.1 ∧ s4.1 < 8 then some (Sum.inr ((IntKind.i64.wrap (s4.1 + 1)), (Arr.set s4.2 s4.1 t11.1))) else none)) else some (Sum.inl (Sum.inr (s4.2))))
def press_Read.f (fu : Nat) (a0 : S_pmem_Device) (a1 : Int) : Option ((List Int) × Int) := ((press_may.f fu a0 a1).bind fun t1 => (if (!decide (t1 = 0)) = true then some ([], t1) else ((loopM (press_Read.s0 fu a0 a1) fu (0, (Arr.rep 8 (0 : Int)))).bind fun e5 => match e5 with | Sum.inl p => some p | Sum.inr x7 => ((octet_Octets.f fu (Arr.l x7)).bind fun t14 => some (t14, 0)))))
theorem press_Read.sc (fu : Nat) (a0 : S_pmem_Device) (a1 : Int) (r : (List Int) × Int) (h : press_Read.f fu a0 a1 = some r) : SC Tryd.prog CT 63 [.ptr 0 0, vi .i64 a1] [.box 105 (.agg [.sl 1 4 [], .agg [.sl 2 1 [], vi .i64 a0.plan.at_], vb a0.off, vb a0.armed, vi .i64 a0.left, vi .i64 a0.steps]), .row (.st .S_pmem_cell) 125 (a0.cells : List S_pmem_cell), .row (.int .i64) 3 (a0.plan.list : List Int)] (.tup [.sl 3 1 [], vi .i64 r.2]) [.box 105 (.agg [.sl 1 4 [], .agg [.sl 2 1 [], vi .i64 a0.plan.at_], vb a0.off, vb a0.armed, vi .i64 a0.left, vi .i64 a0.steps]), .row (.st .S_pmem_cell) 125 (a0.cells : List S_pmem_cell), .row (.int .i64) 3 (a0.plan.list : List Int), .row (.int .u8) 5 (r.1 : List Int)] := by
 unfold press_Read.f at h
 refine sc_of (r := r) (N := 38) (rs := [.tmp 4, .tmp 5]) (V := fun (r : (List Int) × Int) => .tup [.sl 3 1 [], vi .i64 r.2]) (R' := fun (r : (List Int) × Int) => [.box 105 (.agg [.sl 1 4 [], .agg [.sl 2 1 [], vi .i64 a0.plan.at_], vb a0.off, vb a0.armed, vi .i64 a0.left, vi .i64 a0.steps]), .row (.st .S_pmem_cell) 125 (a0.cells : List S_pmem_cell), .row (.int .i64) 3 (a0.plan.list : List Int), .row (.int .u8) 5 (r.1 : List Int)]) cok Tryd.func63 rfl rfl rfl (by kernel_rfl) (by kernel_rfl) rfl rfl fun X => ?_
 refine bk h fun t1 k2 h => ?_
 refine cl3 cok.g (press_may.sc fu a0 a1 _ k2) (vi .i64 t1) [(0, .box 105 (.agg [.sl 1 4 [], .agg [.sl 2 1 [], vi .i64 a0.plan.at_], vb a0.off, vb a0.armed, vi .i64 a0.left, vi .i64 a0.steps])), (1, .row (.st .S_pmem_cell) 125 (a0.cells : List S_pmem_cell)), (2, .row (.int .i64) 3 (a0.plan.list : List Int))] 6 (by kernel_rfl) (by kernel_rfl) ?_
 refine t_cond cok ?_
 refine bi h (fun c3 h => ?_) (fun c3 h => ?_)
 ·skip
  exact fi h (by kernel_rfl)
 refine bk h fun e5 l6 h => ?_
 refine t_cutxS cok 0 (fun (x7 : (Arr 8 Int)) => ⟨[(7, .ptr 3 0)], [.box 105 (.agg [.sl 1 4 [], .agg [.sl 2 1 [], vi .i64 a0.plan.at_], vb a0.off, vb a0.armed, vi .i64 a0.left, vi .i64 a0.steps]), .row (.st .S_pmem_cell) 125 (a0.cells : List S_pmem_cell), .row (.int .i64) 3 (a0.plan.list : List Int), .box 153 (.v (.arr 8 (.int .u64)) (x7 : Arr 8 Int))]⟩) e5 ?_ (fun x7 hy => ?_)
 ·skip
  have h8 := h
  refine t_loop cok (fun (s4 : Int × (Arr 8 Int)) => ⟨[(0, .ptr 0 0), (1, vi .i64 a1), (7, .ptr 3 0), (17, vi .i64 s4.1)], [.box 105 (.agg [.sl 1 4 [], .agg [.sl 2 1 [], vi .i64 a0.plan.at_], vb a0.off, vb a0.armed, vi .i64 a0.left, vi .i64 a0.steps]), .row (.st .S_pmem_cell) 125 (a0.cells : List S_pmem_cell), .row (.int .i64) 3 (a0.plan.list : List Int), .box 153 (.v (.arr 8 (.int .u64)) (s4.2 : Arr 8 Int))]⟩) l6 (by kernel_rfl) (fun s4 x9 h => ?_)
  unfold press_Read.s0 at h
  refine t_cond cok ?_
  refine bi h (fun c10 h => ?_) (fun c10 h => ?_)
  ·skip
   refine bk h fun t11 k12 h => ?_
   refine cl3 cok.g (pmem_Device_Load.sc fu a0 (IntKind.i64.wrap ((IntKind.i64.wrap (a1 * 8)) + s4.1)) _ k12) (.tup [vi .u64 t11.1, vi .i64 t11.2]) [(0, .box 105 (.agg [.sl 1 4 [], .agg [.sl 2 1 [], vi .i64 a0.plan.at_], vb a0.off, vb a0.armed, vi .i64 a0.left, vi .i64 a0.steps])), (1, .row (.st .S_pmem_cell) 125 (a0.cells : List S_pmem_cell)), (2, .row (.int .i64) 3 (a0.plan.list : List Int))] 7 (by kernel_rfl) (by kernel_rfl) ?_
   refine t_cond cok ?_
   refine bi h (fun c13 h => ?_) (fun c13 h => ?_)
   ·skip
    refine lpr h (fun hy => ?_)
    have h := h8
    rw [← hy] at h
    exact fi h (by kernel_rfl)
   refine ag h fun h => ?_
   exact lpi h (by kernel_rfl)
  exact lpx h (fun hy => ems (sj hy) (by kernel_rfl))
 subst hy
 refine bk h fun t14 k15 h => ?_
 refine cl3 cok.g (octet_Octets.sc fu (Arr.l x7) _ k15) (.sl 4 1 []) [(4, .row (.int .u8) 5 (t14 : List Int))] 5 (by kernel_rfl) (by kernel_rfl) ?_
 exact fi h (by kernel_rfl)
def shadow_Store_Get.f (fu : Nat) (a0 : S_shadow_Store) (a1 : Int) : Option ((List Int) × Int) := ((press_Read.f fu a0.device a1).bind fun t1 => some (t1.1, t1.2))
theorem shadow_Store_Get.sc (fu : Nat) (a0 : S_shadow_Store) (a1 : Int) (r : (List Int) × Int) (h : shadow_Store_Get.f fu a0 a1 = some r) : SC Tryd.prog CT 20 [.ptr 0 0, vi .i64 a1] [.box 114 (.agg [.ptr 1 0, .ptr 4 0]), .box 105 (.agg [.sl 2 4 [], .agg [.sl 3 1 [], vi .i64 a0.device.plan.at_], vb a0.device.off, vb a0.device.armed, vi .i64 a0.device.left, vi .i64 a0.device.steps]), .row (.st .S_pmem_cell) 125 (a0.device.cells : List S_pmem_cell), .row (.int .i64) 3 (a0.device.plan.list : List Int), .box 108 (.agg [vi .i64 a0.blocks.reserve, .agg [.ptr 5 0, .ptr 7 0, .ptr 9 0, .ptr 11 0]]), .box 112 (.agg [vi .i64 a0.blocks.sets.1.size, .sl 6 1 []]), .row (.int .u64) 119 (a0.blocks.sets.1.words : List Int), .box 112 (.agg [vi .i64 a0.blocks.sets.2.1.size, .sl 8 1 []]), .row (.int .u64) 119 (a0.blocks.sets.2.1.words : List Int), .box 112 (.agg [vi .i64 a0.blocks.sets.2.2.1.size, .sl 10 1 []]), .row (.int .u64) 119 (a0.blocks.sets.2.2.1.words : List Int), .box 112 (.agg [vi .i64 a0.blocks.sets.2.2.2.size, .sl 12 1 []]), .row (.int .u64) 119 (a0.blocks.sets.2.2.2.words : List Int)] (.tup [.sl 13 1 [], vi .i64 r.2]) [.box 114 (.agg [.ptr 1 0, .ptr 4 0]), .box 105 (.agg [.sl 2 4 [], .agg [.sl 3 1 [], vi .i64 a0.device.plan.at_], vb a0.device.off, vb a0.device.armed, vi .i64 a0.device.left, vi .i64 a0.device.steps]), .row (.st .S_pmem_cell) 125 (a0.device.cells : List S_pmem_cell), .row (.int .i64) 3 (a0.device.plan.list : List Int), .box 108 (.agg [vi .i64 a0.blocks.reserve, .agg [.ptr 5 0, .ptr 7 0, .ptr 9 0, .ptr 11 0]]), .box 112 (.agg [vi .i64 a0.blocks.sets.1.size, .sl 6 1 []]), .row (.int .u64) 119 (a0.blocks.sets.1.words : List Int), .box 112 (.agg [vi .i64 a0.blocks.sets.2.1.size, .sl 8 1 []]), .row (.int .u64) 119 (a0.blocks.sets.2.1.words : List Int), .box 112 (.agg [vi .i64 a0.blocks.sets.2.2.1.size, .sl 10 1 []]), .row (.int .u64) 119 (a0.blocks.sets.2.2.1.words : List Int), .box 112 (.agg [vi .i64 a0.blocks.sets.2.2.2.size, .sl 12 1 []]), .row (.int .u64) 119 (a0.blocks.sets.2.2.2.words : List Int), .row (.int .u8) 5 (r.1 : List Int)] := by
 unfold shadow_Store_Get.f at h
 refine sc_of (r := r) (N := 14) (rs := [.tmp 4, .tmp 5]) (V := fun (r : (List Int) × Int) => .tup [.sl 13 1 [], vi .i64 r.2]) (R' := fun (r : (List Int) × Int) => [.box 114 (.agg [.ptr 1 0, .ptr 4 0]), .box 105 (.agg [.sl 2 4 [], .agg [.sl 3 1 [], vi .i64 a0.device.plan.at_], vb a0.device.off, vb a0.device.armed, vi .i64 a0.device.left, vi .i64 a0.device.steps]), .row (.st .S_pmem_cell) 125 (a0.device.cells : List S_pmem_cell), .row (.int .i64) 3 (a0.device.plan.list : List Int), .box 108 (.agg [vi .i64 a0.blocks.reserve, .agg [.ptr 5 0, .ptr 7 0, .ptr 9 0, .ptr 11 0]]), .box 112 (.agg [vi .i64 a0.blocks.sets.1.size, .sl 6 1 []]), .row (.int .u64) 119 (a0.blocks.sets.1.words : List Int), .box 112 (.agg [vi .i64 a0.blocks.sets.2.1.size, .sl 8 1 []]), .row (.int .u64) 119 (a0.blocks.sets.2.1.words : List Int), .box 112 (.agg [vi .i64 a0.blocks.sets.2.2.1.size, .sl 10 1 []]), .row (.int .u64) 119 (a0.blocks.sets.2.2.1.words : List Int), .box 112 (.agg [vi .i64 a0.blocks.sets.2.2.2.size, .sl 12 1 []]), .row (.int .u64) 119 (a0.blocks.sets.2.2.2.words : List Int), .row (.int .u8) 5 (r.1 : List Int)]) cok Tryd.func20 rfl rfl rfl (by kernel_rfl) (by kernel_rfl) rfl rfl fun X => ?_
 refine bk h fun t1 k2 h => ?_
 refine cl3 cok.g (press_Read.sc fu a0.device a1 _ k2) (.tup [.sl 16 1 [], vi .i64 t1.2]) [(1, .box 105 (.agg [.sl 2 4 [], .agg [.sl 3 1 [], vi .i64 a0.device.plan.at_], vb a0.device.off, vb a0.device.armed, vi .i64 a0.device.left, vi .i64 a0.device.steps])), (2, .row (.st .S_pmem_cell) 125 (a0.device.cells : List S_pmem_cell)), (3, .row (.int .i64) 3 (a0.device.plan.list : List Int)), (16, .row (.int .u8) 5 (t1.1 : List Int))] 17 (by kernel_rfl) (by kernel_rfl) ?_
 exact fi h (by kernel_rfl)
def rickyardlaw19_ShadowTurns.f (fu : Nat) (a0 : Arr 2 (Arr 64 Int)) (a1 : Bool) : Option Bool := ((rickyardlaw19_awake.f fu).bind fun t1 => (if (!t1) = true then some (false) else ((rickyardlaw19_Made.f fu 9 0).bind fun t4 => (Option.elim t4.1 ((Option.elim t4.2.1 ((Option.elim t4.2.2 (some (false)) (fun o10 => some (false)))) (fun o8 => (Option.elim t4.2.2 (some (false)) (fun o12 => some (false)))))) (fun o6 => (Option.elim t4.2.1 ((Option.elim t4.2.2 (none) (fun o16 => none))) (fun o14 => (Option.elim t4.2.2 (none) (fun o18 => ((shadow_Store_Make.f fu (⟨o14, o18⟩ : S_shadow_Store) (Arr.l (Arr.get a0 0))).bind fun t20 => (((if a1 = true then ((alloc_Alloc_Mark.f fu t20.2.2.blocks).bind fun t26 => some ((⟨t20.2.2.device, t26⟩ : S_shadow_Store))) else some (t20.2.2)) : Option S_shadow_Store).bind fun x22 => ((shadow_Store_Turn.f fu x22 t20.1 (Arr.l (Arr.get a0 1))).bind fun t28 => ((shadow_Store_Get.f fu t28.2.2 t28.1).bind fun t30 => (if (!decide (t20.2.1 = 0)) = true then some (false) else (if (!decide (t28.2.1 = 0)) = true then some (false) else (if (!decide (t30.2 = 0)) = true then some (false) else (if (!decide ((List.map toB t30.1) = (List.map toB (Arr.l (Arr.get a0 1))))) = true then some (false) else (if (decide ((decide (t20.1 = t28.1)) = a1)) = true then some (false) else ((shadow_Store_Turn.f fu t28.2.2 1000 (Arr.l (Arr.get a0 0))).bind fun t37 => ((shadow_Store_Turn.f fu t37.2.2 t28.1 (cut (Arr.l (Arr.get a0 0)) 0 63)).bind fun t39 => (if (decide (t37.2.1 = 2)) = true then (if (decide (t39.2.1 = 2)) = true then ((shadow_Store_Drop.f fu t39.2.2 t28.1).bind fun t43 => (if (decide (t43.1 = 0)) = true then ((shadow_Store_Drop.f fu t43.2 t20.1).bind fun t46 => some ((decide (t46.1 = 2)))) else some (false))) else some (false)) else some (false))))))))))))))))))))))
theorem rickyardlaw19_ShadowTurns.sc (fu : Nat) (a0 : Arr 2 (Arr 64 Int)) (a1 : Bool) (r : Bool) (h : rickyardlaw19_ShadowTurns.f fu a0 a1 = some r) : SC Tryd.prog CT 4 [.v (.arr 2 (.arr 64 (.int .u8))) (a0 : Arr 2 (Arr 64 Int)), vb a1] [] (vb r) [] := by
 unfold rickyardlaw19_ShadowTurns.f at h
 refine sc_of (r := r) (N := 113) (rs := [.tmp 4]) (V := fun (r : Bool) => vb r) (R' := fun (r : Bool) => []) cok Tryd.func4 rfl rfl rfl (by kernel_rfl) (by kernel_rfl) rfl rfl fun X => ?_
 refine bk h fun t1 k2 h => ?_
 refine cl3 cok.g (rickyardlaw19_awake.sc fu _ k2) (vb t1) [] 1 (by kernel_rfl) (by kernel_rfl) ?_
 refine t_cond cok ?_
 refine bi h (fun c3 h => ?_) (fun c3 h => ?_)
 ·skip
  exact fi h (by kernel_rfl)
 refine bk h fun t4 k5 h => ?_
 refine oe (x := t4.1) h (fun q7 h => ?_) (fun o6 q7 h => ?_)
 ·skip
  refine oe (x := t4.2.1) h (fun q9 h => ?_) (fun o8 q9 h => ?_)
  ·skip
   refine oe (x := t4.2.2) h (fun q11 h => ?_) (fun o10 q11 h => ?_)
   ·skip
    refine cl3 cok.g (rickyardlaw19_Made.scnnn fu 9 0 _ k5 q7 q9 q11) (.tup [.nilp, .nilp, .nilp]) [] 1 (by kernel_rfl) (by kernel_rfl) ?_
    refine t_reg cok ?_
    refine t_cond cok ?_
    exact fi h (by kernel_rfl)
   refine cl3 cok.g (rickyardlaw19_Made.scnns fu 9 0 _ k5 q7 q9 o10 q11) (.tup [.nilp, .nilp, .ptr 1 0]) [(1, .box 108 (.agg [vi .i64 o10.reserve, .agg [.ptr 2 0, .ptr 4 0, .ptr 6 0, .ptr 8 0]])), (2, .box 112 (.agg [vi .i64 o10.sets.1.size, .sl 3 1 []])), (3, .row (.int .u64) 119 (o10.sets.1.words : List Int)), (4, .box 112 (.agg [vi .i64 o10.sets.2.1.size, .sl 5 1 []])), (5, .row (.int .u64) 119 (o10.sets.2.1.words : List Int)), (6, .box 112 (.agg [vi .i64 o10.sets.2.2.1.size, .sl 7 1 []])), (7, .row (.int .u64) 119 (o10.sets.2.2.1.words : List Int)), (8, .box 112 (.agg [vi .i64 o10.sets.2.2.2.size, .sl 9 1 []])), (9, .row (.int .u64) 119 (o10.sets.2.2.2.words : List Int))] 10 (by kernel_rfl) (by kernel_rfl) ?_
   refine t_reg cok ?_
   refine t_cond cok ?_
   exact fi h (by kernel_rfl)
  refine oe (x := t4.2.2) h (fun q13 h => ?_) (fun o12 q13 h => ?_)
  ·skip
   refine cl3 cok.g (rickyardlaw19_Made.scnsn fu 9 0 _ k5 q7 o8 q9 q13) (.tup [.nilp, .ptr 1 0, .nilp]) [(1, .box 105 (.agg [.sl 2 4 [], .agg [.sl 3 1 [], vi .i64 o8.plan.at_], vb o8.off, vb o8.armed, vi .i64 o8.left, vi .i64 o8.steps])), (2, .row (.st .S_pmem_cell) 125 (o8.cells : List S_pmem_cell)), (3, .row (.int .i64) 3 (o8.plan.list : List Int))] 4 (by kernel_rfl) (by kernel_rfl) ?_
   refine t_reg cok ?_
   refine t_cond cok ?_
   exact fi h (by kernel_rfl)
  refine cl3 cok.g (rickyardlaw19_Made.scnss fu 9 0 _ k5 q7 o8 q9 o12 q13) (.tup [.nilp, .ptr 1 0, .ptr 4 0]) [(1, .box 105 (.agg [.sl 2 4 [], .agg [.sl 3 1 [], vi .i64 o8.plan.at_], vb o8.off, vb o8.armed, vi .i64 o8.left, vi .i64 o8.steps])), (2, .row (.st .S_pmem_cell) 125 (o8.cells : List S_pmem_cell)), (3, .row (.int .i64) 3 (o8.plan.list : List Int)), (4, .box 108 (.agg [vi .i64 o12.reserve, .agg [.ptr 5 0, .ptr 7 0, .ptr 9 0, .ptr 11 0]])), (5, .box 112 (.agg [vi .i64 o12.sets.1.size, .sl 6 1 []])), (6, .row (.int .u64) 119 (o12.sets.1.words : List Int)), (7, .box 112 (.agg [vi .i64 o12.sets.2.1.size, .sl 8 1 []])), (8, .row (.int .u64) 119 (o12.sets.2.1.words : List Int)), (9, .box 112 (.agg [vi .i64 o12.sets.2.2.1.size, .sl 10 1 []])), (10, .row (.int .u64) 119 (o12.sets.2.2.1.words : List Int)), (11, .box 112 (.agg [vi .i64 o12.sets.2.2.2.size, .sl 12 1 []])), (12, .row (.int .u64) 119 (o12.sets.2.2.2.words : List Int))] 13 (by kernel_rfl) (by kernel_rfl) ?_
  refine t_reg cok ?_
  refine t_cond cok ?_
  exact fi h (by kernel_rfl)
 refine oe (x := t4.2.1) h (fun q15 h => ?_) (fun o14 q15 h => ?_)
 ·skip
  refine oe (x := t4.2.2) h (fun q17 h => ?_) (fun o16 q17 h => ?_)
  ·skip
   cases h
  cases h
 refine oe (x := t4.2.2) h (fun q19 h => ?_) (fun o18 q19 h => ?_)
 ·skip
  cases h
 refine cl3 cok.g (rickyardlaw19_Made.scsss fu 9 0 _ k5 o6 q7 o14 q15 o18 q19) (.tup [.ptr 13 0, .ptr 1 0, .ptr 4 0]) [(1, .box 105 (.agg [.sl 2 4 [], .agg [.sl 3 1 [], vi .i64 o14.plan.at_], vb o14.off, vb o14.armed, vi .i64 o14.left, vi .i64 o14.steps])), (2, .row (.st .S_pmem_cell) 125 (o14.cells : List S_pmem_cell)), (3, .row (.int .i64) 3 (o14.plan.list : List Int)), (4, .box 108 (.agg [vi .i64 o18.reserve, .agg [.ptr 5 0, .ptr 7 0, .ptr 9 0, .ptr 11 0]])), (5, .box 112 (.agg [vi .i64 o18.sets.1.size, .sl 6 1 []])), (6, .row (.int .u64) 119 (o18.sets.1.words : List Int)), (7, .box 112 (.agg [vi .i64 o18.sets.2.1.size, .sl 8 1 []])), (8, .row (.int .u64) 119 (o18.sets.2.1.words : List Int)), (9, .box 112 (.agg [vi .i64 o18.sets.2.2.1.size, .sl 10 1 []])), (10, .row (.int .u64) 119 (o18.sets.2.2.1.words : List Int)), (11, .box 112 (.agg [vi .i64 o18.sets.2.2.2.size, .sl 12 1 []])), (12, .row (.int .u64) 119 (o18.sets.2.2.2.words : List Int)), (13, .box 114 (.agg [.ptr 1 0, .ptr 4 0]))] 14 (by kernel_rfl) (by kernel_rfl) ?_
 refine t_reg cok ?_
 refine t_cond cok ?_
 refine ⟨by decide, ?_⟩
 refine bk h fun t20 k21 h => ?_
 refine cl3 cok.g (shadow_Store_Make.sc fu (⟨o14, o18⟩ : S_shadow_Store) (Arr.l (Arr.get a0 0)) _ k21) (.tup [vi .i64 t20.1, vi .i64 t20.2.1]) [(13, .box 114 (.agg [.ptr 1 0, .ptr 4 0])), (1, .box 105 (.agg [.sl 2 4 [], .agg [.sl 3 1 [], vi .i64 t20.2.2.device.plan.at_], vb t20.2.2.device.off, vb t20.2.2.device.armed, vi .i64 t20.2.2.device.left, vi .i64 t20.2.2.device.steps])), (2, .row (.st .S_pmem_cell) 125 (t20.2.2.device.cells : List S_pmem_cell)), (3, .row (.int .i64) 3 (t20.2.2.device.plan.list : List Int)), (4, .box 108 (.agg [vi .i64 t20.2.2.blocks.reserve, .agg [.ptr 5 0, .ptr 7 0, .ptr 9 0, .ptr 11 0]])), (5, .box 112 (.agg [vi .i64 t20.2.2.blocks.sets.1.size, .sl 6 1 []])), (6, .row (.int .u64) 119 (t20.2.2.blocks.sets.1.words : List Int)), (7, .box 112 (.agg [vi .i64 t20.2.2.blocks.sets.2.1.size, .sl 8 1 []])), (8, .row (.int .u64) 119 (t20.2.2.blocks.sets.2.1.words : List Int)), (9, .box 112 (.agg [vi .i64 t20.2.2.blocks.sets.2.2.1.size, .sl 10 1 []])), (10, .row (.int .u64) 119 (t20.2.2.blocks.sets.2.2.1.words : List Int)), (11, .box 112 (.agg [vi .i64 t20.2.2.blocks.sets.2.2.2.size, .sl 12 1 []])), (12, .row (.int .u64) 119 (t20.2.2.blocks.sets.2.2.2.words : List Int))] 27 (by kernel_rfl) (by kernel_rfl) ?_
 refine bk h fun x22 j23 h => ?_
 refine t_cut cok (fun (x22 : S_shadow_Store) => ⟨[(1, vb a1), (2, .ptr 0 0), (5, .ptr 1 0), (8, vi .i64 t20.1), (9, vi .i64 t20.2.1)], [.box 38 (.v (.arr 2 (.arr 64 (.int .u8))) (a0 : Arr 2 (Arr 64 Int))), .box 114 (.agg [.ptr 2 0, .ptr 5 0]), .box 105 (.agg [.sl 3 4 [], .agg [.sl 4 1 [], vi .i64 x22.device.plan.at_], vb x22.device.off, vb x22.device.armed, vi .i64 x22.device.left, vi .i64 x22.device.steps]), .row (.st .S_pmem_cell) 125 (x22.device.cells : List S_pmem_cell), .row (.int .i64) 3 (x22.device.plan.list : List Int), .box 108 (.agg [vi .i64 x22.blocks.reserve, .agg [.ptr 6 0, .ptr 8 0, .ptr 10 0, .ptr 12 0]]), .box 112 (.agg [vi .i64 x22.blocks.sets.1.size, .sl 7 1 []]), .row (.int .u64) 119 (x22.blocks.sets.1.words : List Int), .box 112 (.agg [vi .i64 x22.blocks.sets.2.1.size, .sl 9 1 []]), .row (.int .u64) 119 (x22.blocks.sets.2.1.words : List Int), .box 112 (.agg [vi .i64 x22.blocks.sets.2.2.1.size, .sl 11 1 []]), .row (.int .u64) 119 (x22.blocks.sets.2.2.1.words : List Int), .box 112 (.agg [vi .i64 x22.blocks.sets.2.2.2.size, .sl 13 1 []]), .row (.int .u64) 119 (x22.blocks.sets.2.2.2.words : List Int)]⟩) x22 ?_ ?_
 ·skip
  have h24 := h
  have h := j23
  refine t_cond cok ?_
  refine bi h (fun c25 h => ?_) (fun c25 h => ?_)
  ·skip
   refine bk h fun t26 k27 h => ?_
   refine cl3 cok.g (alloc_Alloc_Mark.sc fu t20.2.2.blocks _ k27) (.tup []) [(4, .box 108 (.agg [vi .i64 t26.reserve, .agg [.ptr 5 0, .ptr 7 0, .ptr 36 0, .ptr 11 0]])), (5, .box 112 (.agg [vi .i64 t26.sets.1.size, .sl 6 1 []])), (6, .row (.int .u64) 119 (t26.sets.1.words : List Int)), (7, .box 112 (.agg [vi .i64 t26.sets.2.1.size, .sl 8 1 []])), (8, .row (.int .u64) 119 (t26.sets.2.1.words : List Int)), (9, .gone), (10, .gone), (11, .box 112 (.agg [vi .i64 t26.sets.2.2.2.size, .sl 12 1 []])), (12, .row (.int .u64) 119 (t26.sets.2.2.2.words : List Int)), (36, .box 112 (.agg [vi .i64 t26.sets.2.2.1.size, .sl 37 1 []])), (37, .row (.int .u64) 119 (t26.sets.2.2.1.words : List Int))] 38 (by kernel_rfl) (by kernel_rfl) ?_
   exact em h (by kernel_rfl)
  exact em h (by kernel_rfl)
 refine ⟨by decide, ?_⟩
 refine bk h fun t28 k29 h => ?_
 refine cl3 cok.g (shadow_Store_Turn.sc fu x22 t20.1 (Arr.l (Arr.get a0 1)) _ k29) (.tup [vi .i64 t28.1, vi .i64 t28.2.1]) [(1, .box 114 (.agg [.ptr 2 0, .ptr 5 0])), (2, .box 105 (.agg [.sl 3 4 [], .agg [.sl 4 1 [], vi .i64 t28.2.2.device.plan.at_], vb t28.2.2.device.off, vb t28.2.2.device.armed, vi .i64 t28.2.2.device.left, vi .i64 t28.2.2.device.steps])), (3, .row (.st .S_pmem_cell) 125 (t28.2.2.device.cells : List S_pmem_cell)), (4, .row (.int .i64) 3 (t28.2.2.device.plan.list : List Int)), (5, .box 108 (.agg [vi .i64 t28.2.2.blocks.reserve, .agg [.ptr 6 0, .ptr 8 0, .ptr 10 0, .ptr 12 0]])), (6, .box 112 (.agg [vi .i64 t28.2.2.blocks.sets.1.size, .sl 7 1 []])), (7, .row (.int .u64) 119 (t28.2.2.blocks.sets.1.words : List Int)), (8, .box 112 (.agg [vi .i64 t28.2.2.blocks.sets.2.1.size, .sl 9 1 []])), (9, .row (.int .u64) 119 (t28.2.2.blocks.sets.2.1.words : List Int)), (10, .box 112 (.agg [vi .i64 t28.2.2.blocks.sets.2.2.1.size, .sl 11 1 []])), (11, .row (.int .u64) 119 (t28.2.2.blocks.sets.2.2.1.words : List Int)), (12, .box 112 (.agg [vi .i64 t28.2.2.blocks.sets.2.2.2.size, .sl 13 1 []])), (13, .row (.int .u64) 119 (t28.2.2.blocks.sets.2.2.2.words : List Int))] 27 (by kernel_rfl) (by kernel_rfl) ?_
 refine bk h fun t30 k31 h => ?_
 refine cl3 cok.g (shadow_Store_Get.sc fu t28.2.2 t28.1 _ k31) (.tup [.sl 40 1 [], vi .i64 t30.2]) [(1, .box 114 (.agg [.ptr 2 0, .ptr 5 0])), (2, .box 105 (.agg [.sl 3 4 [], .agg [.sl 4 1 [], vi .i64 t28.2.2.device.plan.at_], vb t28.2.2.device.off, vb t28.2.2.device.armed, vi .i64 t28.2.2.device.left, vi .i64 t28.2.2.device.steps])), (3, .row (.st .S_pmem_cell) 125 (t28.2.2.device.cells : List S_pmem_cell)), (4, .row (.int .i64) 3 (t28.2.2.device.plan.list : List Int)), (5, .box 108 (.agg [vi .i64 t28.2.2.blocks.reserve, .agg [.ptr 6 0, .ptr 8 0, .ptr 10 0, .ptr 12 0]])), (6, .box 112 (.agg [vi .i64 t28.2.2.blocks.sets.1.size, .sl 7 1 []])), (7, .row (.int .u64) 119 (t28.2.2.blocks.sets.1.words : List Int)), (8, .box 112 (.agg [vi .i64 t28.2.2.blocks.sets.2.1.size, .sl 9 1 []])), (9, .row (.int .u64) 119 (t28.2.2.blocks.sets.2.1.words : List Int)), (10, .box 112 (.agg [vi .i64 t28.2.2.blocks.sets.2.2.1.size, .sl 11 1 []])), (11, .row (.int .u64) 119 (t28.2.2.blocks.sets.2.2.1.words : List Int)), (12, .box 112 (.agg [vi .i64 t28.2.2.blocks.sets.2.2.2.size, .sl 13 1 []])), (13, .row (.int .u64) 119 (t28.2.2.blocks.sets.2.2.2.words : List Int)), (40, .row (.int .u8) 5 (t30.1 : List Int))] 41 (by kernel_rfl) (by kernel_rfl) ?_
 refine t_draw cok mo [⟨0, false, [9], [], 0, []⟩, ⟨1, false, [55], [], 0, [0]⟩, ⟨2, false, [56], [], 0, [0, 1]⟩, ⟨3, false, [11, 57], [], 0, [0, 1, 2]⟩, ⟨4, false, [57, 58], [], 0, [0, 1, 2, 3]⟩, ⟨5, true, [57, 59], [], 0, [0, 1, 2, 3, 4]⟩, ⟨6, false, [60], [], 0, [0, 1, 2, 3, 4, 5]⟩, ⟨7, false, [13, 61], [], 0, [0, 1, 2, 3, 4, 5, 6]⟩, ⟨8, false, [61, 62], [], 0, [0, 1, 2, 3, 4, 5, 6, 7]⟩, ⟨9, true, [61, 63], [], 0, [0, 1, 2, 3, 4, 5, 6, 7, 8]⟩, ⟨10, false, [64], [], 0, [0, 1, 2, 3, 4, 5, 6, 7, 8, 9]⟩, ⟨11, false, [12, 65], [], 0, [0, 1, 2, 3, 4, 5, 6, 7, 8, 9, 10]⟩, ⟨12, false, [65, 66], [40], 0, [0, 1, 2, 3, 4, 5, 6, 7, 8, 9, 10, 11]⟩, ⟨13, false, [2, 65], [], 0, [0, 1, 2, 3, 4, 5, 6, 7, 8, 9, 10]⟩, ⟨14, false, [65, 68], [0], 0, [0, 1, 2, 3, 4, 5, 6, 7, 8, 9, 10, 13]⟩, ⟨15, false, [65, 69], [0], 0, [0, 1, 2, 3, 4, 5, 6, 7, 8, 9, 10, 13, 14]⟩, ⟨16, false, [65, 67, 70], [], 0, [0, 1, 2, 3, 4, 5, 6, 7, 8, 9, 10, 11, 12, 13, 14, 15]⟩, ⟨17, true, [65, 71], [], 0, [0, 1, 2, 3, 4, 5, 6, 7, 8, 9, 10, 11, 12, 13, 14, 15, 16]⟩, ⟨18, false, [72], [], 0, [0, 1, 2, 3, 4, 5, 6, 7, 8, 9, 10, 11, 12, 13, 14, 15, 16, 17]⟩, ⟨19, false, [8, 73], [], 0, [0, 1, 2, 3, 4, 5, 6, 7, 8, 9, 10, 11, 12, 13, 14, 15, 16, 17, 18]⟩, ⟨20, false, [10, 73], [], 0, [0, 1, 2, 3, 4, 5, 6, 7, 8, 9, 10, 11, 12, 13, 14, 15, 16, 17, 18]⟩, ⟨21, false, [73, 74, 75], [], 0, [0, 1, 2, 3, 4, 5, 6, 7, 8, 9, 10, 11, 12, 13, 14, 15, 16, 17, 18, 19, 20]⟩, ⟨22, false, [1, 73], [], 0, [0, 1, 2, 3, 4, 5, 6, 7, 8, 9, 10, 11, 12, 13, 14, 15, 16, 17, 18]⟩, ⟨23, false, [73, 76, 77], [], 0, [0, 1, 2, 3, 4, 5, 6, 7, 8, 9, 10, 11, 12, 13, 14, 15, 16, 17, 18, 19, 20, 21, 22]⟩, ⟨24, true, [73, 78], [], 0, [0, 1, 2, 3, 4, 5, 6, 7, 8, 9, 10, 11, 12, 13, 14, 15, 16, 17, 18, 19, 20, 21, 22, 23]⟩] (by kernel_rfl) ?_
 refine bi h (fun c32 h => ?_) (fun c32 h => ?_)
 ·skip
  refine t_cond cok ?_
  exact fi h (by kernel_rfl)
 refine bi h (fun c33 h => ?_) (fun c33 h => ?_)
 ·skip
  refine t_cond cok ?_
  exact fi h (by kernel_rfl)
 refine bi h (fun c34 h => ?_) (fun c34 h => ?_)
 ·skip
  refine t_cond cok ?_
  exact fi h (by kernel_rfl)
 refine ⟨by decide, ?_⟩
 refine bi h (fun c35 h => ?_) (fun c35 h => ?_)
 ·skip
  refine t_cond cok ?_
  exact fi h (by kernel_rfl)
 refine t_cond cok ?_
 refine bi h (fun c36 h => ?_) (fun c36 h => ?_)
 ·skip
  exact fi h (by kernel_rfl)
 refine ⟨by decide, ?_⟩
 refine bk h fun t37 k38 h => ?_
 refine cl3 cok.g (shadow_Store_Turn.sc fu t28.2.2 1000 (Arr.l (Arr.get a0 0)) _ k38) (.tup [vi .i64 t37.1, vi .i64 t37.2.1]) [(1, .box 114 (.agg [.ptr 2 0, .ptr 5 0])), (2, .box 105 (.agg [.sl 3 4 [], .agg [.sl 4 1 [], vi .i64 t37.2.2.device.plan.at_], vb t37.2.2.device.off, vb t37.2.2.device.armed, vi .i64 t37.2.2.device.left, vi .i64 t37.2.2.device.steps])), (3, .row (.st .S_pmem_cell) 125 (t37.2.2.device.cells : List S_pmem_cell)), (4, .row (.int .i64) 3 (t37.2.2.device.plan.list : List Int)), (5, .box 108 (.agg [vi .i64 t37.2.2.blocks.reserve, .agg [.ptr 6 0, .ptr 8 0, .ptr 10 0, .ptr 12 0]])), (6, .box 112 (.agg [vi .i64 t37.2.2.blocks.sets.1.size, .sl 7 1 []])), (7, .row (.int .u64) 119 (t37.2.2.blocks.sets.1.words : List Int)), (8, .box 112 (.agg [vi .i64 t37.2.2.blocks.sets.2.1.size, .sl 9 1 []])), (9, .row (.int .u64) 119 (t37.2.2.blocks.sets.2.1.words : List Int)), (10, .box 112 (.agg [vi .i64 t37.2.2.blocks.sets.2.2.1.size, .sl 11 1 []])), (11, .row (.int .u64) 119 (t37.2.2.blocks.sets.2.2.1.words : List Int)), (12, .box 112 (.agg [vi .i64 t37.2.2.blocks.sets.2.2.2.size, .sl 13 1 []])), (13, .row (.int .u64) 119 (t37.2.2.blocks.sets.2.2.2.words : List Int))] 54 (by kernel_rfl) (by kernel_rfl) ?_
 refine ⟨by decide, ?_⟩
 refine ⟨by decide, ?_⟩
 refine bk h fun t39 k40 h => ?_
 refine cl3 cok.g (shadow_Store_Turn.sc fu t37.2.2 t28.1 (cut (Arr.l (Arr.get a0 0)) 0 63) _ k40) (.tup [vi .i64 t39.1, vi .i64 t39.2.1]) [(1, .box 114 (.agg [.ptr 2 0, .ptr 5 0])), (2, .box 105 (.agg [.sl 3 4 [], .agg [.sl 4 1 [], vi .i64 t39.2.2.device.plan.at_], vb t39.2.2.device.off, vb t39.2.2.device.armed, vi .i64 t39.2.2.device.left, vi .i64 t39.2.2.device.steps])), (3, .row (.st .S_pmem_cell) 125 (t39.2.2.device.cells : List S_pmem_cell)), (4, .row (.int .i64) 3 (t39.2.2.device.plan.list : List Int)), (5, .box 108 (.agg [vi .i64 t39.2.2.blocks.reserve, .agg [.ptr 6 0, .ptr 8 0, .ptr 10 0, .ptr 12 0]])), (6, .box 112 (.agg [vi .i64 t39.2.2.blocks.sets.1.size, .sl 7 1 []])), (7, .row (.int .u64) 119 (t39.2.2.blocks.sets.1.words : List Int)), (8, .box 112 (.agg [vi .i64 t39.2.2.blocks.sets.2.1.size, .sl 9 1 []])), (9, .row (.int .u64) 119 (t39.2.2.blocks.sets.2.1.words : List Int)), (10, .box 112 (.agg [vi .i64 t39.2.2.blocks.sets.2.2.1.size, .sl 11 1 []])), (11, .row (.int .u64) 119 (t39.2.2.blocks.sets.2.2.1.words : List Int)), (12, .box 112 (.agg [vi .i64 t39.2.2.blocks.sets.2.2.2.size, .sl 13 1 []])), (13, .row (.int .u64) 119 (t39.2.2.blocks.sets.2.2.2.words : List Int))] 67 (by kernel_rfl) (by kernel_rfl) ?_
 refine t_reg cok ?_
 refine bi h (fun c41 h => ?_) (fun c41 h => ?_)
 ·skip
  refine bi h (fun c42 h => ?_) (fun c42 h => ?_)
  ·skip
   refine bk h fun t43 k44 h => ?_
   refine cl3 cok.g (shadow_Store_Drop.sc fu t39.2.2 t28.1 _ k44) (vi .i64 t43.1) [(1, .box 114 (.agg [.ptr 2 0, .ptr 5 0])), (2, .box 105 (.agg [.sl 3 4 [], .agg [.sl 4 1 [], vi .i64 t43.2.device.plan.at_], vb t43.2.device.off, vb t43.2.device.armed, vi .i64 t43.2.device.left, vi .i64 t43.2.device.steps])), (3, .row (.st .S_pmem_cell) 125 (t43.2.device.cells : List S_pmem_cell)), (4, .row (.int .i64) 3 (t43.2.device.plan.list : List Int)), (5, .box 108 (.agg [vi .i64 t43.2.blocks.reserve, .agg [.ptr 6 0, .ptr 8 0, .ptr 10 0, .ptr 12 0]])), (6, .box 112 (.agg [vi .i64 t43.2.blocks.sets.1.size, .sl 7 1 []])), (7, .row (.int .u64) 119 (t43.2.blocks.sets.1.words : List Int)), (8, .box 112 (.agg [vi .i64 t43.2.blocks.sets.2.1.size, .sl 9 1 []])), (9, .row (.int .u64) 119 (t43.2.blocks.sets.2.1.words : List Int)), (10, .box 112 (.agg [vi .i64 t43.2.blocks.sets.2.2.1.size, .sl 11 1 []])), (11, .row (.int .u64) 119 (t43.2.blocks.sets.2.2.1.words : List Int)), (12, .box 112 (.agg [vi .i64 t43.2.blocks.sets.2.2.2.size, .sl 13 1 []])), (13, .row (.int .u64) 119 (t43.2.blocks.sets.2.2.2.words : List Int))] 80 (by kernel_rfl) (by kernel_rfl) ?_
   refine bi h (fun c45 h => ?_) (fun c45 h => ?_)
   ·skip
    refine bk h fun t46 k47 h => ?_
    refine cl3 cok.g (shadow_Store_Drop.sc fu t43.2 t20.1 _ k47) (vi .i64 t46.1) [(1, .box 114 (.agg [.ptr 2 0, .ptr 5 0])), (2, .box 105 (.agg [.sl 3 4 [], .agg [.sl 4 1 [], vi .i64 t46.2.device.plan.at_], vb t46.2.device.off, vb t46.2.device.armed, vi .i64 t46.2.device.left, vi .i64 t46.2.device.steps])), (3, .row (.st .S_pmem_cell) 125 (t46.2.device.cells : List S_pmem_cell)), (4, .row (.int .i64) 3 (t46.2.device.plan.list : List Int)), (5, .box 108 (.agg [vi .i64 t46.2.blocks.reserve, .agg [.ptr 6 0, .ptr 8 0, .ptr 10 0, .ptr 12 0]])), (6, .box 112 (.agg [vi .i64 t46.2.blocks.sets.1.size, .sl 7 1 []])), (7, .row (.int .u64) 119 (t46.2.blocks.sets.1.words : List Int)), (8, .box 112 (.agg [vi .i64 t46.2.blocks.sets.2.1.size, .sl 9 1 []])), (9, .row (.int .u64) 119 (t46.2.blocks.sets.2.1.words : List Int)), (10, .box 112 (.agg [vi .i64 t46.2.blocks.sets.2.2.1.size, .sl 11 1 []])), (11, .row (.int .u64) 119 (t46.2.blocks.sets.2.2.1.words : List Int)), (12, .box 112 (.agg [vi .i64 t46.2.blocks.sets.2.2.2.size, .sl 13 1 []])), (13, .row (.int .u64) 119 (t46.2.blocks.sets.2.2.2.words : List Int))] 93 (by kernel_rfl) (by kernel_rfl) ?_
    exact fi h (by kernel_rfl)
   exact fi h (by kernel_rfl)
  exact fi h (by kernel_rfl)
 exact fi h (by kernel_rfl)
end Go.Proofs.YtdifnahlheogdaaDoor
namespace Go.Proofs.YtdifnahlheogdaaDoor.Pure
open Go Go.Xw Go.Yw
def Bytes (l : List Int) : Prop := ∀ x ∈ l, 0 ≤ x ∧ x ≤ 255
theorem ix_nat {α : Type} [Inhabited α] {l : List α} {j : Nat} (h : j < l.length) : ix l (j : Int) = l[j] := by
  simp [ix, List.getD_eq_getElem?_getD, List.getElem?_eq_getElem h]
theorem take_next {α : Type} {l : List α} {j : Nat} (h : j < l.length) : l.take (j + 1) = l.take j ++ [l[j]] := by
  rw [List.take_add_one, List.getElem?_eq_getElem h]
  rfl
theorem loopM_inv {σ ε : Type} {step : σ → Option (Sum ε σ)} (P : Nat → σ → Prop) (n : Nat) (Q : ε → Prop) (h : ∀ j s, j < n → P j s → ∃ s', step s = some (.inr s') ∧ P (j + 1) s') (he : ∀ s, P n s → ∃ e, step s = some (.inl e) ∧ Q e) : ∀ {k j : Nat} {s : σ}, P j s → j ≤ n → n - j < k → ∃ e, loopM step k s = some e ∧ Q e
  | 0, j, s, _, _, hk => by omega
  | k + 1, j, s, hp, hj, hk => by
    unfold loopM
    by_cases e1 : j = n
    · subst e1
      obtain ⟨e, h1, h2⟩ := he s hp
      rw [h1]
      exact ⟨e, rfl, h2⟩
    · obtain ⟨s', h1, h2⟩ := h j s (by omega) hp
      rw [h1]
      exact loopM_inv P n Q h he h2 (by omega) (by omega)
theorem next64 {j n : Nat} (h : j < n) (hn : n ≤ 100000) : IntKind.i64.wrap ((j : Int) + 1) = ((j + 1 : Nat) : Int) := by rw [w64 (by omega) (by omega)]; omega
def wdR (g : Nat → Bool) : Nat → Nat
  | 0 => 0
  | k + 1 => 2 ^ k * (if g k = true then 1 else 0) + wdR g k
theorem wdR_lt (g : Nat → Bool) : ∀ n, wdR g n < 2 ^ n
  | 0 => by simp [wdR]
  | n + 1 => by
    have := wdR_lt g n
    unfold wdR
    rw [Nat.pow_succ]
    split <;> omega
theorem wdR_bit (g : Nat → Bool) (k : Nat) : ∀ n, (wdR g n).testBit k = (decide (k < n) && g k)
  | 0 => by simp [wdR]
  | n + 1 => by
    unfold wdR
    rw [Nat.testBit_two_pow_mul_add _ (wdR_lt g n)]
    by_cases h : k < n
    · rw [if_pos h, wdR_bit g k n]
      simp [h, show k < n + 1 by omega]
    · rw [if_neg h]
      by_cases e : k = n
      · subst e
        cases hg : g k <;> simp [hg]
      · have e2 : ¬ k < n + 1 := by omega
        obtain ⟨m, hm⟩ : ∃ m, k - n = m + 1 := ⟨k - n - 1, by omega⟩
        rw [hm]
        simp only [e2, decide_false, Bool.false_and]
        split <;> simp [Nat.testBit_succ]
theorem wd_ex (g : Nat → Bool) (n : Nat) : ∃ x, x < 2 ^ n ∧ ∀ k, x.testBit k = (decide (k < n) && g k) := ⟨wdR g n, wdR_lt g n, fun k => wdR_bit g k n⟩
noncomputable def wdN (g : Nat → Bool) (n : Nat) : Nat := Classical.choose (wd_ex g n)
theorem wdN_lt (g : Nat → Bool) (n : Nat) : wdN g n < 2 ^ n := (Classical.choose_spec (wd_ex g n)).1
theorem wdN_bit (g : Nat → Bool) (k n : Nat) : (wdN g n).testBit k = (decide (k < n) && g k) := (Classical.choose_spec (wd_ex g n)).2 k
theorem wdN_congr {f g : Nat → Bool} {n : Nat} (h : ∀ k, k < n → f k = g k) : wdN f n = wdN g n := by
  apply Nat.eq_of_testBit_eq
  intro i
  rw [wdN_bit, wdN_bit]
  by_cases e : i < n
  · rw [h i e]
  · simp [e]
theorem p64 : (2 : Nat) ^ 64 = 18446744073709551616 := by decide
theorem wrap_nat {x : Nat} (h : x < 2 ^ 64) : IntKind.u64.wrap (x : Int) = (x : Int) := by
  rw [p64] at h
  exact wu64 (by omega) (by omega)
theorem ofInt_nat (x : Nat) : BitVec.ofInt 64 (x : Int) = BitVec.ofNat 64 x := by rw [BitVec.ofInt_natCast]
theorem and64 {x y : Nat} (hx : x < 2 ^ 64) (hy : y < 2 ^ 64) : bAnd .u64 (x : Int) (y : Int) = ((x &&& y : Nat) : Int) := by
  unfold bAnd
  show IntKind.u64.wrap (((BitVec.ofInt 64 (x : Int) &&& BitVec.ofInt 64 (y : Int)).toNat : Nat) : Int) = _
  rw [ofInt_nat, ofInt_nat, BitVec.toNat_and, BitVec.toNat_ofNat, BitVec.toNat_ofNat, Nat.mod_eq_of_lt hx, Nat.mod_eq_of_lt hy]
  exact wrap_nat (Nat.lt_of_le_of_lt Nat.and_le_left hx)
theorem or64 {x y : Nat} (hx : x < 2 ^ 64) (hy : y < 2 ^ 64) : bOr .u64 (x : Int) (y : Int) = ((x ||| y : Nat) : Int) := by
  unfold bOr
  show IntKind.u64.wrap (((BitVec.ofInt 64 (x : Int) ||| BitVec.ofInt 64 (y : Int)).toNat : Nat) : Int) = _
  rw [ofInt_nat, ofInt_nat, BitVec.toNat_or, BitVec.toNat_ofNat, BitVec.toNat_ofNat, Nat.mod_eq_of_lt hx, Nat.mod_eq_of_lt hy]
  exact wrap_nat (Nat.or_lt_two_pow hx hy)
theorem not64 {x y : Nat} (hx : x < 2 ^ 64) (hy : y < 2 ^ 64) : bNot .u64 (x : Int) (y : Int) = ((wdN (fun k => x.testBit k && !y.testBit k) 64 : Nat) : Int) := by
  unfold bNot
  show IntKind.u64.wrap (((BitVec.ofInt 64 (x : Int) &&& ~~~ BitVec.ofInt 64 (y : Int)).toNat : Nat) : Int) = _
  rw [wrap_nat (BitVec.isLt _), ofInt_nat, ofInt_nat]
  refine congrArg (fun n : Nat => (n : Int)) ?_
  apply Nat.eq_of_testBit_eq
  intro i
  rw [wdN_bit, BitVec.testBit_toNat, BitVec.getLsbD_and, BitVec.getLsbD_not, BitVec.getLsbD_ofNat, BitVec.getLsbD_ofNat]
  by_cases h : i < 64 <;> simp [h]
theorem shr64n {x k : Nat} (hk : k ≤ 64) : shR .u64 (x : Int) (k : Int) = ((x / 2 ^ k : Nat) : Int) := by
  unfold shR
  show Int.fdiv (x : Int) (2 ^ min ((k : Int).toNat) 64) = _
  rw [Int.toNat_natCast, Nat.min_eq_left hk, Int.fdiv_eq_ediv_of_nonneg _ (Int.le_of_lt (Int.pow_pos (by decide)))]
  simp
theorem shl64 {k : Nat} (hk : k < 64) : shL .u64 1 (k : Int) = ((2 ^ k : Nat) : Int) := by
  unfold shL
  show IntKind.u64.wrap (1 * 2 ^ min ((k : Int).toNat) 64) = _
  rw [Int.toNat_natCast, Nat.min_eq_left (Nat.le_of_lt hk), Int.one_mul]
  have : ((2 : Int) ^ k) = ((2 ^ k : Nat) : Int) := by simp
  rw [this]
  exact wrap_nat (Nat.pow_lt_pow_right (by decide) hk)
theorem pow_lt64 {k : Nat} (hk : k < 64) : 2 ^ k < 2 ^ 64 := Nat.pow_lt_pow_right (by decide) hk
theorem or_wd {g : Nat → Bool} {r : Nat} (hr : r < 64) : bOr .u64 ((wdN g 64 : Nat) : Int) (shL .u64 1 (r : Int)) = ((wdN (fun k => g k || decide (k = r)) 64 : Nat) : Int) := by
  rw [shl64 hr, or64 (wdN_lt g 64) (pow_lt64 hr)]
  refine congrArg (fun n : Nat => (n : Int)) ?_
  apply Nat.eq_of_testBit_eq
  intro i
  rw [Nat.testBit_or, wdN_bit, wdN_bit, Nat.testBit_two_pow]
  by_cases h : i < 64
  · by_cases e : r = i <;> simp [h, e, eq_comm]
  · simp [h, show ¬ r = i by omega]
theorem not_wd {g : Nat → Bool} {r : Nat} (hr : r < 64) : bNot .u64 ((wdN g 64 : Nat) : Int) (shL .u64 1 (r : Int)) = ((wdN (fun k => g k && !decide (k = r)) 64 : Nat) : Int) := by
  rw [shl64 hr, not64 (wdN_lt g 64) (pow_lt64 hr)]
  refine congrArg (fun n : Nat => (n : Int)) ?_
  refine wdN_congr fun k hk => ?_
  rw [wdN_bit, Nat.testBit_two_pow]
  by_cases e : r = k <;> simp [hk, e, eq_comm]
theorem has_wd {g : Nat → Bool} {r : Nat} (hr : r < 64) : decide (bAnd .u64 (shR .u64 ((wdN g 64 : Nat) : Int) (r : Int)) 1 = 1) = g r := by
  have hb := wdN_bit g r 64
  rw [shr64n (by omega), show (1 : Int) = ((1 : Nat) : Int) from rfl, and64 (Nat.lt_of_le_of_lt (Nat.div_le_self _ _) (wdN_lt g 64)) (by decide)]
  simp only [hr, decide_true, Bool.true_and] at hb
  rw [← hb, Nat.testBit_eq_decide_div_mod_eq, Nat.and_one_is_mod]
  congr 1
  apply propext
  omega
theorem low_split {x : Nat} (h : x ≠ 0) : ∃ k q, x = 2 ^ k * (2 * q + 1) := by
  induction x using Nat.strongRecOn with
  | _ x ih =>
    by_cases e : x % 2 = 1
    · exact ⟨0, x / 2, by omega⟩
    · obtain ⟨k, q, hk⟩ := ih (x / 2) (by omega) (by omega)
      exact ⟨k + 1, q, by rw [Nat.pow_succ, Nat.mul_comm (2 ^ k) 2, Nat.mul_assoc, ← hk]; omega⟩
theorem tb0 (k a j : Nat) : (2 ^ k * a).testBit j = if j < k then false else a.testBit (j - k) := by
  have := Nat.testBit_two_pow_mul_add a (show 0 < 2 ^ k from Nat.pow_pos (by decide)) j
  simpa using this
theorem low_and (k q : Nat) : (2 ^ k * (2 * q + 1)) &&& (2 ^ k * (2 * q + 1) - 1) = 2 ^ k * (2 * q) := by
  have hp : 0 < 2 ^ k := Nat.pow_pos (by decide)
  have e2 : 2 ^ k * (2 * q + 1) - 1 = 2 ^ k * (2 * q) + (2 ^ k - 1) := by rw [Nat.mul_add]; omega
  apply Nat.eq_of_testBit_eq
  intro j
  rw [Nat.testBit_and, e2, Nat.testBit_two_pow_mul_add _ (by omega : 2 ^ k - 1 < 2 ^ k), tb0, tb0]
  by_cases h : j < k
  · simp [h]
  · rw [if_neg h, if_neg h, if_neg h]
    cases hm : j - k with
    | zero => simp [Nat.testBit_zero]
    | succ m =>
      rw [Nat.testBit_succ, Nat.testBit_succ, show (2 * q + 1) / 2 = q by omega, show 2 * q / 2 = q by omega, Bool.and_self]
theorem low_neg {k q : Nat} (h : 2 ^ k * (2 * q + 1) < 2 ^ 64) : k < 64 ∧ (2 ^ k * (2 * q + 1)) &&& (2 ^ 64 - 2 ^ k * (2 * q + 1)) = 2 ^ k := by
  have hk : k < 64 := by
    by_cases hk : k < 64
    · exact hk
    · have : 2 ^ 64 ≤ 2 ^ k := Nat.pow_le_pow_right (by decide) (by omega)
      have h2 : 2 ^ k * 1 ≤ 2 ^ k * (2 * q + 1) := Nat.mul_le_mul_left _ (by omega)
      omega
  refine ⟨hk, ?_⟩
  have hp : 0 < 2 ^ k := Nat.pow_pos (by decide)
  have es : 2 ^ 64 = 2 ^ k * 2 ^ (64 - k) := by rw [← Nat.pow_add]; congr 1; omega
  have hq : 2 * q + 1 < 2 ^ (64 - k) := by
    rw [es] at h
    exact Nat.lt_of_mul_lt_mul_left h
  have e2 : 2 ^ 64 - 2 ^ k * (2 * q + 1) = 2 ^ k * (2 ^ (64 - k) - (2 * q + 1)) := by rw [es, Nat.mul_sub]
  apply Nat.eq_of_testBit_eq
  intro j
  rw [Nat.testBit_and, e2, tb0, tb0, Nat.testBit_two_pow]
  by_cases hj : j < k
  · simp [hj, show ¬ k = j by omega]
  · rw [if_neg hj, if_neg hj, Nat.testBit_two_pow_sub_succ (by omega : 2 * q < 2 ^ (64 - k))]
    cases hm : j - k with
    | zero => simp [Nat.testBit_zero, show k = j by omega, show 0 < 64 - j by omega]
    | succ m =>
      rw [Nat.testBit_succ, Nat.testBit_succ, show (2 * q + 1) / 2 = q by omega, show 2 * q / 2 = q by omega]
      have : ¬ k = j := by omega
      cases q.testBit m <;> simp [this]
theorem tz_tab : ∀ k : Fin 64, shR .u64 (IntKind.u64.wrap (((2 ^ (k : Nat) : Nat) : Int) * 285870213051353865)) 58 = (((2 ^ (k : Nat) * 285870213051353865) % 2 ^ 64 / 2 ^ 58 : Nat) : Int) ∧ (2 ^ (k : Nat) * 285870213051353865) % 2 ^ 64 / 2 ^ 58 < 64 ∧ Arr.get tabG0 (((2 ^ (k : Nat) * 285870213051353865) % 2 ^ 64 / 2 ^ 58 : Nat) : Int) = ((k : Nat) : Int) := by decide +kernel
theorem tz_eq {fu k q : Nat} (h : 2 ^ k * (2 * q + 1) < 2 ^ 64) : bits_TrailingZeros64.f fu ((2 ^ k * (2 * q + 1) : Nat) : Int) = some (k : Int) := by
  unfold bits_TrailingZeros64.f
  obtain ⟨hk, ha⟩ := low_neg h
  have hp : 0 < 2 ^ k := Nat.pow_pos (by decide)
  have h0 : ¬ ((2 ^ k * (2 * q + 1) : Nat) : Int) = 0 := by
    intro e
    have : 2 ^ k * (2 * q + 1) = 0 := by exact_mod_cast e
    have h2 : 2 ^ k * 1 ≤ 2 ^ k * (2 * q + 1) := Nat.mul_le_mul_left _ (by omega)
    omega
  have hw : IntKind.u64.wrap (-((2 ^ k * (2 * q + 1) : Nat) : Int)) = ((2 ^ 64 - 2 ^ k * (2 * q + 1) : Nat) : Int) := by
    generalize 2 ^ k * (2 * q + 1) = x at *
    have hx : 0 < x := by omega
    rw [p64] at *
    unfold IntKind.wrap
    simp only [IntKind.signed, IntKind.bits]
    simp
    omega
  rw [decide_eq_false h0, if_neg (by decide), hw, and64 h (by rw [p64] at *; have : 2 ^ k * 1 ≤ 2 ^ k * (2 * q + 1) := Nat.mul_le_mul_left _ (by omega); omega), ha]
  obtain ⟨t1, t2, t3⟩ := tz_tab ⟨k, hk⟩
  simp only at t1 t2 t3
  rw [t1, t3, if_pos ⟨by omega, by omega⟩, w64 (by omega) (by omega)]
def mm (c : Nat) : Nat → Nat
  | 0 => 0
  | n + 1 => 256 * mm c n + c
def f1 (n x : Nat) : Nat := ((x / 2) &&& mm 85 n) + (x &&& mm 85 n)
def f2 (n x : Nat) : Nat := ((x / 4) &&& mm 51 n) + (x &&& mm 51 n)
def f3 (n x : Nat) : Nat := (x / 16 + x) &&& mm 15 n
def pc (b : Nat) : Nat := ((List.range 8).filter fun k => b.testBit k).length
def tn : Nat → Nat → Nat
  | 0, _ => 0
  | n + 1, x => 256 * tn n (x / 256) + pc (x % 256)
theorem and256 {y b M c : Nat} (hb : b < 256) (hc : c < 256) : (256 * y + b) &&& (256 * M + c) = 256 * (y &&& M) + (b &&& c) := by
  have e : 256 = 2 ^ 8 := by decide
  have hbc : b &&& c < 2 ^ 8 := Nat.lt_of_le_of_lt Nat.and_le_left (by omega)
  apply Nat.eq_of_testBit_eq
  intro j
  rw [Nat.testBit_and, e, Nat.testBit_two_pow_mul_add _ (by omega : b < 2 ^ 8), Nat.testBit_two_pow_mul_add _ (by omega : c < 2 ^ 8), Nat.testBit_two_pow_mul_add _ hbc]
  by_cases h : j < 8
  · rw [if_pos h, if_pos h, if_pos h, Nat.testBit_and]
  · rw [if_neg h, if_neg h, if_neg h, Nat.testBit_and]
theorem t85 : ∀ (b : Fin 256) (r : Fin 2), (128 * (r : Nat) + (b : Nat) / 2) &&& 85 = ((b : Nat) / 2) &&& 85 := by decide +kernel
theorem t51 : ∀ (b : Fin 256) (r : Fin 4), (64 * (r : Nat) + (b : Nat) / 4) &&& 51 = ((b : Nat) / 4) &&& 51 := by decide +kernel
theorem t15 : ∀ (b : Fin 69) (r : Fin 5), (16 * (r : Nat) + (b : Nat) / 16 + (b : Nat)) &&& 15 = ((b : Nat) / 16 + (b : Nat)) &&& 15 := by decide +kernel
theorem tb : ∀ b : Fin 256, f1 1 b < 256 ∧ f2 1 (f1 1 b) < 69 ∧ f2 1 (f1 1 b) % 16 ≤ 4 ∧ f3 1 (f2 1 (f1 1 b)) = pc b ∧ pc b ≤ 8 := by decide +kernel
theorem tb2 : ∀ b : Fin 256, ((b : Nat) / 2 &&& 85) + ((b : Nat) &&& 85) = f1 1 b ∧ ((b : Nat) / 4 &&& 51) + ((b : Nat) &&& 51) = f2 1 b ∧ ((b : Nat) / 16 + b) &&& 15 = f3 1 b := by decide +kernel
theorem f1_succ {n y b : Nat} (hb : b < 256) : f1 (n + 1) (256 * y + b) = 256 * f1 n y + f1 1 b := by
  have e1 : (256 * y + b) / 2 = 256 * (y / 2) + (128 * (y % 2) + b / 2) := by omega
  unfold f1
  show (((256 * y + b) / 2) &&& (256 * mm 85 n + 85)) + ((256 * y + b) &&& (256 * mm 85 n + 85)) = _
  rw [e1, and256 (by omega) (by decide), and256 hb (by decide)]
  have h1 := t85 ⟨b, hb⟩ ⟨y % 2, by omega⟩
  have h2 := (tb2 ⟨b, hb⟩).1
  simp only at h1 h2
  unfold f1 at h2
  rw [h1, ← h2]
  omega
theorem f2_succ {n y b : Nat} (hb : b < 256) : f2 (n + 1) (256 * y + b) = 256 * f2 n y + f2 1 b := by
  have e1 : (256 * y + b) / 4 = 256 * (y / 4) + (64 * (y % 4) + b / 4) := by omega
  unfold f2
  show (((256 * y + b) / 4) &&& (256 * mm 51 n + 51)) + ((256 * y + b) &&& (256 * mm 51 n + 51)) = _
  rw [e1, and256 (by omega) (by decide), and256 hb (by decide)]
  have h1 := t51 ⟨b, hb⟩ ⟨y % 4, by omega⟩
  have h2 := (tb2 ⟨b, hb⟩).2.1
  simp only at h1 h2
  unfold f2 at h2
  rw [h1, ← h2]
  omega
theorem f3_succ {n y b : Nat} (hb : b < 69) (hy : y % 16 ≤ 4) : f3 (n + 1) (256 * y + b) = 256 * f3 n y + f3 1 b := by
  have e1 : (256 * y + b) / 16 + (256 * y + b) = 256 * (y / 16 + y) + (16 * (y % 16) + b / 16 + b) := by omega
  unfold f3
  show ((256 * y + b) / 16 + (256 * y + b)) &&& (256 * mm 15 n + 15) = _
  rw [e1, and256 (by omega) (by decide)]
  have h1 := t15 ⟨b, hb⟩ ⟨y % 16, by omega⟩
  have h2 := (tb2 ⟨b, by omega⟩).2.2
  simp only at h1 h2
  unfold f3 at h2
  rw [h1, ← h2]
theorem f_all : ∀ (n x : Nat), f1 n x < 256 ^ n ∧ f2 n (f1 n x) ≤ mm 68 n ∧ f2 n (f1 n x) % 16 ≤ 4 ∧ f3 n (f2 n (f1 n x)) = tn n x
  | 0, x => by simp [f1, f2, f3, mm, tn]
  | n + 1, x => by
    obtain ⟨h1, h2, h3, h4⟩ := f_all n (x / 256)
    have hx : x = 256 * (x / 256) + x % 256 := by omega
    have hb : x % 256 < 256 := by omega
    obtain ⟨b1, b2, b3, b4, _⟩ := tb ⟨x % 256, hb⟩
    simp only at b1 b2 b3 b4
    have e1 : f1 (n + 1) x = 256 * f1 n (x / 256) + f1 1 (x % 256) := by
      conv => lhs; rw [hx]
      exact f1_succ hb
    have e2 := f2_succ (n := n) (y := f1 n (x / 256)) b1
    have e3 := f3_succ (n := n) (y := f2 n (f1 n (x / 256))) b2 h3
    rw [e1, e2, e3, h4, b4]
    refine ⟨?_, ?_, by omega, rfl⟩
    · rw [Nat.pow_succ]
      omega
    · unfold mm
      omega
theorem tn8 (x : Nat) : ∃ s0 s1 s2 s3 s4 s5 s6 s7 : Nat, tn 8 x = s0 + 256 * s1 + 65536 * s2 + 16777216 * s3 + 4294967296 * s4 + 1099511627776 * s5 + 281474976710656 * s6 + 72057594037927936 * s7 ∧ (s0 ≤ 8 ∧ s1 ≤ 8 ∧ s2 ≤ 8 ∧ s3 ≤ 8 ∧ s4 ≤ 8 ∧ s5 ≤ 8 ∧ s6 ≤ 8 ∧ s7 ≤ 8) ∧ s0 = pc (x % 256) ∧ s1 = pc (x / 256 % 256) ∧ s2 = pc (x / 256 / 256 % 256) ∧ s3 = pc (x / 256 / 256 / 256 % 256) ∧ s4 = pc (x / 256 / 256 / 256 / 256 % 256) ∧ s5 = pc (x / 256 / 256 / 256 / 256 / 256 % 256) ∧ s6 = pc (x / 256 / 256 / 256 / 256 / 256 / 256 % 256) ∧ s7 = pc (x / 256 / 256 / 256 / 256 / 256 / 256 / 256 % 256) := by
  have hp : ∀ y, pc (y % 256) ≤ 8 := fun y => (tb ⟨y % 256, by omega⟩).2.2.2.2
  refine ⟨_, _, _, _, _, _, _, _, ?_, ⟨hp _, hp _, hp _, hp _, hp _, hp _, hp _, hp _⟩, rfl, rfl, rfl, rfl, rfl, rfl, rfl, rfl⟩
  simp only [tn]
  omega
def cnt (g : Nat → Bool) (n : Nat) : Nat := ((List.range n).filter g).length
theorem cnt_add (g : Nat → Bool) (m n : Nat) : cnt g (m + n) = cnt g m + cnt (fun k => g (m + k)) n := by
  unfold cnt
  rw [List.range_add, List.filter_append, List.length_append, List.filter_map, List.length_map]
  rfl
theorem cnt_congr {f g : Nat → Bool} {n : Nat} (h : ∀ k, k < n → f k = g k) : cnt f n = cnt g n := by
  unfold cnt
  rw [List.filter_congr fun k hk => h k (List.mem_range.1 hk)]
theorem div_bit (x k : Nat) : (x / 256).testBit k = x.testBit (k + 8) := by
  rw [show (256 : Nat) = 2 ^ 8 from by decide, Nat.testBit_div_two_pow]
theorem pc_low (x : Nat) : pc (x % 256) = cnt (fun k => x.testBit k) 8 := by
  refine cnt_congr fun k hk => ?_
  rw [show (256 : Nat) = 2 ^ 8 from by decide, Nat.testBit_mod_two_pow]
  simp [hk]
theorem cnt8 (x n : Nat) : cnt (fun k => x.testBit k) (8 + n) = pc (x % 256) + cnt (fun k => (x / 256).testBit k) n := by
  rw [cnt_add, pc_low]
  congr 1
  refine cnt_congr fun k _ => ?_
  rw [div_bit, Nat.add_comm]
theorem and127 {x : Nat} (h : x < 9223372036854775808) : bAnd .i64 (IntKind.i64.wrap (x : Int)) 127 = ((x % 128 : Nat) : Int) := by
  rw [w64 (by omega) (by omega)]
  unfold bAnd
  show IntKind.i64.wrap (((BitVec.ofInt 64 (x : Int) &&& BitVec.ofInt 64 127).toNat : Nat) : Int) = _
  rw [show (127 : Int) = ((127 : Nat) : Int) from rfl, ofInt_nat, ofInt_nat, BitVec.toNat_and, BitVec.toNat_ofNat, BitVec.toNat_ofNat, Nat.mod_eq_of_lt (by omega), Nat.mod_eq_of_lt (by decide), show (127 : Nat) = 2 ^ 7 - 1 from rfl, Nat.and_two_pow_sub_one_eq_mod]
  rw [w64 (by omega) (by omega)]
theorem shr_of {x : Nat} {k : Int} {m : Nat} (hk : k = (m : Int)) (hm : m ≤ 64) : shR .u64 (x : Int) k = ((x / 2 ^ m : Nat) : Int) := by rw [hk]; exact shr64n hm
theorem dv {X A r m : Nat} (h : X = m * A + r) (hr : r < m) : X / m = A := by
  rw [h, Nat.mul_add_div (by omega), Nat.div_eq_of_lt hr, Nat.add_zero]
def fd (x : Nat) : Nat := x + x / 256
def fe (x : Nat) : Nat := x + x / 65536
def fg (x : Nat) : Nat := (x + x / 4294967296) % 128
theorem fold8 {s0 s1 s2 s3 s4 s5 s6 s7 : Nat} (hs : s0 ≤ 8 ∧ s1 ≤ 8 ∧ s2 ≤ 8 ∧ s3 ≤ 8 ∧ s4 ≤ 8 ∧ s5 ≤ 8 ∧ s6 ≤ 8 ∧ s7 ≤ 8) : fg (fe (fd (s0 + 256 * s1 + 65536 * s2 + 16777216 * s3 + 4294967296 * s4 + 1099511627776 * s5 + 281474976710656 * s6 + 72057594037927936 * s7))) = s0 + (s1 + (s2 + (s3 + (s4 + (s5 + (s6 + s7)))))) := by
  have d1 : fd (s0 + 256 * s1 + 65536 * s2 + 16777216 * s3 + 4294967296 * s4 + 1099511627776 * s5 + 281474976710656 * s6 + 72057594037927936 * s7) = (s0 + s1) + 256 * (s1 + s2) + 65536 * (s2 + s3) + 16777216 * (s3 + s4) + 4294967296 * (s4 + s5) + 1099511627776 * (s5 + s6) + 281474976710656 * (s6 + s7) + 72057594037927936 * s7 := by
    unfold fd
    rw [dv (X := (s0 + 256 * s1 + 65536 * s2 + 16777216 * s3 + 4294967296 * s4 + 1099511627776 * s5 + 281474976710656 * s6 + 72057594037927936 * s7)) (A := s1 + 256 * s2 + 65536 * s3 + 16777216 * s4 + 4294967296 * s5 + 1099511627776 * s6 + 281474976710656 * s7) (r := s0) (m := 256) (by omega) (by omega)]
    omega
  rw [d1]
  have d2 : fe ((s0 + s1) + 256 * (s1 + s2) + 65536 * (s2 + s3) + 16777216 * (s3 + s4) + 4294967296 * (s4 + s5) + 1099511627776 * (s5 + s6) + 281474976710656 * (s6 + s7) + 72057594037927936 * s7) = (s0 + s1 + s2 + s3) + 256 * (s1 + s2 + s3 + s4) + 65536 * (s2 + s3 + s4 + s5) + 16777216 * (s3 + s4 + s5 + s6) + 4294967296 * (s4 + s5 + s6 + s7) + 1099511627776 * (s5 + s6 + s7) + 281474976710656 * (s6 + s7) + 72057594037927936 * s7 := by
    unfold fe
    rw [dv (A := (s2 + s3) + 256 * (s3 + s4) + 65536 * (s4 + s5) + 16777216 * (s5 + s6) + 4294967296 * (s6 + s7) + 1099511627776 * s7) (r := (s0 + s1) + 256 * (s1 + s2)) (m := 65536) (by omega) (by omega)]
    omega
  rw [d2]
  unfold fg
  rw [dv (A := (s4 + s5 + s6 + s7) + 256 * (s5 + s6 + s7) + 65536 * (s6 + s7) + 16777216 * s7) (r := (s0 + s1 + s2 + s3) + 256 * (s1 + s2 + s3 + s4) + 65536 * (s2 + s3 + s4 + s5) + 16777216 * (s3 + s4 + s5 + s6)) (m := 4294967296) (by omega) (by omega)]
  omega
theorem ones_eq {fu x : Nat} (h : x < 2 ^ 64) : bits_OnesCount64.f fu (x : Int) = some ((cnt (fun k => x.testBit k) 64 : Nat) : Int) := by
  obtain ⟨h1, h2, _, h3⟩ := f_all 8 x
  obtain ⟨s0, s1, s2, s3, s4, s5, s6, s7, ht, hs, q0, q1, q2, q3, q4, q5, q6, q7⟩ := tn8 x
  have hm : mm 85 8 = 6148914691236517205 ∧ mm 51 8 = 3689348814741910323 ∧ mm 15 8 = 1085102592571150095 ∧ mm 68 8 = 4919131752989213764 := by decide
  have hc : cnt (fun k => x.testBit k) 64 = s0 + (s1 + (s2 + (s3 + (s4 + (s5 + (s6 + s7)))))) := by
    rw [show 64 = 8 + 56 from rfl, cnt8, show 56 = 8 + 48 from rfl, cnt8, show 48 = 8 + 40 from rfl, cnt8, show 40 = 8 + 32 from rfl, cnt8, show 32 = 8 + 24 from rfl, cnt8, show 24 = 8 + 16 from rfl, cnt8, show 16 = 8 + 8 from rfl, cnt8, ← pc_low, q0, q1, q2, q3, q4, q5, q6, q7]
  have a1 : IntKind.u64.wrap (bAnd .u64 (shR .u64 (x : Int) 1) 6148914691236517205 + bAnd .u64 (x : Int) 6148914691236517205) = ((f1 8 x : Nat) : Int) := by
    rw [shr_of (k := 1) (m := 1) rfl (by decide), show (6148914691236517205 : Int) = ((6148914691236517205 : Nat) : Int) from rfl, and64 (by omega) (by decide), and64 h (by decide), ← Int.natCast_add, wrap_nat]
    · unfold f1
      rw [hm.1]
    · have := h1
      unfold f1 at this
      rw [hm.1] at this
      exact Nat.lt_of_lt_of_le this (by decide)
  unfold bits_OnesCount64.f
  rw [a1]
  generalize f1 8 x = y1 at *
  have hy1 : y1 < 2 ^ 64 := Nat.lt_of_lt_of_le h1 (by decide)
  have a2 : IntKind.u64.wrap (bAnd .u64 (shR .u64 (y1 : Int) 2) 3689348814741910323 + bAnd .u64 (y1 : Int) 3689348814741910323) = ((f2 8 y1 : Nat) : Int) := by
    rw [shr_of (k := 2) (m := 2) rfl (by decide), show (3689348814741910323 : Int) = ((3689348814741910323 : Nat) : Int) from rfl, and64 (by omega) (by decide), and64 hy1 (by decide), ← Int.natCast_add, wrap_nat]
    · unfold f2
      rw [hm.2.1]
    · have := h2
      unfold f2 at this
      rw [hm.2.1, hm.2.2.2] at this
      exact Nat.lt_of_le_of_lt this (by decide)
  rw [a2]
  rw [hm.2.2.2] at h2
  generalize f2 8 y1 = y2 at *
  have a3 : bAnd .u64 (IntKind.u64.wrap (shR .u64 (y2 : Int) 4 + (y2 : Int))) 1085102592571150095 = ((tn 8 x : Nat) : Int) := by
    rw [shr_of (k := 4) (m := 4) rfl (by decide), ← Int.natCast_add, wrap_nat (by rw [p64]; omega), show (1085102592571150095 : Int) = ((1085102592571150095 : Nat) : Int) from rfl, and64 (by rw [p64]; omega) (by decide), ← h3]
    unfold f3
    rw [hm.2.2.1]
  rw [a3, ht]
  have sh : ∀ (y m : Nat) (k : Int), k = (m : Int) → m ≤ 64 → y + y / 2 ^ m < 2 ^ 64 → IntKind.u64.wrap ((y : Int) + shR .u64 (y : Int) k) = ((y + y / 2 ^ m : Nat) : Int) := by
    intro y m k hk hm hy
    rw [shr_of hk hm, ← Int.natCast_add, wrap_nat hy]
  rw [sh _ 8 8 rfl (by decide) (by rw [p64]; omega), sh _ 16 16 rfl (by decide) (by rw [p64]; omega), sh _ 32 32 rfl (by decide) (by rw [p64]; omega), and127 (by omega), hc]
  clear a3 a2 a1 hc q0 q1 q2 q3 q4 q5 q6 q7 sh h3 ht hy1 h1 h2 hm h
  refine congrArg (fun n : Nat => some ((n : Nat) : Int)) ?_
  rw [show (2 : Nat) ^ 8 = 256 from by decide, show (2 : Nat) ^ 16 = 65536 from by decide, show (2 : Nat) ^ 32 = 4294967296 from by decide]
  exact fold8 hs
noncomputable def wordAt (f : Nat → Bool) (j : Nat) : Nat := wdN (fun k => f (64 * j + k)) 64
noncomputable def wordsOf (f : Nat → Bool) (m : Nat) : List Int := (List.range m).map fun j => ((wordAt f j : Nat) : Int)
noncomputable def setOf (n : Nat) (f : Nat → Bool) : S_bits_Set := ⟨(n : Int), wordsOf f ((n + 63) / 64)⟩
def els (n : Nat) (f : Nat → Bool) : List Int := ((List.range n).filter f).map fun (k : Nat) => (k : Int)
def Low (n : Nat) (f : Nat → Bool) : Prop := ∀ k, f k = true → k < n
def addF (n : Nat) (f : Nat → Bool) (l : List Int) : Nat → Bool := fun k => f k || (decide (k < n) && decide ((k : Int) ∈ l))
def dropF (f : Nat → Bool) (l : List Int) : Nat → Bool := fun k => f k && !decide ((k : Int) ∈ l)
def hasI (n : Nat) (f : Nat → Bool) (k : Int) : Bool := decide (0 ≤ k) && (decide (k < (n : Int)) && f k.toNat)
theorem words_len (f : Nat → Bool) (m : Nat) : (wordsOf f m).length = m := by simp [wordsOf]
theorem words_ix {f : Nat → Bool} {m j : Nat} (h : j < m) : ix (wordsOf f m) (j : Int) = ((wordAt f j : Nat) : Int) := by
  rw [ix_nat (by rw [words_len]; exact h)]
  simp [wordsOf]
theorem word_congr {f g : Nat → Bool} {j : Nat} (h : ∀ k, k < 64 → f (64 * j + k) = g (64 * j + k)) : wordAt f j = wordAt g j := wdN_congr h
theorem words_congr {f g : Nat → Bool} {m : Nat} (h : ∀ k, k < 64 * m → f k = g k) : wordsOf f m = wordsOf g m := by
  unfold wordsOf
  apply List.map_congr_left
  intro j hj
  have := List.mem_range.1 hj
  rw [word_congr fun k hk => h _ (by omega)]
theorem set_congr {f g : Nat → Bool} {n : Nat} (h : ∀ k, f k = g k) : setOf n f = setOf n g := by
  rw [show f = g from funext h]
theorem words_set {f : Nat → Bool} {m k : Nat} {v : Nat} (hk : k / 64 < m) (g : Nat → Bool) (hv : v = wordAt g (k / 64)) (hg : ∀ i, i / 64 ≠ k / 64 → g i = f i) : (wordsOf f m).set (k / 64) ((v : Nat) : Int) = wordsOf g m := by
  apply List.ext_getElem (by simp [wordsOf])
  intro j h1 h2
  rw [List.getElem_set]
  simp only [wordsOf, List.getElem_map, List.getElem_range]
  by_cases e : k / 64 = j
  · rw [if_pos e, hv, e]
  · rw [if_neg e, word_congr fun i hi => (hg (64 * j + i) (by omega)).symm]
theorem tdiv64 (k : Nat) : Int.tdiv (k : Int) 64 = ((k / 64 : Nat) : Int) := by
  rw [Int.tdiv_eq_ediv_of_nonneg (by omega)]
  omega
theorem tmod64 (k : Nat) : Int.tmod (k : Int) 64 = ((k % 64 : Nat) : Int) := by
  rw [Int.tmod_eq_emod_of_nonneg (by omega)]
  omega
theorem may_b {fu : Nat} {s : S_bits_Set} {k : Int} : bits_Set_may.f fu s k = some (decide (0 ≤ k) && decide (k < s.size)) := by
  unfold bits_Set_may.f
  by_cases h : k ≥ 0
  · have h' : 0 ≤ k := h
    simp [h']
  · have h' : ¬ 0 ≤ k := h
    simp [h']
theorem has_eq {fu n : Nat} {f : Nat → Bool} {k : Int} (hn : n ≤ 100000) : bits_Set_Has.f fu (setOf n f) k = some (hasI n f k) := by
  unfold bits_Set_Has.f hasI
  rw [may_b]
  simp only [Option.bind_some]
  by_cases h : 0 ≤ k ∧ k < (n : Int)
  · obtain ⟨j, rfl⟩ : ∃ j : Nat, k = (j : Int) := ⟨k.toNat, by omega⟩
    have hj : j / 64 < (n + 63) / 64 := by omega
    rw [show (setOf n f).size = (n : Int) from rfl, decide_eq_true h.1, decide_eq_true h.2, Bool.true_and, if_pos rfl, tdiv64, tmod64, w64 (by omega) (by omega), show (setOf n f).words = wordsOf f ((n + 63) / 64) from rfl, words_ix hj, if_pos ⟨by omega, by rw [words_len]; omega⟩, if_pos (by omega)]
    have := has_wd (g := fun r => f (64 * (j / 64) + r)) (r := j % 64) (by omega)
    unfold wordAt
    rw [this]
    simp only [Bool.true_and, Int.toNat_natCast]
    rw [show 64 * (j / 64) + j % 64 = j by omega]
  · rw [show (setOf n f).size = (n : Int) from rfl]
    by_cases h0 : 0 ≤ k
    · rw [decide_eq_true h0, decide_eq_false (fun q => h ⟨h0, q⟩)]
      rfl
    · rw [decide_eq_false h0]
      rfl
theorem one_eq {n : Nat} {f : Nat → Bool} {x : Int} {fu : Nat} (hn : n ≤ 100000) (op : Int → Int → Int) (g : Bool → Bool → Bool) (hop : ∀ (g' : Nat → Bool) (r : Nat), r < 64 → op ((wdN g' 64 : Nat) : Int) (shL .u64 1 (r : Int)) = ((wdN (fun k => g (g' k) (decide (k = r))) 64 : Nat) : Int)) (hg : ∀ b, g b false = b) :
    ((if (decide (0 ≤ x) && decide (x < (n : Int))) = true then if 0 ≤ (IntKind.i64.wrap (Int.tdiv x 64)) ∧ (IntKind.i64.wrap (Int.tdiv x 64)) < (List.length (wordsOf f ((n + 63) / 64)) : Int) then if 0 ≤ (Int.tmod x 64) then if 0 ≤ (IntKind.i64.wrap (Int.tdiv x 64)) ∧ (IntKind.i64.wrap (Int.tdiv x 64)) < (List.length (wordsOf f ((n + 63) / 64)) : Int) then some ((List.set (wordsOf f ((n + 63) / 64)) (Int.toNat (IntKind.i64.wrap (Int.tdiv x 64))) (op (ix (wordsOf f ((n + 63) / 64)) (IntKind.i64.wrap (Int.tdiv x 64))) (shL .u64 1 (Int.tmod x 64))))) else none else none else none else some (wordsOf f ((n + 63) / 64))) : Option (List Int)) =
      some (wordsOf (fun k => g (f k) (decide (k < n) && decide ((k : Int) = x))) ((n + 63) / 64)) := by
  by_cases h : 0 ≤ x ∧ x < (n : Int)
  · obtain ⟨j, rfl⟩ : ∃ j : Nat, x = (j : Int) := ⟨x.toNat, by omega⟩
    have hj : j / 64 < (n + 63) / 64 := by omega
    rw [decide_eq_true h.1, decide_eq_true h.2, Bool.true_and, if_pos rfl, tdiv64, tmod64, w64 (by omega) (by omega), if_pos ⟨by omega, by rw [words_len]; omega⟩, if_pos (by omega), if_pos ⟨by omega, by rw [words_len]; omega⟩, words_ix hj, Int.toNat_natCast]
    unfold wordAt
    rw [hop _ _ (by omega)]
    refine congrArg some (words_set hj _ ?_ ?_)
    rotate_left
    · intro i hi
      have : ¬ ((i : Int) = (j : Int)) := by omega
      simp [this, hg]
    · unfold wordAt
      refine wdN_congr fun k hk => ?_
      congr 1
      by_cases e : k = j % 64
      · have e1 : 64 * (j / 64) + k = j := by omega
        have e2 : j < n := by omega
        rw [e1, decide_eq_true e2, decide_eq_true e, decide_eq_true (rfl : (j : Int) = (j : Int))]
        rfl
      · have e1 : ¬ ((64 * (j / 64) + k : Nat) : Int) = (j : Int) := by omega
        simp only [e, e1, decide_false, Bool.and_false]
  · have hb : (decide (0 ≤ x) && decide (x < (n : Int))) = false := by
      by_cases h0 : 0 ≤ x
      · rw [decide_eq_false (fun q => h ⟨h0, q⟩), Bool.and_false]
      · rw [decide_eq_false h0, Bool.false_and]
    rw [hb, if_neg (by decide)]
    refine congrArg some (words_congr fun k _ => ?_)
    have : (decide (k < n) && decide ((k : Int) = x)) = false := by
      by_cases e : (k : Int) = x
      · have : ¬ k < n := by omega
        simp [this]
      · simp [e]
    rw [this, hg]
theorem add_eq {fu n : Nat} {f : Nat → Bool} {l : List Int} (hn : n ≤ 100000) (hl : l.length ≤ 100000) (hf : l.length < fu) : bits_Set_Add.f fu (setOf n f) l = some (setOf n (addF n f l)) := by
  unfold bits_Set_Add.f
  have : loopM (bits_Set_Add.s0 fu (setOf n f) l) fu (0, (setOf n f).words) = some (wordsOf (addF n f l) ((n + 63) / 64)) := by
    refine loopM_run (S := fun j => ((j : Int), wordsOf (addF n f (l.take j)) ((n + 63) / 64))) l.length ?_ ?_ ?_ hf
    · simp only [show wordsOf (addF n f (l.take 0)) ((n + 63) / 64) = wordsOf f ((n + 63) / 64) from words_congr fun k _ => by simp [addF]]
      rfl
    · intro j hj
      unfold bits_Set_Add.s0
      have c1 : 0 ≤ (j : Int) ∧ (j : Int) < (l.length : Int) := by omega
      simp only
      rw [decide_eq_true c1.2, if_pos rfl, if_pos c1, ix_nat hj, may_b, next64 hj (by omega)]
      simp only [Option.bind_some]
      rw [show (setOf n f).size = (n : Int) from rfl, one_eq (fu := fu) hn (bOr .u64) (fun a b => a || b) (fun g r hr => or_wd hr) (by simp)]
      simp only [Option.bind_some]
      rw [words_congr fun k _ => show _ = addF n f (l.take (j + 1)) k from ?_]
      simp only [addF, take_next hj, List.mem_append, List.mem_singleton]
      cases f k <;> cases decide (k < n) <;> simp
    · unfold bits_Set_Add.s0
      rw [decide_eq_false (show ¬ ((l.length : Int) < (l.length : Int)) by omega), if_neg (by decide), List.take_length]
  rw [this]
  rfl
theorem dropp_eq {fu n : Nat} {f : Nat → Bool} {l : List Int} (hn : n ≤ 100000) (hl : l.length ≤ 100000) (hf : l.length < fu) (hlow : Low n f) : bits_Set_Drop.f fu (setOf n f) l = some (setOf n (dropF f l)) := by
  unfold bits_Set_Drop.f
  have : loopM (bits_Set_Drop.s0 fu (setOf n f) l) fu (0, (setOf n f).words) = some (wordsOf (dropF f l) ((n + 63) / 64)) := by
    refine loopM_run (S := fun j => ((j : Int), wordsOf (dropF f (l.take j)) ((n + 63) / 64))) l.length ?_ ?_ ?_ hf
    · simp only [show wordsOf (dropF f (l.take 0)) ((n + 63) / 64) = wordsOf f ((n + 63) / 64) from words_congr fun k _ => by simp [dropF]]
      rfl
    · intro j hj
      unfold bits_Set_Drop.s0
      have c1 : 0 ≤ (j : Int) ∧ (j : Int) < (l.length : Int) := by omega
      simp only
      rw [decide_eq_true c1.2, if_pos rfl, if_pos c1, ix_nat hj, may_b, next64 hj (by omega)]
      simp only [Option.bind_some]
      rw [show (setOf n f).size = (n : Int) from rfl, one_eq (fu := fu) hn (bNot .u64) (fun a b => a && !b) (fun g r hr => not_wd hr) (by simp)]
      simp only [Option.bind_some]
      rw [words_congr fun k _ => show _ = dropF f (l.take (j + 1)) k from ?_]
      simp only [dropF, take_next hj, List.mem_append, List.mem_singleton]
      by_cases hk : k < n
      · cases f k <;> simp [hk]
      · have : f k = false := by
          cases e : f k
          · rfl
          · exact absurd (hlow k e) hk
        simp [this]
    · unfold bits_Set_Drop.s0
      rw [decide_eq_false (show ¬ ((l.length : Int) < (l.length : Int)) by omega), if_neg (by decide), List.take_length]
  rw [this]
  rfl
theorem cnt_low {f : Nat → Bool} {n m : Nat} (h : Low n f) (hm : n ≤ m) : cnt f m = cnt f n := by
  obtain ⟨k, rfl⟩ : ∃ k, m = n + k := ⟨m - n, by omega⟩
  rw [cnt_add]
  have : cnt (fun k => f (n + k)) k = 0 := by
    unfold cnt
    rw [List.length_eq_zero_iff, List.filter_eq_nil_iff]
    intro i _ hi
    have := h _ hi
    omega
  omega
theorem count_eq {fu n : Nat} {f : Nat → Bool} (hn : n ≤ 100000) (hf : n < fu) (hlow : Low n f) : bits_Set_Count.f fu (setOf n f) = some ((cnt f n : Nat) : Int) := by
  unfold bits_Set_Count.f
  have hle : ∀ j, cnt f (64 * j) ≤ 64 * j := fun j => by
    unfold cnt
    exact Nat.le_trans (List.length_filter_le _ _) (by simp)
  have : loopM (bits_Set_Count.s0 fu (setOf n f)) fu (0, 0) = some ((cnt f (64 * ((n + 63) / 64)) : Nat) : Int) := by
    refine loopM_run (S := fun j => (((cnt f (64 * j) : Nat) : Int), (j : Int))) ((n + 63) / 64) (by simp [cnt]) ?_ ?_ (by omega)
    · intro j hj
      unfold bits_Set_Count.s0
      have hw : (setOf n f).words = wordsOf f ((n + 63) / 64) := rfl
      have c1 : 0 ≤ (j : Int) ∧ (j : Int) < ((wordsOf f ((n + 63) / 64)).length : Int) := by rw [words_len]; omega
      simp only [hw]
      rw [decide_eq_true c1.2, if_pos rfl, if_pos c1, words_ix hj, show bits_OnesCount64.f fu ((wordAt f j : Nat) : Int) = _ from ones_eq (wdN_lt _ 64), next64 hj (by omega)]
      simp only [Option.bind_some]
      have hc : cnt (fun k => (wordAt f j).testBit k) 64 = cnt (fun k => f (64 * j + k)) 64 := by
        refine cnt_congr fun k hk => ?_
        unfold wordAt
        rw [wdN_bit]
        simp [hk]
      have h1 := hle j
      have h2 := hle (j + 1)
      rw [hc, ← Int.natCast_add, ← cnt_add, show 64 * j + 64 = 64 * (j + 1) by omega, w64 (by omega) (by omega)]
    · unfold bits_Set_Count.s0
      have hw : (setOf n f).words = wordsOf f ((n + 63) / 64) := rfl
      simp only [hw]
      rw [words_len, decide_eq_false (by omega), if_neg (by decide)]
  rw [this, cnt_low hlow (by omega)]
  rfl
theorem filter_first {p q : Nat → Bool} {k n : Nat} (hk : k < n) (h1 : ∀ j, j < k → p j = false) (h2 : p k = true) (h3 : ∀ j, k < j → p j = q j) (h4 : ∀ j, j ≤ k → q j = false) : (List.range n).filter p = k :: (List.range n).filter q := by
  obtain ⟨m, rfl⟩ : ∃ m, n = k + 1 + m := ⟨n - (k + 1), by omega⟩
  have e1 : (List.range k).filter p = [] := by
    rw [List.filter_eq_nil_iff]
    intro j hj
    rw [h1 j (List.mem_range.1 hj)]
    decide
  have e2 : (List.range (k + 1)).filter q = [] := by
    rw [List.filter_eq_nil_iff]
    intro j hj
    rw [h4 j (by have := List.mem_range.1 hj; omega)]
    decide
  rw [List.range_add, List.filter_append, List.filter_append, e2, List.range_succ, List.filter_append, e1]
  simp only [List.filter_cons, h2, if_true, List.filter_nil, List.nil_append, List.cons_append, List.cons.injEq, true_and]
  apply List.filter_congr
  intro j hj
  obtain ⟨i, _, rfl⟩ := List.mem_map.1 hj
  exact h3 _ (by omega)
theorem low_bits {k q : Nat} (h : 2 ^ k * (2 * q + 1) < 2 ^ 64) : (List.range 64).filter (fun r => (2 ^ k * (2 * q + 1)).testBit r) = k :: (List.range 64).filter (fun r => (2 ^ k * (2 * q)).testBit r) := by
  refine filter_first (low_neg h).1 (fun j hj => ?_) ?_ (fun j hj => ?_) (fun j hj => ?_)
  · rw [tb0, if_pos hj]
  · rw [tb0, if_neg (by omega), Nat.sub_self, Nat.testBit_zero]
    simp
  · rw [tb0, tb0, if_neg (by omega), if_neg (by omega)]
    obtain ⟨m, hm⟩ : ∃ m, j - k = m + 1 := ⟨j - k - 1, by omega⟩
    rw [hm, Nat.testBit_succ, Nat.testBit_succ, show (2 * q + 1) / 2 = q by omega, show 2 * q / 2 = q by omega]
  · rw [tb0]
    split
    · rfl
    · rw [show j - k = 0 by omega, Nat.testBit_zero]
      simp
theorem list_in {fu i : Nat} {s : List Int × Int} (hs : s.2 = (i : Int)) (hi : i ≤ 100000) : ∀ (c x k : Nat) (acc : List Int), x < 2 ^ 64 → ((List.range 64).filter fun r => x.testBit r).length = c → c < k → acc.length + c ≤ 1000000 →
    loopM (bits_Set_List.s1 fu s) k (acc, (x : Int)) = some (acc ++ ((List.range 64).filter fun r => x.testBit r).map fun r => ((64 * i + r : Nat) : Int))
  | c, x, 0, acc, hx, hc, hk, ha => by omega
  | c, x, k + 1, acc, hx, hc, hk, ha => by
    unfold loopM
    by_cases e : x = 0
    · subst e
      have : bits_Set_List.s1 fu s (acc, ((0 : Nat) : Int)) = some (.inl acc) := by
        unfold bits_Set_List.s1
        rfl
      rw [this]
      simp
    · obtain ⟨t, q, hx'⟩ := low_split e
      rw [hx'] at hx hc ⊢
      have hl := low_bits hx
      have ht := (low_neg hx).1
      have h0 : ¬ ((2 ^ t * (2 * q + 1) : Nat) : Int) = 0 := by
        intro z
        rw [← hx'] at z
        omega
      have hpos : 0 < 2 ^ t * (2 * q + 1) := by omega
      have hlt : 2 ^ t * (2 * q) < 2 ^ 64 := Nat.lt_of_le_of_lt (Nat.mul_le_mul_left _ (by omega)) hx
      have hw : IntKind.u64.wrap (((2 ^ t * (2 * q + 1) : Nat) : Int) - 1) = ((2 ^ t * (2 * q + 1) - 1 : Nat) : Int) := by
        have : ((2 ^ t * (2 * q + 1) : Nat) : Int) - 1 = ((2 ^ t * (2 * q + 1) - 1 : Nat) : Int) := by omega
        rw [this]
        exact wrap_nat (by omega)
      have hst : bits_Set_List.s1 fu s (acc, ((2 ^ t * (2 * q + 1) : Nat) : Int)) = some (.inr (acc ++ [((64 * i + t : Nat) : Int)], ((2 ^ t * (2 * q) : Nat) : Int))) := by
        unfold bits_Set_List.s1
        simp only
        rw [decide_eq_false h0, Bool.not_false, if_pos rfl, tz_eq hx]
        simp only [Option.bind_some]
        rw [hs, w64 (n := (i : Int) * 64) (by omega) (by omega), w64 (by omega) (by omega), hw, and64 hx (by omega), low_and, show (i : Int) * 64 + (t : Int) = ((64 * i + t : Nat) : Int) by omega]
        rw [if_pos (Nat.le_trans (by simp only [List.length_cons, List.length_nil]; omega : _ ≤ 1000001) (by decide))]
      rw [hst, hl]
      rw [hl, List.length_cons] at hc
      have ih := list_in (fu := fu) hs hi (c - 1) (2 ^ t * (2 * q)) k (acc ++ [((64 * i + t : Nat) : Int)]) hlt (by omega) (by omega) (by simp only [List.length_append, List.length_cons, List.length_nil]; omega)
      simp only
      rw [ih]
      simp
theorem els_add (f : Nat → Bool) (m n : Nat) : els (m + n) f = els m f ++ ((List.range n).filter fun k => f (m + k)).map fun k => ((m + k : Nat) : Int) := by
  unfold els
  rw [List.range_add, List.filter_append, List.map_append, List.filter_map, List.map_map]
  rfl
theorem els_len (n : Nat) (f : Nat → Bool) : (els n f).length = cnt f n := by simp [els, cnt]
theorem els_low {f : Nat → Bool} {n m : Nat} (h : Low n f) (hm : n ≤ m) : els m f = els n f := by
  obtain ⟨k, rfl⟩ : ∃ k, m = n + k := ⟨m - n, by omega⟩
  rw [els_add]
  have : (List.range k).filter (fun k => f (n + k)) = [] := by
    rw [List.filter_eq_nil_iff]
    intro i _ hi
    have := h _ hi
    omega
  rw [this]
  simp
theorem cnt_le (f : Nat → Bool) (n : Nat) : cnt f n ≤ n := by
  unfold cnt
  exact Nat.le_trans (List.length_filter_le _ _) (by simp)
theorem list_eq {fu n : Nat} {f : Nat → Bool} (hn : n ≤ 100000) (hf : n + 64 < fu) (hlow : Low n f) : bits_Set_List.f fu (setOf n f) = some (els n f) := by
  unfold bits_Set_List.f
  have : loopM (bits_Set_List.s0 fu (setOf n f)) fu ([], 0) = some (els (64 * ((n + 63) / 64)) f) := by
    refine loopM_run (S := fun j => (els (64 * j) f, (j : Int))) ((n + 63) / 64) (by simp [els]) ?_ ?_ (by omega)
    · intro j hj
      unfold bits_Set_List.s0
      have hw : (setOf n f).words = wordsOf f ((n + 63) / 64) := rfl
      have c1 : 0 ≤ (j : Int) ∧ (j : Int) < ((wordsOf f ((n + 63) / 64)).length : Int) := by rw [words_len]; omega
      simp only [hw]
      have hb : ((List.range 64).filter fun r => (wordAt f j).testBit r) = (List.range 64).filter fun r => f (64 * j + r) := by
        apply List.filter_congr
        intro r hr
        unfold wordAt
        rw [wdN_bit]
        simp [List.mem_range.1 hr]
      have hle : ((List.range 64).filter fun r => (wordAt f j).testBit r).length ≤ 64 := Nat.le_trans (List.length_filter_le _ _) (by simp)
      have hel : (els (64 * j) f).length ≤ 64 * j := by rw [els_len]; exact cnt_le _ _
      rw [decide_eq_true c1.2, if_pos rfl, if_pos c1, words_ix hj, list_in (fu := fu) (i := j) (s := (els (64 * j) f, (j : Int))) rfl (by omega) _ (wordAt f j) fu (els (64 * j) f) (wdN_lt _ 64) rfl (by omega) (by omega), next64 hj (by omega)]
      simp only [Option.bind_some]
      rw [hb, ← els_add, show 64 * j + 64 = 64 * (j + 1) by omega]
    · unfold bits_Set_List.s0
      have hw : (setOf n f).words = wordsOf f ((n + 63) / 64) := rfl
      simp only [hw]
      rw [words_len, decide_eq_false (by omega), if_neg (by decide)]
  rw [this, els_low hlow (by omega)]
  rfl
theorem mem_els {n k : Nat} {f : Nat → Bool} : (k : Int) ∈ els n f ↔ k < n ∧ f k = true := by
  unfold els
  rw [List.mem_map]
  constructor
  · rintro ⟨i, hi, e⟩
    have : i = k := by omega
    subst this
    obtain ⟨h1, h2⟩ := List.mem_filter.1 hi
    exact ⟨List.mem_range.1 h1, h2⟩
  · rintro ⟨h1, h2⟩
    exact ⟨k, List.mem_filter.2 ⟨List.mem_range.2 h1, h2⟩, rfl⟩
theorem clone_eq {fu n : Nat} {f : Nat → Bool} (hn : n ≤ 100000) : bits_Set_clone.f fu (setOf n f) = some (setOf n f) := by
  unfold bits_Set_clone.f slices_Clone.f
  rw [show (setOf n f).words = wordsOf f ((n + 63) / 64) from rfl, words_len, if_pos (Nat.le_trans (by omega : _ ≤ 1000000) (by decide))]
  rfl
theorem with_eq {fu n : Nat} {f g : Nat → Bool} (hn : n ≤ 90000) (hf : n + 64 < fu) (hg : Low n g) : bits_Set_With.f fu (setOf n f) (setOf n g) = some (setOf n fun k => f k || g k) := by
  unfold bits_Set_With.f
  have hl := cnt_le g n
  rw [clone_eq (by omega), list_eq (by omega) hf hg]
  simp only [Option.bind_some]
  rw [add_eq (by omega) (by rw [els_len]; omega) (by rw [els_len]; omega)]
  refine congrArg some (set_congr fun k => ?_)
  unfold addF
  congr 1
  rw [Bool.eq_iff_iff]
  simp only [Bool.and_eq_true, decide_eq_true_eq, mem_els]
  exact ⟨fun h => h.2.2, fun h => ⟨hg k h, hg k h, h⟩⟩
theorem with1_eq {fu n : Nat} {f : Nat → Bool} (hn : n ≤ 90000) (hf : n + 64 < fu) (hg : Low n f) : bits_Set_With_a1.f fu (setOf n f) = some (setOf n f) := by
  have h := with_eq (fu := fu) (f := f) hn hf hg
  unfold bits_Set_With.f at h
  unfold bits_Set_With_a1.f
  rw [h]
  refine congrArg some (set_congr fun k => ?_)
  simp
theorem gap_eq {fu n k : Nat} {f : Nat → Bool} (hn : n ≤ 100000) (hf : n < fu) (hk : k < n) (h0 : f k = false) (h1 : ∀ i, i < k → f i = true) : bits_Set_Gap.f fu (setOf n f) 0 = some (k : Int) := by
  unfold bits_Set_Gap.f
  have : loopM (bits_Set_Gap.s0 fu (setOf n f)) fu (mxI 0 0) = some (.inl (k : Int)) := by
    refine loopM_run (S := fun j => ((j : Nat) : Int)) k (by rfl) ?_ ?_ (by omega)
    · intro j hj
      unfold bits_Set_Gap.s0
      rw [show (setOf n f).size = (n : Int) from rfl, decide_eq_true (by omega), if_pos rfl, has_eq hn, next64 (n := n) (by omega) hn]
      have : hasI n f (j : Int) = true := by
        unfold hasI
        rw [decide_eq_true (by omega), decide_eq_true (by omega), Int.toNat_natCast, h1 j hj]
        rfl
      simp [this]
    · unfold bits_Set_Gap.s0
      rw [show (setOf n f).size = (n : Int) from rfl, decide_eq_true (by omega), if_pos rfl, has_eq hn]
      have : hasI n f (k : Int) = false := by
        unfold hasI
        rw [Int.toNat_natCast, h0]
        simp
      simp [this]
  rw [this]
  rfl
theorem of_eq {fu n : Nat} {l : List Int} (hn : n ≤ 3072) (hl : l.length ≤ 100000) (hf : l.length < fu) : bits_Of.f fu (n : Int) l = some (setOf n (addF n (fun _ => false) l)) := by
  unfold bits_Of.f
  have e1 : mnI (mxI (n : Int) 0) 3072 = (n : Int) := by
    unfold mxI mnI
    rw [if_neg (by omega)]
    split <;> omega
  have e2 : IntKind.i64.wrap (Int.tdiv (IntKind.i64.wrap ((IntKind.i64.wrap ((n : Int) + 64)) - 1)) 64) = (((n + 63) / 64 : Nat) : Int) := by
    rw [w64 (n := (n : Int) + 64) (by omega) (by omega), w64 (n := (n : Int) + 64 - 1) (by omega) (by omega), show (n : Int) + 64 - 1 = ((n + 63 : Nat) : Int) by omega, tdiv64, w64 (by omega) (by omega)]
  rw [e1, e2, if_pos ⟨by omega, Nat.le_trans (by omega : _ ≤ 100000) (by decide)⟩, Int.toNat_natCast]
  have e3 : (⟨(n : Int), List.replicate ((n + 63) / 64) (0 : Int)⟩ : S_bits_Set) = setOf n fun _ => false := by
    unfold setOf
    congr 1
    apply List.ext_getElem (by simp [wordsOf])
    intro i h1 h2
    have : wordAt (fun _ => false) i = 0 := by
      apply Nat.eq_of_testBit_eq
      intro k
      unfold wordAt
      rw [wdN_bit]
      simp
    simp [wordsOf, this]
  rw [e3, add_eq (by omega) hl hf]
  rfl
end Go.Proofs.YtdifnahlheogdaaDoor.Pure
namespace Go.Proofs.YtdifnahlheogdaaDoor
open Go Go.Xw Go.Yw
end Go.Proofs.YtdifnahlheogdaaDoor
namespace Go.Proofs.YtdifnahlheogdaaDoor.Pure
open Go Go.Xw Go.Yw
structure AA where
  r : Int
  c : Nat → Bool
  e : Nat → Bool
  m : Nat → Bool
  w : Nat → Bool
noncomputable def AA.of (n : Nat) (a : AA) : S_alloc_Alloc := ⟨a.r, (setOf n a.c, setOf n a.e, setOf n a.m, setOf n a.w)⟩
structure AOk (n : Nat) (a : AA) : Prop where
  c : Low n a.c
  e : Low n a.e
  m : Low n a.m
  w : Low n a.w
  r : 0 ≤ a.r ∧ a.r ≤ 1000
def AA.held (a : AA) : Nat → Bool := fun k => ((a.w k || a.c k) || a.e k) || a.m k
def AA.free (n : Nat) (a : AA) : List Nat := (List.range n).filter fun k => !a.held k
def AA.least (n : Nat) (a : AA) : Nat := (a.free n).headD 0
def AA.setW (a : AA) (w : Nat → Bool) : AA := ⟨a.r, a.c, a.e, a.m, w⟩
def AA.put (n : Nat) (a : AA) (k : Nat) : AA := a.setW (addF n a.w [(k : Int)])
def AA.cut (a : AA) (k : Int) : AA := a.setW (dropF a.w [k])
def AA.mark (a : AA) : AA := ⟨a.r, a.c, a.e, a.w, a.w⟩
def AA.give (n : Nat) (a : AA) (k : Int) : Int × AA := if hasI n a.w k = true then (0, a.cut k) else (2, a)
def AA.own (n : Nat) (a : AA) (k : Int) : Bool := hasI n a.w k && !hasI n a.m k
def AA.take (n : Nat) (a : AA) : Int × Int × AA := if ((a.free n).length : Int) ≤ a.r then (0, 10, a) else ((a.least n : Int), 0, a.put n (a.least n))
theorem copied_eq {fu n : Nat} {f : Nat → Bool} (hn : n ≤ 90000) (hf : n + 64 < fu) (h : Low n f) : alloc_copied.f fu (setOf n f) = some (setOf n f) := by
  unfold alloc_copied.f
  rw [with1_eq hn hf h]
  rfl
theorem Low.or {n : Nat} {f g : Nat → Bool} (hf : Low n f) (hg : Low n g) : Low n (fun k => f k || g k) := by
  intro k h
  rcases Bool.or_eq_true_iff.1 h with h | h
  · exact hf k h
  · exact hg k h
theorem addF_low {n : Nat} {f : Nat → Bool} {l : List Int} (h : Low n f) : Low n (addF n f l) := by
  intro k hk
  unfold addF at hk
  rcases Bool.or_eq_true_iff.1 hk with h' | h'
  · exact h k h'
  · exact of_decide_eq_true (Bool.and_eq_true_iff.1 h').1
theorem dropF_low {n : Nat} {f : Nat → Bool} {l : List Int} (h : Low n f) : Low n (dropF f l) := fun k hk => h k (Bool.and_eq_true_iff.1 hk).1
theorem held_low {n : Nat} {a : AA} (h : AOk n a) : Low n a.held := ((h.w.or h.c).or h.e).or h.m
theorem held_eq {fu n : Nat} {a : AA} (hn : n ≤ 90000) (hf : n + 64 < fu) (h : AOk n a) : alloc_Alloc_held.f fu (a.of n) = some (setOf n a.held) := by
  unfold alloc_Alloc_held.f AA.of
  simp only
  rw [copied_eq hn hf h.w]
  simp only [Option.bind_some]
  rw [with_eq hn hf h.c]
  simp only [Option.bind_some]
  rw [with_eq hn hf h.e]
  simp only [Option.bind_some]
  rw [with_eq hn hf h.m]
  rfl
theorem cnt_not (f : Nat → Bool) : ∀ n, cnt f n + ((List.range n).filter fun k => !f k).length = n
  | 0 => rfl
  | n + 1 => by
    have := cnt_not f n
    unfold cnt at *
    rw [List.range_succ, List.filter_append, List.filter_append, List.length_append, List.length_append]
    cases h : f n <;> simp [h] <;> omega
theorem free_len (n : Nat) (a : AA) : ((a.free n).length : Int) = (n : Int) - ((cnt a.held n : Nat) : Int) := by
  have := cnt_not a.held n
  unfold AA.free
  omega
theorem filter_head {p : Nat → Bool} : ∀ {n : Nat}, ((List.range n).filter p).length ≠ 0 → ((List.range n).filter p).headD 0 < n ∧ p (((List.range n).filter p).headD 0) = true ∧ ∀ i, i < ((List.range n).filter p).headD 0 → p i = false
  | 0, h => absurd rfl h
  | n + 1, h => by
    rw [List.range_succ, List.filter_append] at h ⊢
    cases e : (List.range n).filter p with
    | nil =>
      rw [e] at h
      have hn : ∀ i, i < n → p i = false := by
        intro i hi
        have := List.filter_eq_nil_iff.1 e i (List.mem_range.2 hi)
        simpa using this
      cases hp : p n
      · simp [hp] at h
      · have e2 : [n].filter p = [n] := by simp [hp]
        rw [e2]
        exact ⟨by simp, hp, hn⟩
    | cons x l =>
      have := filter_head (p := p) (n := n) (by rw [e]; simp)
      rw [e] at this
      simp only [List.headD_cons, List.cons_append] at this ⊢
      exact ⟨by omega, this.2⟩
theorem least_ok {n : Nat} {a : AA} (h : (a.free n).length ≠ 0) : a.least n < n ∧ a.held (a.least n) = false ∧ ∀ i, i < a.least n → a.held i = true := by
  have := filter_head (p := fun k => !a.held k) (n := n) h
  simpa [AA.least, AA.free] using this
theorem take_eq {fu n : Nat} {a : AA} (hn : n ≤ 90000) (hf : n + 64 < fu) (h : AOk n a) : alloc_Alloc_Take.f fu (a.of n) = some ((a.take n).1, (a.take n).2.1, (a.take n).2.2.of n) := by
  have hr := h.r
  have hc := cnt_le a.held n
  have hfl := free_len n a
  unfold alloc_Alloc_Take.f alloc_Alloc_take.f
  rw [held_eq hn hf h]
  simp only [Option.bind_some, bits_Set_Size.f]
  rw [count_eq (by omega) (by omega) (held_low h)]
  simp only [Option.bind_some]
  rw [show (setOf n a.held).size = (n : Int) from rfl, w64 (by omega) (by omega), ← hfl, show (a.of n).reserve = a.r from rfl]
  unfold AA.take
  by_cases e : ((a.free n).length : Int) ≤ a.r
  · rw [decide_eq_true e, if_pos rfl, if_pos e]
    rfl
  · rw [decide_eq_false e, if_neg (by decide), if_neg e]
    obtain ⟨h1, h2, h3⟩ := least_ok (n := n) (a := a) (by omega)
    rw [gap_eq (by omega) (by omega) h1 h2 h3]
    simp only [Option.bind_some]
    rw [show (a.of n).sets.2.2.2 = setOf n a.w from rfl, add_eq (by omega) (by simp) (by simp; omega)]
    rfl
theorem give_eq {fu n : Nat} {a : AA} {k : Int} (hn : n ≤ 90000) (hf : n + 64 < fu) (h : AOk n a) : alloc_Alloc_Give.f fu (a.of n) k = some ((a.give n k).1, (a.give n k).2.of n) := by
  unfold alloc_Alloc_Give.f AA.give
  rw [show (a.of n).sets.2.2.2 = setOf n a.w from rfl, has_eq (by omega)]
  simp only [Option.bind_some]
  cases hasI n a.w k
  · rfl
  · rw [if_neg (by decide), if_pos rfl, dropp_eq (by omega) (by simp) (by simp; omega) h.w]
    rfl
theorem own_eq {fu n : Nat} {a : AA} {k : Int} (hn : n ≤ 90000) : alloc_Alloc_Own.f fu (a.of n) k = some (a.own n k) := by
  unfold alloc_Alloc_Own.f AA.own
  rw [show (a.of n).sets.2.2.2 = setOf n a.w from rfl, show (a.of n).sets.2.2.1 = setOf n a.m from rfl, has_eq (by omega)]
  simp only [Option.bind_some]
  cases hasI n a.w k
  · rfl
  · rw [if_pos rfl, has_eq (by omega)]
    rfl
theorem mark_eq {fu n : Nat} {a : AA} (hn : n ≤ 90000) (hf : n + 64 < fu) (h : AOk n a) : alloc_Alloc_Mark.f fu (a.of n) = some (a.mark.of n) := by
  unfold alloc_Alloc_Mark.f alloc_Alloc_become_c2_c3.f
  rw [show (a.of n).sets.2.2.2 = setOf n a.w from rfl, copied_eq hn hf h.w]
  rfl
theorem works_eq {fu n : Nat} {a : AA} (hn : n ≤ 90000) (hf : n + 64 < fu) (h : AOk n a) : alloc_Alloc_Works.f fu (a.of n) = some (setOf n a.w) := by
  unfold alloc_Alloc_Works.f
  rw [show (a.of n).sets.2.2.2 = setOf n a.w from rfl, copied_eq hn hf h.w]
  rfl
theorem anew_eq {fu n : Nat} {f g : Nat → Bool} {r : Int} (hn : n ≤ 90000) (hf : n + 64 < fu) (h1 : Low n f) (h2 : Low n g) (hr : 0 ≤ r) : alloc_New.f fu (setOf n f) (setOf n g) r = some (some ((⟨r, f, g, f, f⟩ : AA).of n), 0) := by
  unfold alloc_New.f bits_Set_Size.f
  simp only [Option.bind_some]
  rw [show (setOf n f).size = (n : Int) from rfl, show (setOf n g).size = (n : Int) from rfl, decide_eq_true (rfl : (n : Int) = (n : Int)), if_neg (by decide), decide_eq_false (show ¬ r < 0 by omega), if_neg (by decide), copied_eq hn hf h2, copied_eq hn hf h1]
  rfl
theorem take_ok {n : Nat} {a : AA} (h : AOk n a) : AOk n (a.take n).2.2 := by
  unfold AA.take
  split
  · exact h
  · exact ⟨h.c, h.e, h.m, addF_low h.w, h.r⟩
theorem give_ok {n : Nat} {a : AA} {k : Int} (h : AOk n a) : AOk n (a.give n k).2 := by
  unfold AA.give
  split
  · exact ⟨h.c, h.e, h.m, dropF_low h.w, h.r⟩
  · exact h
theorem mark_ok {n : Nat} {a : AA} (h : AOk n a) : AOk n a.mark := ⟨h.c, h.e, h.w, h.w, h.r⟩
def upd {α : Type} (g : Nat → α → α) (lo j : Nat) (cs : List α) : List α := cs.mapIdx fun i c => if lo ≤ i ∧ i < lo + j then g i c else c
theorem upd_len {α : Type} (g : Nat → α → α) (lo j : Nat) (cs : List α) : (upd g lo j cs).length = cs.length := by simp [upd]
theorem upd_zero {α : Type} (g : Nat → α → α) (lo : Nat) (cs : List α) : upd g lo 0 cs = cs := by
  apply List.ext_getElem (by simp [upd])
  intro i h1 h2
  simp only [upd, List.getElem_mapIdx]
  rw [if_neg (by omega)]
theorem upd_get {α : Type} (g : Nat → α → α) (lo j : Nat) (cs : List α) (i : Nat) (h : i < (upd g lo j cs).length) : (upd g lo j cs)[i] = if lo ≤ i ∧ i < lo + j then g i (cs[i]'(by simpa [upd] using h)) else cs[i]'(by simpa [upd] using h) := by
  simp only [upd, List.getElem_mapIdx]
theorem upd_next {α : Type} (g : Nat → α → α) (lo j : Nat) (cs : List α) (h : lo + j < cs.length) : (upd g lo j cs)[lo + j]'(by rw [upd_len]; exact h) = cs[lo + j] := by
  rw [upd_get, if_neg (by omega)]
theorem upd_set {α : Type} (g : Nat → α → α) (lo j : Nat) (cs : List α) (h : lo + j < cs.length) : (upd g lo j cs).set (lo + j) (g (lo + j) cs[lo + j]) = upd g lo (j + 1) cs := by
  apply List.ext_getElem (by simp [upd])
  intro i h1 h2
  rw [List.getElem_set, upd_get g lo (j + 1)]
  by_cases e : lo + j = i
  · subst e
    rw [if_pos rfl, if_pos (by omega)]
  · rw [if_neg e, upd_get]
    by_cases c : lo ≤ i ∧ i < lo + j
    · rw [if_pos c, if_pos (by omega)]
    · rw [if_neg c, if_neg (by omega)]
theorem upd_same {α : Type} (g : Nat → α → α) (lo j : Nat) (cs : List α) (h : lo + j < cs.length) (e : g (lo + j) cs[lo + j] = cs[lo + j]) : upd g lo j cs = upd g lo (j + 1) cs := by
  apply List.ext_getElem (by simp [upd])
  intro i h1 h2
  rw [upd_get g lo j, upd_get g lo (j + 1)]
  by_cases e' : lo + j = i
  · subst e'
    rw [if_neg (by omega), if_pos (by omega), e]
  · by_cases c : lo ≤ i ∧ i < lo + j
    · rw [if_pos c, if_pos (by omega)]
    · rw [if_neg c, if_neg (by omega)]
theorem getD_set {α : Type} (cs : List α) (i k : Nat) (v d : α) (hi : i < cs.length) : (cs.set i v).getD k d = if i = k then v else cs.getD k d := by
  simp only [List.getD_eq_getElem?_getD, List.getElem?_set]
  by_cases h : i = k
  · subst h
    simp [hi]
  · simp [h]
end Go.Proofs.YtdifnahlheogdaaDoor.Pure
namespace Go.Proofs.YtdifnahlheogdaaDoor
open Go Go.Xw Go.Yw
end Go.Proofs.YtdifnahlheogdaaDoor
namespace Go.Proofs.YtdifnahlheogdaaDoor.Pure
open Go Go.Xw Go.Yw
def lay (v n : Nat) : List Int := (List.range n).map fun i => ((v / 256 ^ i % 256 : Nat) : Int)
theorem lay_len (v n : Nat) : (lay v n).length = n := by simp [lay]
theorem lay_succ (v n : Nat) : lay v (n + 1) = lay v n ++ [((v / 256 ^ n % 256 : Nat) : Int)] := by
  simp [lay, List.range_succ]
theorem wu8_mod {n : Nat} : IntKind.u8.wrap (n : Int) = ((n % 256 : Nat) : Int) := by
  unfold IntKind.wrap
  simp only [IntKind.signed, IntKind.bits]
  simp
theorem shr64 (n : Nat) : shR .u64 (n : Int) 8 = ((n / 256 : Nat) : Int) := by
  unfold shR
  show Int.fdiv (n : Int) (2 ^ min ((8 : Int).toNat) 64) = _
  rw [show (2 : Int) ^ min ((8 : Int).toNat) 64 = 256 from by decide, Int.fdiv_eq_ediv_of_nonneg _ (by decide)]
  omega
theorem olay_eq {fu v n : Nat} (hn : n ≤ 8) (hf : n < fu) : octet_Lay.f fu (v : Int) (n : Int) = some (lay v n) := by
  unfold octet_Lay.f
  have h0 : ¬ ((n : Int) < 0) := by omega
  have h8 : ¬ ((n : Int) > 8) := by omega
  have hL : Int.toNat (n : Int) ≤ LIM := by
    have : (8 : Nat) ≤ LIM := by decide
    omega
  simp only [h0, h8, decide_false, Bool.false_eq_true, if_false]
  rw [if_pos ⟨by omega, hL⟩]
  have : loopM (octet_Lay.s0 fu (n : Int)) fu ((v : Int), 0, List.replicate (Int.toNat (n : Int)) (0 : Int)) = some (lay v n) := by
    refine loopM_run (S := fun j => (((v / 256 ^ j : Nat) : Int), (j : Int), lay v j ++ List.replicate (n - j) (0 : Int))) n (by simp [lay]) ?_ ?_ hf
    · intro j hj
      unfold octet_Lay.s0
      have w3 : IntKind.i64.wrap ((j : Int) + 1) = ((j + 1 : Nat) : Int) := by rw [w64 (by omega) (by omega)]; omega
      have e1 : (List.replicate (Int.toNat (n : Int)) (0 : Int)).length = n := by simp
      have e2 : (lay v j ++ List.replicate (n - j) (0 : Int)).length = n := by rw [List.length_append, lay_len, List.length_replicate]; omega
      have e3 : List.set (lay v j ++ List.replicate (n - j) (0 : Int)) (Int.toNat (j : Int)) (IntKind.u8.wrap ((v / 256 ^ j : Nat) : Int)) = lay v (j + 1) ++ List.replicate (n - (j + 1)) (0 : Int) := by
        rw [Int.toNat_natCast, List.set_append, if_neg (by rw [lay_len]; omega), lay_len, Nat.sub_self, wu8_mod, lay_succ, show n - j = n - (j + 1) + 1 from by omega, List.replicate_succ]
        simp
      have e4 : shR .u64 ((v / 256 ^ j : Nat) : Int) 8 = ((v / 256 ^ (j + 1) : Nat) : Int) := by
        rw [shr64, Nat.div_div_eq_div_mul, Nat.pow_succ]
      have h1 : (j : Int) < (n : Int) := by omega
      simp only [e1, e2, e3, e4, w3, h1, decide_true, if_true]
      rw [if_pos ⟨by omega, trivial⟩]
    · unfold octet_Lay.s0
      simp
  rw [this]
  rfl
def num : List Int → Nat
  | [] => 0
  | c :: l => c.toNat + 256 * num l
theorem num_append : ∀ (a b : List Int), num (a ++ b) = num a + 256 ^ a.length * num b
  | [], b => by simp [num]
  | c :: a, b => by
    simp only [List.cons_append, num, num_append a b, List.length_cons, Nat.pow_succ]
    rw [Nat.mul_add, Nat.add_assoc, ← Nat.mul_assoc, Nat.mul_comm 256 (256 ^ a.length)]
theorem num_lt : ∀ {l : List Int}, Bytes l → num l < 256 ^ l.length
  | [], _ => by simp [num]
  | c :: l, h => by
    have h1 := h c (by simp)
    have h2 := num_lt (l := l) fun x hx => h x (by simp [hx])
    simp only [num, List.length_cons, Nat.pow_succ]
    omega
theorem lay_num : ∀ {l : List Int}, Bytes l → lay (num l) l.length = l
  | [], _ => rfl
  | c :: l, h => by
    have h1 := h c (by simp)
    have h2 := lay_num (l := l) fun x hx => h x (by simp [hx])
    have e : lay (num (c :: l)) (l.length + 1) = c :: lay (num l) l.length := by
      unfold lay
      rw [List.range_succ_eq_map, List.map_cons, List.map_map]
      congr 1
      · simp only [num, Nat.pow_zero, Nat.div_one]
        omega
      · apply List.map_congr_left
        intro i hi
        simp only [Function.comp, num, Nat.succ_eq_add_one, Nat.pow_succ]
        rw [Nat.mul_comm (256 ^ i) 256, ← Nat.div_div_eq_div_mul, show (c.toNat + 256 * num l) / 256 = num l from by omega]
    rw [List.length_cons, e, h2]
theorem or_add (a c j : Nat) (ha : a < 256 ^ j) : a ||| c * 256 ^ j = a + 256 ^ j * c := by
  have e : 256 ^ j = 2 ^ (8 * j) := by rw [Nat.pow_mul]
  rw [e] at ha ⊢
  rw [Nat.mul_comm c, Nat.or_comm, ← Nat.two_pow_add_eq_or_of_lt ha, Nat.add_comm]
theorem read_eq {fu : Nat} {l : List Int} (hb : Bytes l) (hl : l.length ≤ 8) (hf : l.length < fu) : octet_Read.f fu l = some ((num l : Nat) : Int) := by
  unfold octet_Read.f
  have hm : mnI (l.length : Int) 8 = (l.length : Int) := by
    unfold mnI
    split <;> omega
  have hc : cut l 0 (l.length : Int) = l := by
    unfold cut
    simp
  rw [hm, if_pos ⟨by omega, Int.le_refl _⟩]
  have : loopM (octet_Read.s0 fu l) fu (0, 0) = some ((num l : Nat) : Int) := by
    refine loopM_run (S := fun j => (((num (l.take j) : Nat) : Int), (j : Int))) l.length (by simp [num]) ?_ ?_ hf
    · intro j hj
      unfold octet_Read.s0
      rw [hm, hc]
      have h1 : (j : Int) < (l.length : Int) := by omega
      have w3 : IntKind.i64.wrap ((j : Int) + 1) = ((j + 1 : Nat) : Int) := by rw [w64 (by omega) (by omega)]; omega
      have w4 : IntKind.i64.wrap (8 * (j : Int)) = ((8 * j : Nat) : Int) := by rw [w64 (by omega) (by omega)]; omega
      have hcb := hb _ (List.getElem_mem hj)
      obtain ⟨c, hc'⟩ : ∃ c : Nat, l[j] = (c : Int) := ⟨l[j].toNat, by omega⟩
      have hlt : num (l.take j) < 256 ^ j := by
        have := num_lt (l := l.take j) fun x hx => hb x (List.mem_of_mem_take hx)
        rwa [List.length_take, Nat.min_eq_left (by omega)] at this
      have e256 : (256 : Nat) ^ j * 256 ≤ 256 ^ 8 := by
        rw [← Nat.pow_succ]
        exact Nat.pow_le_pow_right (by decide) (by omega)
      have e8 : (256 : Nat) ^ 8 = 18446744073709551616 := by decide
      have hcj : c * 256 ^ j < 18446744073709551616 := by
        have : c * 256 ^ j ≤ 255 * 256 ^ j := Nat.mul_le_mul_right _ (by omega)
        have : 0 < 256 ^ j := Nat.pow_pos (by decide)
        omega
      have e1 : shL .u64 (IntKind.u64.wrap (ix l (j : Int))) ((8 * j : Nat) : Int) = ((c * 256 ^ j : Nat) : Int) := by
        rw [ix_nat hj, hc', wu64 (by omega) (by omega)]
        unfold shL
        rw [Int.toNat_natCast, Nat.min_eq_left (by show 8 * j ≤ 64; omega)]
        have : (c : Int) * 2 ^ (8 * j) = ((c * 256 ^ j : Nat) : Int) := by
          have h256 : ((256 ^ j : Nat) : Int) = 2 ^ (8 * j) := by
            rw [Int.natCast_pow, Int.pow_mul]
            exact congrArg (fun z : Int => z ^ j) (by decide : ((256 : Nat) : Int) = 2 ^ 8)
          rw [Int.natCast_mul, h256]
        rw [this, wu64 (by omega) (by omega)]
      have e2 : bOr .u64 ((num (l.take j) : Nat) : Int) ((c * 256 ^ j : Nat) : Int) = ((num (l.take (j + 1)) : Nat) : Int) := by
        unfold bOr
        show IntKind.u64.wrap (((BitVec.ofInt 64 ((num (l.take j) : Nat) : Int) ||| BitVec.ofInt 64 ((c * 256 ^ j : Nat) : Int)).toNat : Nat) : Int) = _
        rw [BitVec.ofInt_natCast, BitVec.ofInt_natCast, BitVec.toNat_or, BitVec.toNat_ofNat, BitVec.toNat_ofNat, Nat.mod_eq_of_lt (by omega), Nat.mod_eq_of_lt (by omega), or_add _ _ _ hlt, take_next hj, num_append]
        have hs : num (l.take j) + 256 ^ j * c < 18446744073709551616 := by
          rw [Nat.mul_comm]
          have : c * 256 ^ j ≤ 255 * 256 ^ j := Nat.mul_le_mul_right _ (by omega)
          omega
        rw [wu64 (by omega) (by omega)]
        simp only [num, hc', Int.toNat_natCast, List.length_take, Nat.min_eq_left (by omega : j ≤ l.length), Nat.mul_zero, Nat.add_zero]
      simp only [h1, decide_true, if_true, w4, e1, e2, w3]
      rw [if_pos ⟨by omega, trivial⟩, if_pos (by omega)]
    · unfold octet_Read.s0
      rw [hm, hc]
      simp
  rw [this]
  rfl
end Go.Proofs.YtdifnahlheogdaaDoor.Pure
namespace Go.Proofs.YtdifnahlheogdaaDoor
open Go Go.Xw Go.Yw
end Go.Proofs.YtdifnahlheogdaaDoor
namespace Go.Proofs.YtdifnahlheogdaaDoor.Pure
open Go Go.Xw Go.Yw
abbrev Cell := S_pmem_cell
abbrev Dev := S_pmem_Device
def keepC (c : Cell) (w : Int) : Cell := ⟨w, c.stored, 0, false⟩
def evict (p : Int) (cs : List Cell) : List Cell := cs.mapIdx fun i c => if 0 ≤ p ∧ (i : Int) = p % (cs.length : Int) then keepC c c.stored else c
def pick (p : S_pmem_plan) : Int := if p.list.length = 0 then -1 else ix p.list p.at_
def nextP (p : S_pmem_plan) : S_pmem_plan := if p.list.length = 0 then p else ⟨p.list, (p.at_ + 1) % (p.list.length : Int)⟩
def tick (d : Dev) : Dev := ⟨evict (pick d.plan) d.cells, nextP d.plan, if d.armed then decide (d.left - 1 = 0) else d.off, d.armed, if d.armed then d.left - 1 else d.left, d.steps + 1⟩
def mayI (off : Bool) (k n : Int) : Int := if off = true then 3 else if k < 0 ∨ k ≥ n then 2 else 0
def putC (k w : Int) (cs : List Cell) : List Cell := cs.mapIdx fun i c => if (i : Int) = k then ⟨c.lasts, w, c.sent, c.flushed⟩ else c
def sendC (c : Cell) : Cell := ⟨c.lasts, c.stored, c.stored, true⟩
def sendL (k : Int) (cs : List Cell) : List Cell := cs.mapIdx fun i c => if 8 * k ≤ (i : Int) ∧ (i : Int) < 8 * k + 8 then sendC c else c
def withC (d : Dev) (cs : List Cell) : Dev := ⟨cs, d.plan, d.off, d.armed, d.left, d.steps⟩
def storeD (d : Dev) (k w : Int) : Int × Dev := if mayI d.off k (d.cells.length : Int) = 0 then (0, tick (withC d (putC k w d.cells))) else (mayI d.off k (d.cells.length : Int), d)
def loadD (d : Dev) (k : Int) : Int × Int := if mayI d.off k (d.cells.length : Int) = 0 then ((ix d.cells k).stored, 0) else (0, mayI d.off k (d.cells.length : Int))
def flushD (d : Dev) (k : Int) : Int × Dev := if mayI d.off k ((d.cells.length / 8 : Nat) : Int) = 0 then (0, tick (withC d (sendL k d.cells))) else (mayI d.off k ((d.cells.length / 8 : Nat) : Int), d)
def U64 (x : Int) : Prop := 0 ≤ x ∧ x ≤ 18446744073709551615
def okC (c : Cell) : Prop := U64 c.lasts ∧ U64 c.stored ∧ U64 c.sent
structure DevOk (n : Nat) (B : Int) (d : Dev) : Prop where
  len : d.cells.length = n
  val : ∀ c ∈ d.cells, okC c
  at0 : d.plan.list.length ≠ 0 → 0 ≤ d.plan.at_ ∧ d.plan.at_ < (d.plan.list.length : Int)
  pl : d.plan.list.length ≤ 1000
  arm : d.armed = true → 0 ≤ d.left ∧ d.left ≤ 9223372036854775807 ∧ d.off = decide (d.left = 0)
  una : d.armed = false → d.off = false
  st : 0 ≤ d.steps ∧ d.steps ≤ B
theorem ix_set {α : Type} [Inhabited α] {l : List α} {k : Nat} {v : α} (h : k < l.length) : ix (l.set k v) (k : Int) = v := by
  rw [ix_nat (by simpa using h)]
  simp
theorem updR_nat {α : Type} [Inhabited α] {l : List α} {k : Nat} {f : α → α} : updR l (k : Int) f = l.set k (f (ix l (k : Int))) := by
  unfold updR
  rw [Int.toNat_natCast]
theorem keep_eq {fu k : Nat} {l : List Cell} {w : Int} (h : k < l.length) : pmem_cell_keep__i0.f fu l (k : Int) w = some (l.set k (keepC (ix l (k : Int)) w)) := by
  unfold pmem_cell_keep__i0.f
  simp only [updR_nat, List.set_set, ix_set h, keepC]
theorem pnext_eq {fu : Nat} {d : Dev} (h0 : d.plan.list.length ≠ 0 → 0 ≤ d.plan.at_ ∧ d.plan.at_ < (d.plan.list.length : Int)) (hl : d.plan.list.length ≤ 1000) : pmem_plan_next__i0_1.f fu d = some (pick d.plan, ⟨d.cells, nextP d.plan, d.off, d.armed, d.left, d.steps⟩) := by
  unfold pmem_plan_next__i0_1.f pick nextP
  by_cases e : d.plan.list.length = 0
  · have e' : (d.plan.list.length : Int) = 0 := by omega
    rw [decide_eq_true e', if_pos rfl, if_pos e, if_pos e]
  · have e' : ¬ (d.plan.list.length : Int) = 0 := by omega
    have h := h0 e
    rw [decide_eq_false e', if_neg (by decide), if_pos h, if_pos e', if_neg e, if_neg e, w64 (by omega) (by omega), Int.tmod_eq_emod_of_nonneg (by omega)]
theorem set_upd {cs : List Cell} {k : Nat} (g : Cell → Cell) (hk : k < cs.length) : cs.set k (g (ix cs (k : Int))) = cs.mapIdx fun i c => if i = k then g c else c := by
  rw [ix_nat hk]
  apply List.ext_getElem (by simp)
  intro i h1 h2
  rw [List.getElem_set, List.getElem_mapIdx]
  by_cases e : k = i
  · subst e
    simp
  · rw [if_neg e, if_neg (fun q => e q.symm)]
theorem evict_no {p : Int} (cs : List Cell) (h : ¬ 0 ≤ p) : evict p cs = cs := by
  apply List.ext_getElem (by simp [evict])
  intro i h1 h2
  simp only [evict, List.getElem_mapIdx]
  rw [if_neg fun q => h q.1]
theorem dstep_eq {fu n : Nat} {B : Int} {d : Dev} (h : DevOk n B d) (hB : B < 9223372036854775807) (ho : d.off = false) : pmem_Device_step.f fu d = some (tick d) := by
  unfold pmem_Device_step.f
  have hs := h.st
  have w1 : IntKind.i64.wrap (d.steps + 1) = d.steps + 1 := w64 (by omega) (by omega)
  rw [pnext_eq (d := ⟨d.cells, d.plan, d.off, d.armed, d.left, IntKind.i64.wrap (d.steps + 1)⟩) h.at0 h.pl, w1]
  simp only [Option.bind_some]
  have hc : ∀ q, q = pick d.plan → q ≥ 0 → ((if (decide ((List.length d.cells : Int) > 0)) = true then if (List.length d.cells : Int) ≠ 0 then if 0 ≤ (Int.tmod q (List.length d.cells : Int)) ∧ (Int.tmod q (List.length d.cells : Int)) < (List.length d.cells : Int) then ((pmem_cell_keep__i0.f fu d.cells (Int.tmod q (List.length d.cells : Int)) ((ix d.cells (Int.tmod q (List.length d.cells : Int))).stored) : Option (List S_pmem_cell)).bind fun t8 => some (t8)) else none else none else some (d.cells)) : Option (List S_pmem_cell)) = some (evict q d.cells) := by
    intro q _ hq
    by_cases hl : (List.length d.cells : Int) > 0
    · rw [decide_eq_true hl, Int.tmod_eq_emod_of_nonneg hq]
      have hm0 := Int.emod_nonneg q (show (List.length d.cells : Int) ≠ 0 by omega)
      have hm1 := Int.emod_lt_of_pos q hl
      have e1 : (List.length d.cells : Int) ≠ 0 := by omega
      obtain ⟨k, hk⟩ : ∃ k : Nat, q % (List.length d.cells : Int) = (k : Int) := ⟨(q % (List.length d.cells : Int)).toNat, by omega⟩
      have hkl : k < d.cells.length := by omega
      rw [if_pos rfl, if_pos e1, if_pos ⟨hm0, hm1⟩, hk, keep_eq hkl]
      simp only [Option.bind_some]
      refine congrArg some ((set_upd (fun c => keepC c c.stored) hkl).trans ?_)
      apply List.ext_getElem (by simp [evict])
      intro i h1 h2
      simp only [evict, List.getElem_mapIdx, hk]
      by_cases e : i = k
      · rw [if_pos e, if_pos ⟨hq, by omega⟩]
      · rw [if_neg e, if_neg fun z => e (by omega)]
    · have : d.cells = [] := List.length_eq_zero_iff.1 (by omega)
      rw [this]
      simp [evict]
  have hd : ∀ (r : List Cell), ((((if d.armed = true then some ((decide ((IntKind.i64.wrap (d.left - 1)) = 0)), (IntKind.i64.wrap (d.left - 1))) else some (d.off, d.left)) : Option (Bool × Int)).bind fun x45 => some ((⟨r, nextP d.plan, x45.1, d.armed, x45.2, (d.steps + 1)⟩ : S_pmem_Device))) : Option Dev) = some ⟨r, nextP d.plan, if d.armed then decide (d.left - 1 = 0) else d.off, d.armed, if d.armed then d.left - 1 else d.left, d.steps + 1⟩ := by
    intro r
    cases ha : d.armed
    · simp
    · have := h.arm ha
      rw [ho] at this
      have : d.left ≠ 0 := by
        intro e
        rw [e] at this
        exact absurd this.2.2 (by decide)
      rw [w64 (by omega) (by omega)]
      simp
  by_cases hq : pick d.plan ≥ 0
  · rw [decide_eq_true hq, if_pos rfl, hc _ rfl hq]
    simp only [Option.bind_some]
    exact hd _
  · rw [decide_eq_false hq, if_neg (by decide)]
    have := hd d.cells
    rw [this]
    unfold tick
    rw [evict_no _ hq]
theorem evict_len (p : Int) (cs : List Cell) : (evict p cs).length = cs.length := by simp [evict]
theorem keep_ok {c : Cell} {w : Int} (h : okC c) (hw : U64 w) : okC (keepC c w) := ⟨hw, h.2.1, by unfold U64; simp [keepC]⟩
theorem mapIdx_ok {cs : List Cell} {g : Nat → Cell → Cell} (h : ∀ c ∈ cs, okC c) (hg : ∀ i c, okC c → okC (g i c)) : ∀ c ∈ cs.mapIdx g, okC c := by
  intro c hc
  obtain ⟨i, hi, rfl⟩ := List.getElem_of_mem hc
  rw [List.getElem_mapIdx]
  exact hg _ _ (h _ (List.getElem_mem _))
theorem evict_ok {p : Int} {cs : List Cell} (h : ∀ c ∈ cs, okC c) : ∀ c ∈ evict p cs, okC c := by
  refine mapIdx_ok h fun i c hc => ?_
  split
  · exact keep_ok hc hc.2.1
  · exact hc
theorem tick_ok {n : Nat} {B : Int} {d : Dev} (h : DevOk n B d) (ho : d.off = false) : DevOk n (B + 1) (tick d) := by
  refine ⟨?_, ?_, ?_, ?_, ?_, ?_, ?_⟩
  · exact (evict_len _ _).trans h.len
  · exact evict_ok h.val
  · intro e
    by_cases z : d.plan.list.length = 0
    · exact absurd (by simp [tick, nextP, z]) e
    · have : (tick d).plan = ⟨d.plan.list, (d.plan.at_ + 1) % (d.plan.list.length : Int)⟩ := by simp [tick, nextP, z]
      rw [this]
      exact ⟨Int.emod_nonneg _ (by omega), Int.emod_lt_of_pos _ (by omega)⟩
  · by_cases z : d.plan.list.length = 0
    · simp [tick, nextP, z]
    · simp only [tick, nextP, z, if_false]
      exact h.pl
  · intro ha
    have ha' : d.armed = true := ha
    have := h.arm ha'
    have hl : d.left ≠ 0 := by
      intro e
      rw [e, ho] at this
      exact absurd this.2.2 (by decide)
    simp only [tick, ha', if_true]
    exact ⟨by omega, by omega, trivial⟩
  · intro ha
    have ha' : d.armed = false := ha
    simp only [tick, ha', Bool.false_eq_true, if_false]
    exact h.una ha'
  · have := h.st
    simp only [tick]
    omega
theorem DevOk.up {n : Nat} {B C : Int} {d : Dev} (h : DevOk n B d) (hc : B ≤ C) : DevOk n C d := ⟨h.len, h.val, h.at0, h.pl, h.arm, h.una, ⟨h.st.1, by have := h.st; omega⟩⟩
theorem with_ok {n : Nat} {B : Int} {d : Dev} (h : DevOk n B d) {cs : List Cell} (hl : cs.length = n) (hv : ∀ c ∈ cs, okC c) : DevOk n B (withC d cs) := ⟨hl, hv, h.at0, h.pl, h.arm, h.una, h.st⟩
theorem may_eq {fu : Nat} {d : Dev} {k m : Int} : pmem_Device_may.f fu d k m = some (mayI d.off k m) := by
  unfold pmem_Device_may.f mayI
  cases d.off
  · simp only [Bool.false_eq_true, if_false]
    by_cases h1 : k < 0
    · simp [h1]
    · by_cases h2 : k ≥ m <;> simp [h1, h2]
  · simp
theorem may_zero {b : Bool} {k m : Int} : mayI b k m = 0 ↔ b = false ∧ 0 ≤ k ∧ k < m := by
  unfold mayI
  cases b
  · simp only [Bool.false_eq_true, if_false]
    split <;> simp <;> omega
  · simp
theorem store_eq {fu n : Nat} {B k w : Int} {d : Dev} (h : DevOk n B d) (hB : B < 9223372036854775807) (hw : U64 w) : pmem_Device_Store.f fu d k w = some (storeD d k w) := by
  unfold pmem_Device_Store.f storeD
  rw [may_eq]
  simp only [Option.bind_some]
  by_cases e : mayI d.off k (d.cells.length : Int) = 0
  · obtain ⟨ho, h0, h1⟩ := may_zero.1 e
    rw [decide_eq_true e, if_pos e, if_neg (by decide), if_pos ⟨h0, h1⟩]
    obtain ⟨j, rfl⟩ : ∃ j : Nat, k = (j : Int) := ⟨k.toNat, by omega⟩
    have e1 : (updR d.cells (j : Int) fun c => (⟨c.lasts, w, c.sent, c.flushed⟩ : S_pmem_cell)) = putC (j : Int) w d.cells := by
      rw [updR_nat]
      refine (set_upd (fun c => ⟨c.lasts, w, c.sent, c.flushed⟩) (by omega)).trans ?_
      apply List.ext_getElem (by simp [putC])
      intro i h1 h2
      simp only [putC, List.getElem_mapIdx, Int.natCast_inj]
    have e2 : pmem_Device_step.f fu (⟨putC (j : Int) w d.cells, d.plan, d.off, d.armed, d.left, d.steps⟩ : S_pmem_Device) = some (tick (withC d (putC (j : Int) w d.cells))) := by
      refine dstep_eq (with_ok h (by simp [putC, h.len]) (mapIdx_ok h.val fun i c hc => ?_)) hB ho
      split
      · exact ⟨hc.1, hw, hc.2.2⟩
      · exact hc
    rw [e1, e2]
    rfl
  · rw [decide_eq_false e, if_neg e, if_pos (by decide)]
theorem load_eq {fu : Nat} {k : Int} {d : Dev} : pmem_Device_Load.f fu d k = some (loadD d k) := by
  unfold pmem_Device_Load.f loadD
  rw [may_eq]
  simp only [Option.bind_some]
  by_cases e : mayI d.off k (d.cells.length : Int) = 0
  · obtain ⟨ho, h0, h1⟩ := may_zero.1 e
    rw [decide_eq_true e, if_pos e, if_neg (by decide), if_pos ⟨h0, h1⟩]
  · rw [decide_eq_false e, if_neg e, if_pos (by decide)]
theorem lines_eq {fu : Nat} {d : Dev} (h : d.cells.length ≤ 1000000) : pmem_Device_Lines.f fu d = some ((d.cells.length / 8 : Nat) : Int) := by
  unfold pmem_Device_Lines.f
  rw [Int.tdiv_eq_ediv_of_nonneg (by omega), w64 (by omega) (by omega)]
  congr 1
theorem send_loop {fu : Nat} {cs : List Cell} {k : Nat} (h : 8 * k + 8 ≤ cs.length) (hl : cs.length ≤ 1000000) (hf : 8 < fu) : loopM (pmem_Device_Flush.s0 fu (k : Int)) fu (0, cs) = some (sendL (k : Int) cs) := by
  refine loopM_run (S := fun j => ((j : Int), upd (fun _ c => sendC c) (8 * k) j cs)) 8 (by rw [upd_zero]; rfl) ?_ ?_ hf
  · intro j hj
    unfold pmem_Device_Flush.s0
    have w1 : IntKind.i64.wrap ((k : Int) * 8) = ((8 * k : Nat) : Int) := by rw [w64 (by omega) (by omega)]; omega
    have w2 : IntKind.i64.wrap (((8 * k : Nat) : Int) + (j : Int)) = ((8 * k + j : Nat) : Int) := by rw [w64 (by omega) (by omega)]; omega
    have w3 : IntKind.i64.wrap ((j : Int) + 1) = ((j + 1 : Nat) : Int) := by rw [w64 (by omega) (by omega)]; omega
    have hlt : 8 * k + j < (upd (fun _ c => sendC c) (8 * k) j cs).length := by rw [upd_len]; omega
    have c1 : 0 ≤ ((8 * k + j : Nat) : Int) ∧ ((8 * k + j : Nat) : Int) < ((upd (fun _ c => sendC c) (8 * k) j cs).length : Int) := by omega
    have c2 : (j : Int) < 8 := by omega
    simp only [w1, w2, w3]
    rw [decide_eq_true c2, if_pos rfl, if_pos c1]
    simp only [updR_nat, ix_set hlt, List.set_set]
    rw [ix_nat hlt, upd_next _ _ _ _ (by omega)]
    refine congrArg (fun z => some (Sum.inr (((j + 1 : Nat) : Int), z))) ?_
    exact upd_set (fun _ c => sendC c) (8 * k) j cs (by omega)
  · unfold pmem_Device_Flush.s0
    rw [decide_eq_false (show ¬ (((8 : Nat) : Int) < 8) by decide), if_neg (by decide)]
    refine congrArg (fun z => some (Sum.inl z)) ?_
    apply List.ext_getElem (by simp [upd, sendL])
    intro i h1 h2
    simp only [upd, sendL, List.getElem_mapIdx]
    by_cases c : 8 * k ≤ i ∧ i < 8 * k + 8
    · rw [if_pos c, if_pos (by omega)]
    · rw [if_neg c, if_neg (by omega)]
theorem sendL_ok {cs : List Cell} {k : Int} (h : ∀ c ∈ cs, okC c) : ∀ c ∈ sendL k cs, okC c := by
  refine mapIdx_ok h fun i c hc => ?_
  split
  · exact ⟨hc.1, hc.2.1, hc.2.1⟩
  · exact hc
theorem flush_eq {fu n : Nat} {B k : Int} {d : Dev} (h : DevOk n B d) (hB : B < 9223372036854775807) (hn : n ≤ 1000000) (hf : 8 < fu) : pmem_Device_Flush.f fu d k = some (flushD d k) := by
  unfold pmem_Device_Flush.f flushD
  have hl : d.cells.length ≤ 1000000 := by rw [h.len]; exact hn
  rw [lines_eq hl]
  simp only [Option.bind_some]
  rw [may_eq]
  simp only [Option.bind_some]
  by_cases e : mayI d.off k ((d.cells.length / 8 : Nat) : Int) = 0
  · obtain ⟨ho, h0, h1⟩ := may_zero.1 e
    rw [decide_eq_true e, if_pos e, if_neg (by decide)]
    obtain ⟨j, rfl⟩ : ∃ j : Nat, k = (j : Int) := ⟨k.toNat, by omega⟩
    rw [send_loop (by omega) hl hf]
    have e2 : pmem_Device_step.f fu (⟨sendL (j : Int) d.cells, d.plan, d.off, d.armed, d.left, d.steps⟩ : S_pmem_Device) = some (tick (withC d (sendL (j : Int) d.cells))) :=
      dstep_eq (with_ok h (by simp [sendL, h.len]) (sendL_ok h.val)) hB ho
    simp only [Option.bind_some]
    rw [e2]
    rfl
  · rw [decide_eq_false e, if_neg e, if_pos (by decide)]
end Go.Proofs.YtdifnahlheogdaaDoor.Pure
namespace Go.Proofs.YtdifnahlheogdaaDoor
open Go Go.Xw Go.Yw
end Go.Proofs.YtdifnahlheogdaaDoor
namespace Go.Proofs.YtdifnahlheogdaaDoor.Pure
open Go Go.Xw Go.Yw
def octs (ws : List Int) : List Int := ws.flatMap fun w => lay w.toNat 8
theorem octs_len : ∀ ws : List Int, (octs ws).length = 8 * ws.length
  | [] => rfl
  | w :: ws => by
    have := octs_len ws
    simp only [octs, List.flatMap_cons, List.length_append, lay_len, List.length_cons] at *
    omega
theorem octs_append (a b : List Int) : octs (a ++ b) = octs a ++ octs b := by simp [octs]
theorem octs_one (w : Int) : octs [w] = lay w.toNat 8 := by simp [octs]
theorem octets_eq {fu : Nat} {ws : List Int} (hv : ∀ w ∈ ws, U64 w) (hl : ws.length ≤ 100000) (hf : ws.length + 8 < fu) : octet_Octets.f fu ws = some (octs ws) := by
  unfold octet_Octets.f
  have : loopM (octet_Octets.s0 fu ws) fu ([], 0) = some (octs ws) := by
    refine loopM_run (S := fun j => (octs (ws.take j), (j : Int))) ws.length (by simp [octs]) ?_ ?_ (by omega)
    · intro j hj
      unfold octet_Octets.s0
      have w3 : IntKind.i64.wrap ((j : Int) + 1) = ((j + 1 : Nat) : Int) := by rw [w64 (by omega) (by omega)]; omega
      have c1 : 0 ≤ (j : Int) ∧ (j : Int) < (ws.length : Int) := by omega
      have hu := hv _ (List.getElem_mem hj)
      obtain ⟨v, hv'⟩ : ∃ v : Nat, ws[j] = (v : Int) := ⟨ws[j].toNat, by unfold U64 at hu; omega⟩
      simp only [w3]
      rw [decide_eq_true c1.2, if_pos rfl, if_pos c1, ix_nat hj, hv', show octet_Lay.f fu (v : Int) 8 = some (lay v 8) from olay_eq (n := 8) (by omega) (by omega)]
      simp only [Option.bind_some]
      rw [if_pos (by rw [octs_len, lay_len, List.length_take]; exact Nat.le_trans (by omega : _ ≤ 1000008) (by decide)), take_next hj, octs_append, octs_one, hv', Int.toNat_natCast]
    · unfold octet_Octets.s0
      rw [decide_eq_false (show ¬ ((ws.length : Int) < (ws.length : Int)) by omega), if_neg (by decide), List.take_length]
  rw [this]
  rfl
def newD (n : Nat) : Dev := ⟨List.replicate n ⟨0, 0, 0, false⟩, ⟨[], 0⟩, false, false, 0, 0⟩
theorem new_eq {fu : Nat} {k : Nat} (hk : k ≤ 4096) : pmem_New.f fu (k : Int) = some (some (newD (8 * k)), 0) := by
  unfold pmem_New.f
  have h1 : ¬ (k : Int) < 0 := by omega
  have h2 : ¬ (k : Int) > 4096 := by omega
  have w : IntKind.i64.wrap ((k : Int) * 8) = ((8 * k : Nat) : Int) := by rw [w64 (by omega) (by omega)]; omega
  rw [decide_eq_false h1, decide_eq_false h2, if_neg (by decide), if_neg (by decide), w, Int.toNat_natCast, if_pos ⟨by omega, Nat.le_trans (by omega : _ ≤ 100000) (by decide)⟩]
  rfl
theorem newD_ok (n : Nat) : DevOk n 0 (newD n) := by
  refine ⟨by simp [newD], fun c hc => ?_, fun h => absurd rfl h, by simp [newD], fun h => (by cases h), fun _ => rfl, by simp [newD]⟩
  rw [List.eq_of_mem_replicate hc]
  unfold okC U64
  simp
theorem store_ok {n : Nat} {B k w : Int} {d : Dev} (h : DevOk n B d) (hw : U64 w) : DevOk n (B + 1) (storeD d k w).2 := by
  unfold storeD
  split
  · rename_i e
    refine tick_ok (with_ok h (by simp [putC, h.len]) (mapIdx_ok h.val fun i c hc => ?_)) (may_zero.1 e).1
    split
    · exact ⟨hc.1, hw, hc.2.2⟩
    · exact hc
  · exact h.up (by omega)
theorem flush_ok {n : Nat} {B k : Int} {d : Dev} (h : DevOk n B d) : DevOk n (B + 1) (flushD d k).2 := by
  unfold flushD
  split
  · rename_i e
    exact tick_ok (with_ok h (by simp [sendL, h.len]) (sendL_ok h.val)) (may_zero.1 e).1
  · exact h.up (by omega)
end Go.Proofs.YtdifnahlheogdaaDoor.Pure
namespace Go.Proofs.YtdifnahlheogdaaDoor
open Go Go.Xw Go.Yw
end Go.Proofs.YtdifnahlheogdaaDoor
namespace Go.Proofs.YtdifnahlheogdaaDoor.Pure
open Go Go.Xw Go.Yw
theorem Bytes.drop {l : List Int} (h : Bytes l) (n : Nat) : Bytes (l.drop n) := fun x hx => h x (List.mem_of_mem_drop hx)
theorem Bytes.take {l : List Int} (h : Bytes l) (n : Nat) : Bytes (l.take n) := fun x hx => h x (List.mem_of_mem_take hx)
theorem num_lt8 {l : List Int} (hb : Bytes l) (hl : l.length ≤ 8) : num l < 18446744073709551616 := by
  have h1 := num_lt hb
  have h2 : (256 : Nat) ^ l.length ≤ 256 ^ 8 := Nat.pow_le_pow_right (by decide) hl
  have h3 : (256 : Nat) ^ 8 = 18446744073709551616 := by decide
  omega
theorem read_long {fu : Nat} {l : List Int} (h : 8 ≤ l.length) : octet_Read.f fu l = octet_Read.f fu (l.take 8) := by
  have h8 : (l.take 8).length = 8 := by rw [List.length_take]; omega
  have e1 : mnI (l.length : Int) 8 = 8 := by unfold mnI; split <;> omega
  have e2 : mnI ((l.take 8).length : Int) 8 = 8 := by rw [h8]; rfl
  have e3 : cut l 0 8 = l.take 8 := rfl
  have e4 : cut (l.take 8) 0 8 = l.take 8 := by
    unfold cut
    rw [List.take_of_length_le (by rw [h8]; decide)]
    rfl
  have es : octet_Read.s0 fu l = octet_Read.s0 fu (l.take 8) := by
    unfold octet_Read.s0
    rw [e1, e2, e3, e4]
  unfold octet_Read.f
  rw [e1, e2, es, if_pos (by omega), if_pos (by rw [h8]; decide)]
def wordsU (l : List Int) (j : Nat) : List Int := (List.range j).map fun i => ((num ((l.drop (8 * i)).take 8) : Nat) : Int)
theorem wordsU_succ (l : List Int) (j : Nat) : wordsU l (j + 1) = wordsU l j ++ [((num ((l.drop (8 * j)).take 8) : Nat) : Int)] := by
  simp [wordsU, List.range_succ]
theorem wordsU_len (l : List Int) (j : Nat) : (wordsU l j).length = j := by simp [wordsU]
theorem chunk_len {l : List Int} {j : Nat} (h : 8 * j + 8 ≤ l.length) : ((l.drop (8 * j)).take 8).length = 8 := by
  rw [List.length_take, List.length_drop]
  omega
theorem octs_words {l : List Int} (hb : Bytes l) : ∀ j, 8 * j ≤ l.length → octs (wordsU l j) = l.take (8 * j)
  | 0, _ => by simp [wordsU, octs]
  | j + 1, h => by
    have hc : ((l.drop (8 * j)).take 8).length = 8 := chunk_len (by omega)
    have hl := lay_num ((hb.drop (8 * j)).take 8)
    rw [hc] at hl
    rw [wordsU_succ, octs_append, octs_one, octs_words hb j (by omega), Int.toNat_natCast, hl, show 8 * (j + 1) = 8 * j + 8 from by omega, List.take_add]
theorem words_U64 {l : List Int} (hb : Bytes l) {n : Nat} : ∀ w ∈ wordsU l n, U64 w := by
  intro w hw
  obtain ⟨i, _, rfl⟩ := List.mem_map.1 hw
  have := num_lt8 ((hb.drop (8 * i)).take 8) (by rw [List.length_take]; omega)
  unfold U64
  omega
theorem words_eq {fu n : Nat} {l : List Int} (hb : Bytes l) (hl : l.length = 8 * n) (hn : n ≤ 100000) (hf : n + 8 < fu) : octet_Words.f fu l = some (wordsU l n) := by
  unfold octet_Words.f
  have : loopM (octet_Words.s0 fu) fu (l, []) = some (wordsU l n) := by
    refine loopM_run (S := fun j => (l.drop (8 * j), wordsU l j)) n (by simp [wordsU]) ?_ ?_ (by omega)
    · intro j hj
      unfold octet_Words.s0
      have hdl : (l.drop (8 * j)).length = 8 * n - 8 * j := by rw [List.length_drop, hl]
      have c1 : ((l.drop (8 * j)).length : Int) ≥ 8 := by omega
      have hc : ((l.drop (8 * j)).take 8).length = 8 := chunk_len (by omega)
      have hr : octet_Read.f fu (l.drop (8 * j)) = some ((num ((l.drop (8 * j)).take 8) : Nat) : Int) := by
        rw [read_long (by omega)]
        exact read_eq ((hb.drop _).take _) (by omega) (by omega)
      have e1 : cut (l.drop (8 * j)) 8 ((l.drop (8 * j)).length : Int) = l.drop (8 * (j + 1)) := by
        unfold cut
        rw [Int.toNat_natCast, List.take_length, show Int.toNat 8 = 8 from rfl, List.drop_drop]
        congr 1
      simp only [e1]
      rw [decide_eq_true c1, if_pos rfl, hr]
      simp only [Option.bind_some]
      rw [if_pos (by rw [wordsU_len]; exact Nat.le_trans (by simp only [List.length_cons, List.length_nil]; omega : _ ≤ 100001) (by decide)), if_pos c1, wordsU_succ]
    · unfold octet_Words.s0
      have : ¬ (((l.drop (8 * n)).length : Int) ≥ 8) := by rw [List.length_drop]; omega
      simp only [this, decide_false, Bool.false_eq_true, if_false]
  rw [this]
  rfl
end Go.Proofs.YtdifnahlheogdaaDoor.Pure
namespace Go.Proofs.YtdifnahlheogdaaDoor
open Go Go.Xw Go.Yw
end Go.Proofs.YtdifnahlheogdaaDoor
namespace Go.Proofs.YtdifnahlheogdaaDoor.Pure
open Go Go.Xw Go.Yw
def putAll : Dev → Int → List Int → Int × Dev
  | d, _, [] => (0, d)
  | d, k, w :: ws => if (storeD d k w).1 = 0 then putAll (storeD d k w).2 (k + 1) ws else storeD d k w
def sendD (d : Dev) (line first : Int) (ws : List Int) : Int × Dev := if (putAll d (8 * line + first) ws).1 = 0 then flushD (putAll d (8 * line + first) ws).2 line else putAll d (8 * line + first) ws
def inL (d : Dev) (line : Int) : Prop := 0 ≤ line ∧ line < ((d.cells.length / 8 : Nat) : Int)
instance (d : Dev) (line : Int) : Decidable (inL d line) := inferInstanceAs (Decidable (_ ∧ _))
def writeD (d : Dev) (line : Int) (b : List Int) : Int × Dev := if inL d line ∧ b.length = 64 then sendD d line 0 (wordsU b 8) else (2, d)
def lineC (d : Dev) (line : Int) : List Int := (List.range 8).map fun (i : Nat) => (ix d.cells (8 * line + (i : Int))).stored
def readD (d : Dev) (line : Int) : List Int × Int := if inL d line then if d.off = true then ([], 3) else (octs (lineC d line), 0) else ([], 2)
theorem put_ok {n : Nat} : ∀ {ws : List Int} {B k : Int} {d : Dev} (h : DevOk n B d) (hw : ∀ w ∈ ws, U64 w), DevOk n (B + (ws.length : Int)) (putAll d k ws).2
  | [], B, k, d, h, _ => h.up (by simp)
  | w :: ws, B, k, d, h, hw => by
    have h1 := store_ok (k := k) h (hw w (by simp))
    unfold putAll
    split
    · exact (put_ok h1 fun x hx => hw x (by simp [hx])).up (by simp only [List.length_cons]; omega)
    · exact h1.up (by simp only [List.length_cons]; omega)
theorem send_ok {n : Nat} {ws : List Int} {B k i : Int} {d : Dev} (h : DevOk n B d) (hw : ∀ w ∈ ws, U64 w) : DevOk n (B + (ws.length : Int) + 1) (sendD d k i ws).2 := by
  have h1 := put_ok (k := 8 * k + i) h hw
  unfold sendD
  split
  · exact flush_ok h1
  · exact h1.up (by omega)
theorem store_loop {fu n : Nat} {line first : Int} {ws : List Int} (hn : n ≤ 100000) (hw : ∀ w ∈ ws, U64 w) (hl : ws.length ≤ 1000) (hline : 0 ≤ line ∧ line ≤ 100000) (hfirst : 0 ≤ first ∧ first ≤ 1000) : ∀ (r j : Nat) (B : Int) (d : Dev) (k : Nat), j + r = ws.length → DevOk n B d → B + (r : Int) < 9223372036854775807 → r < k →
    loopM (press_store.s0 fu line first ws) k ((j : Int), d) = some (if (putAll d (8 * line + first + (j : Int)) (ws.drop j)).1 = 0 then .inr (putAll d (8 * line + first + (j : Int)) (ws.drop j)).2 else .inl (putAll d (8 * line + first + (j : Int)) (ws.drop j)))
  | r, j, B, d, 0, hj, h, hB, hk => by omega
  | 0, j, B, d, k + 1, hj, h, hB, hk => by
    unfold loopM
    have : j = ws.length := by omega
    subst this
    unfold press_store.s0
    rw [decide_eq_false (show ¬ ((ws.length : Int) < (ws.length : Int)) by omega), if_neg (by decide), List.drop_of_length_le (Nat.le_refl _)]
    rfl
  | r + 1, j, B, d, k + 1, hj, h, hB, hk => by
    have hjl : j < ws.length := by omega
    have hu := hw _ (List.getElem_mem hjl)
    have hst : pmem_Device_Store.f fu d (8 * line + first + (j : Int)) ws[j] = some (storeD d (8 * line + first + (j : Int)) ws[j]) := store_eq h (by omega) hu
    have w1 : IntKind.i64.wrap (line * 8) = 8 * line := by rw [w64 (by omega) (by omega)]; omega
    have w2 : IntKind.i64.wrap (8 * line + first) = 8 * line + first := w64 (by omega) (by omega)
    have w3 : IntKind.i64.wrap (8 * line + first + (j : Int)) = 8 * line + first + (j : Int) := w64 (by omega) (by omega)
    have hd : ws.drop j = ws[j] :: ws.drop (j + 1) := List.drop_eq_getElem_cons hjl
    unfold loopM
    have hs : press_store.s0 fu line first ws ((j : Int), d) = some (if (storeD d (8 * line + first + (j : Int)) ws[j]).1 = 0 then .inr (((j + 1 : Nat) : Int), (storeD d (8 * line + first + (j : Int)) ws[j]).2) else .inl (.inl (storeD d (8 * line + first + (j : Int)) ws[j]))) := by
      unfold press_store.s0
      simp only [w1, w2, w3]
      rw [decide_eq_true (show (j : Int) < (ws.length : Int) by omega), if_pos rfl, if_pos (by omega), ix_nat hjl, hst, next64 hjl (by omega)]
      simp only [Option.bind_some]
      by_cases e : (storeD d (8 * line + first + (j : Int)) ws[j]).1 = 0
      · rw [decide_eq_true e, if_neg (by decide), if_pos e]
      · rw [decide_eq_false e, if_pos (by decide), if_neg e]
    rw [hs, hd]
    unfold putAll
    by_cases e : (storeD d (8 * line + first + (j : Int)) ws[j]).1 = 0
    · have ih := store_loop (fu := fu) (n := n) (line := line) (first := first) hn hw hl hline hfirst r (j + 1) (B + 1) (storeD d (8 * line + first + (j : Int)) ws[j]).2 k (by omega) (store_ok h hu) (by omega) (by omega)
      rw [show 8 * line + first + ((j + 1 : Nat) : Int) = 8 * line + first + (j : Int) + 1 from by omega] at ih
      rw [if_pos e, if_pos e]
      exact ih
    · rw [if_neg e, if_neg e]
      simp only [e, if_false]
theorem send_eq {fu n : Nat} {B line first : Int} {ws : List Int} {d : Dev} (h : DevOk n B d) (hB : B + (ws.length : Int) + 1 < 9223372036854775807) (hn : n ≤ 100000) (hw : ∀ w ∈ ws, U64 w) (hl : ws.length ≤ 1000) (hline : 0 ≤ line ∧ line ≤ 100000) (hfirst : 0 ≤ first ∧ first ≤ 1000) (hf : 2000 < fu) : press_store.f fu d line first ws = some (sendD d line first ws) := by
  unfold press_store.f sendD
  have h1 := store_loop (fu := fu) hn hw hl hline hfirst ws.length 0 B d fu (by omega) h (by omega) (by omega)
  simp only [List.drop_zero, Int.natCast_zero, Int.add_zero] at h1
  have h2 := put_ok (k := 8 * line + first) h hw
  rw [h1]
  by_cases e : (putAll d (8 * line + first) ws).1 = 0
  · rw [if_pos e, if_pos e]
    simp only [Option.bind_some]
    rw [flush_eq h2 (by omega) (by omega) (by omega)]
    rfl
  · rw [if_neg e, if_neg e]
    rfl
theorem pmay_eq {fu : Nat} {d : Dev} {k : Int} (hl : d.cells.length ≤ 1000000) : press_may.f fu d k = some (if inL d k then 0 else 2) := by
  unfold press_may.f
  rw [lines_eq hl]
  by_cases h1 : k < 0
  · rw [decide_eq_true h1, if_neg (show ¬ inL d k from fun q => by have := q.1; omega)]
    rfl
  · rw [decide_eq_false h1, if_neg (by decide)]
    simp only [Option.bind_some]
    by_cases h2 : k ≥ ((d.cells.length / 8 : Nat) : Int)
    · rw [decide_eq_true h2, if_neg (show ¬ inL d k from fun q => by have := q.2; omega)]
      rfl
    · rw [decide_eq_false h2, if_pos (show inL d k from ⟨by omega, by omega⟩)]
      rfl
theorem write_eq {fu n : Nat} {B line : Int} {b : List Int} {d : Dev} (h : DevOk n B d) (hB : B + 9 < 9223372036854775807) (hn : n ≤ 100000) (hb : Bytes b) (hf : 2000 < fu) : press_Write.f fu d line b = some (writeD d line b) := by
  unfold press_Write.f writeD
  have hlen := h.len
  rw [pmay_eq (by omega)]
  simp only [Option.bind_some]
  by_cases hi : inL d line
  · rw [if_pos hi, if_neg (by decide)]
    by_cases hl : b.length = 64
    · have hw := words_U64 (n := 8) hb
      unfold inL at hi
      rw [decide_eq_true (show (b.length : Int) = 64 by omega), if_neg (by decide), if_pos ⟨hi, hl⟩, words_eq (n := 8) hb (by omega) (by decide) (by omega)]
      simp only [Option.bind_some]
      rw [send_eq h (by rw [wordsU_len]; omega) hn hw (by rw [wordsU_len]; decide) (by omega) (by decide) hf]
      rfl
    · rw [decide_eq_false (show ¬ (b.length : Int) = 64 by omega), if_pos (by decide), if_neg (fun q => hl q.2)]
  · rw [if_neg hi, if_pos (by decide), if_neg (fun q => hi q.1)]
theorem arr_set8 (a : Arr 8 Int) (j : Nat) (v : Int) (hj : j < 8) (f : Nat → Int) (hf : ∀ i, i < j → ix a.l (i : Int) = f i) (hv : v = f j) : ∀ i, i < j + 1 → ix (Arr.set a (j : Int) v).l (i : Int) = f i := by
  intro i hi
  have hl := a.h
  have e : (Arr.set a (j : Int) v).l = a.l.set j v := by simp [Arr.set]
  rw [e, ix_nat (by rw [List.length_set]; omega), List.getElem_set]
  by_cases h : j = i
  · subst h
    rw [if_pos rfl, hv]
  · rw [if_neg h, ← ix_nat (by omega)]
    exact hf i (by omega)
theorem read_dev {fu n : Nat} {B line : Int} {d : Dev} (h : DevOk n B d) (hn : n ≤ 100000) (hf : 2000 < fu) : press_Read.f fu d line = some (readD d line) := by
  unfold press_Read.f readD
  have hlen := h.len
  rw [pmay_eq (by omega)]
  simp only [Option.bind_some]
  by_cases hi : inL d line
  · rw [if_pos hi, if_neg (by decide), if_pos hi]
    have hin := hi
    unfold inL at hin
    have w1 : IntKind.i64.wrap (line * 8) = 8 * line := by rw [w64 (by omega) (by omega)]; omega
    have hld : ∀ j : Nat, j < 8 → pmem_Device_Load.f fu d (8 * line + (j : Int)) = some (if d.off = true then (0, 3) else ((ix d.cells (8 * line + (j : Int))).stored, 0)) := by
      intro j hj
      rw [load_eq]
      unfold loadD
      cases ho : d.off
      · rw [if_pos (may_zero.2 ⟨rfl, by omega, by omega⟩), if_neg (by decide)]
      · have : mayI true (8 * line + (j : Int)) (d.cells.length : Int) = 3 := rfl
        rw [this, if_neg (by decide), if_pos rfl]
    cases ho : d.off
    · rw [if_neg (by decide)]
      have loop : ∃ e, loopM (press_Read.s0 fu d line) fu (0, Arr.rep 8 (0 : Int)) = some e ∧ ∃ a : Arr 8 Int, e = .inr a ∧ ∀ i : Nat, i < 8 → ix a.l (i : Int) = (ix d.cells (8 * line + (i : Int))).stored := by
        refine loopM_inv (fun j s => ∃ a : Arr 8 Int, s = ((j : Int), a) ∧ ∀ i : Nat, i < j → ix a.l (i : Int) = (ix d.cells (8 * line + (i : Int))).stored) 8 _ ?_ ?_ (j := 0) ⟨_, rfl, fun i hi => by omega⟩ (by omega) (by omega)
        · rintro j _ hj ⟨a, rfl, ha⟩
          unfold press_Read.s0
          have w3 : IntKind.i64.wrap (8 * line + (j : Int)) = 8 * line + (j : Int) := w64 (by omega) (by omega)
          simp only [w1, w3]
          rw [decide_eq_true (show (j : Int) < 8 by omega), if_pos rfl, hld j hj, ho, if_neg (by decide), next64 hj (by decide)]
          simp only [Option.bind_some, decide_true, Bool.not_true, Bool.false_eq_true, if_false]
          rw [if_pos (by omega)]
          exact ⟨_, rfl, _, rfl, arr_set8 a j _ hj (fun i => (ix d.cells (8 * line + (i : Int))).stored) ha rfl⟩
        · rintro _ ⟨a, rfl, ha⟩
          unfold press_Read.s0
          rw [decide_eq_false (show ¬ (((8 : Nat) : Int) < 8) by decide), if_neg (by decide)]
          exact ⟨_, rfl, a, rfl, ha⟩
      obtain ⟨e, h1, a, rfl, ha⟩ := loop
      have hal : a.l = lineC d line := by
        apply List.ext_getElem (by rw [a.h]; simp [lineC])
        intro i h1 h2
        have : i < 8 := by rw [a.h] at h1; exact h1
        rw [← ix_nat h1, ha i this]
        simp [lineC]
      have hu : ∀ w ∈ lineC d line, U64 w := by
        intro w hw
        obtain ⟨i, hi8, rfl⟩ := List.mem_map.1 hw
        have := List.mem_range.1 hi8
        obtain ⟨p, hp⟩ : ∃ p : Nat, 8 * line + (i : Int) = (p : Int) := ⟨(8 * line + (i : Int)).toNat, by omega⟩
        rw [hp, ix_nat (by omega)]
        exact (h.val _ (List.getElem_mem _)).2.1
      rw [h1]
      simp only [Option.bind_some]
      rw [hal, octets_eq hu (by simp [lineC]) (by simp [lineC]; omega)]
      rfl
    · rw [if_pos rfl]
      have loop : loopM (press_Read.s0 fu d line) fu (0, Arr.rep 8 (0 : Int)) = some (.inl ([], 3)) := by
        obtain ⟨k, rfl⟩ : ∃ k, fu = k + 1 := ⟨fu - 1, by omega⟩
        unfold loopM
        have := hld 0 (by decide)
        rw [ho, if_pos rfl] at this
        unfold press_Read.s0
        have w3 : IntKind.i64.wrap (8 * line + 0) = 8 * line + ((0 : Nat) : Int) := by rw [w64 (by omega) (by omega)]; rfl
        simp only [w1, w3]
        rw [this]
        rfl
      rw [loop]
      rfl
  · rw [if_neg hi, if_pos (by decide), if_neg hi]
end Go.Proofs.YtdifnahlheogdaaDoor.Pure
namespace Go.Proofs.YtdifnahlheogdaaDoor
open Go Go.Xw Go.Yw
end Go.Proofs.YtdifnahlheogdaaDoor
namespace Go.Proofs.YtdifnahlheogdaaDoor.Pure
open Go Go.Xw Go.Yw
noncomputable def SO (n : Nat) (d : Dev) (a : AA) : S_shadow_Store := ⟨d, a.of n⟩
def writtenS (d : Dev) (a : AA) (k : Int) (b : List Int) : Int × Int × Dev × AA := if (writeD d k b).1 = 0 then (k, 0, (writeD d k b).2, a) else (0, (writeD d k b).1, (writeD d k b).2, a)
def makeS (n : Nat) (d : Dev) (a : AA) (b : List Int) : Int × Int × Dev × AA := if b.length = 64 then if (a.take n).2.1 = 0 then writtenS d (a.take n).2.2 (a.take n).1 b else (0, (a.take n).2.1, d, (a.take n).2.2) else (0, 2, d, a)
def turnS (n : Nat) (d : Dev) (a : AA) (k : Int) (b : List Int) : Int × Int × Dev × AA :=
  if b.length = 64 ∧ hasI n a.w k = true then
    if a.own n k = true then writtenS d a k b
    else if (makeS n d a b).2.1 = 0 then ((makeS n d a b).1, ((makeS n d a b).2.2.2.give n k).1, (makeS n d a b).2.2.1, ((makeS n d a b).2.2.2.give n k).2) else (0, (makeS n d a b).2.1, (makeS n d a b).2.2.1, (makeS n d a b).2.2.2)
  else (0, 2, d, a)
theorem write_dev {m : Nat} {B line : Int} {b : List Int} {d : Dev} (h : DevOk m B d) (hb : Bytes b) : DevOk m (B + 9) (writeD d line b).2 := by
  unfold writeD
  split
  · have := send_ok (k := line) (i := 0) h (words_U64 (n := 8) hb)
    exact this.up (by rw [wordsU_len]; omega)
  · exact h.up (by omega)
theorem written_eq {fu n m : Nat} {B k : Int} {b : List Int} {d : Dev} {a : AA} (h : DevOk m B d) (hB : B + 9 < 9223372036854775807) (hm : m ≤ 100000) (hb : Bytes b) (hf : 2000 < fu) : shadow_Store_written.f fu (SO n d a) k b = some ((writtenS d a k b).1, (writtenS d a k b).2.1, SO n (writtenS d a k b).2.2.1 (writtenS d a k b).2.2.2) := by
  unfold shadow_Store_written.f writtenS
  rw [show (SO n d a).device = d from rfl, write_eq h hB hm hb hf]
  simp only [Option.bind_some]
  by_cases e : (writeD d k b).1 = 0
  · rw [decide_eq_true e, if_neg (by decide), if_pos e]
    rfl
  · rw [decide_eq_false e, if_pos (by decide), if_neg e]
    rfl
theorem written_dev {m : Nat} {B k : Int} {b : List Int} {d : Dev} {a : AA} (h : DevOk m B d) (hb : Bytes b) : DevOk m (B + 9) (writtenS d a k b).2.2.1 ∧ (writtenS d a k b).2.2.2 = a := by
  have := write_dev (line := k) h hb
  unfold writtenS
  split <;> exact ⟨this, rfl⟩
theorem make_eq {fu n m : Nat} {B : Int} {b : List Int} {d : Dev} {a : AA} (h : DevOk m B d) (hB : B + 9 < 9223372036854775807) (hm : m ≤ 100000) (hb : Bytes b) (hf : 2000 < fu) (ha : AOk n a) (hn : n ≤ 90000) (hfn : n + 64 < fu) : shadow_Store_Make.f fu (SO n d a) b = some ((makeS n d a b).1, (makeS n d a b).2.1, SO n (makeS n d a b).2.2.1 (makeS n d a b).2.2.2) := by
  unfold shadow_Store_Make.f makeS
  by_cases e : b.length = 64
  · rw [decide_eq_true (show (b.length : Int) = 64 by omega), if_neg (by decide), if_pos e, show (SO n d a).blocks = a.of n from rfl, take_eq hn hfn ha]
    simp only [Option.bind_some]
    by_cases e2 : (a.take n).2.1 = 0
    · rw [decide_eq_true e2, if_neg (by decide), if_pos e2, show (⟨(SO n d a).device, (a.take n).2.2.of n⟩ : S_shadow_Store) = SO n d (a.take n).2.2 from rfl, written_eq h hB hm hb hf]
      rfl
    · rw [decide_eq_false e2, if_pos (by decide), if_neg e2]
      rfl
  · rw [decide_eq_false (show ¬ (b.length : Int) = 64 by omega), if_pos (by decide), if_neg e]
theorem make_ok {n m : Nat} {B : Int} {b : List Int} {d : Dev} {a : AA} (h : DevOk m B d) (hb : Bytes b) (ha : AOk n a) : DevOk m (B + 9) (makeS n d a b).2.2.1 ∧ AOk n (makeS n d a b).2.2.2 := by
  have ht := take_ok ha
  unfold makeS
  split
  · split
    · obtain ⟨h1, h2⟩ := written_dev (k := (a.take n).1) (a := (a.take n).2.2) h hb
      rw [h2]
      exact ⟨h1, ht⟩
    · exact ⟨h.up (by omega), ht⟩
  · exact ⟨h.up (by omega), ha⟩
theorem turn_eq {fu n m : Nat} {B k : Int} {b : List Int} {d : Dev} {a : AA} (h : DevOk m B d) (hB : B + 9 < 9223372036854775807) (hm : m ≤ 100000) (hb : Bytes b) (hf : 2000 < fu) (ha : AOk n a) (hn : n ≤ 90000) (hfn : n + 64 < fu) : shadow_Store_Turn.f fu (SO n d a) k b = some ((turnS n d a k b).1, (turnS n d a k b).2.1, SO n (turnS n d a k b).2.2.1 (turnS n d a k b).2.2.2) := by
  unfold shadow_Store_Turn.f turnS
  by_cases e : b.length = 64
  · rw [decide_eq_true (show (b.length : Int) = 64 by omega), if_neg (by decide), show (SO n d a).blocks = a.of n from rfl, works_eq hn hfn ha]
    simp only [Option.bind_some]
    rw [has_eq (by omega)]
    simp only [Option.bind_some]
    cases hh : hasI n a.w k
    · rw [Bool.not_false, if_pos rfl, if_neg (fun q => by simp at q)]
    · rw [Bool.not_true, if_neg (by decide), if_pos ⟨e, rfl⟩, own_eq hn]
      simp only [Option.bind_some]
      cases ho : a.own n k
      · rw [if_neg (by decide), if_neg (by decide), make_eq h hB hm hb hf ha hn hfn]
        simp only [Option.bind_some]
        obtain ⟨m1, m2⟩ := make_ok (n := n) h hb ha
        by_cases e2 : (makeS n d a b).2.1 = 0
        · rw [decide_eq_true e2, if_neg (by decide), if_pos e2, show (SO n (makeS n d a b).2.2.1 (makeS n d a b).2.2.2).blocks = (makeS n d a b).2.2.2.of n from rfl, give_eq hn hfn m2]
          rfl
        · rw [decide_eq_false e2, if_pos (by decide), if_neg e2]
      · rw [if_pos rfl, if_pos rfl, written_eq h hB hm hb hf]
        rfl
  · rw [decide_eq_false (show ¬ (b.length : Int) = 64 by omega), if_pos (by decide), if_neg (fun q => e q.1)]
theorem drop_eq {fu n : Nat} {k : Int} {d : Dev} {a : AA} (ha : AOk n a) (hn : n ≤ 90000) (hfn : n + 64 < fu) : shadow_Store_Drop.f fu (SO n d a) k = some ((a.give n k).1, SO n d (a.give n k).2) := by
  unfold shadow_Store_Drop.f
  rw [show (SO n d a).blocks = a.of n from rfl, give_eq hn hfn ha]
  rfl
theorem sget_eq {fu n m : Nat} {B k : Int} {d : Dev} {a : AA} (h : DevOk m B d) (hm : m ≤ 100000) (hf : 2000 < fu) : shadow_Store_Get.f fu (SO n d a) k = some (readD d k) := by
  unfold shadow_Store_Get.f
  rw [show (SO n d a).device = d from rfl, read_dev h hm hf]
  rfl
structure Clean (d : Dev) : Prop where
  off : d.off = false
  arm : d.armed = false
  pl : d.plan.list = []
theorem tick_clean {d : Dev} (h : Clean d) : tick d = ⟨d.cells, d.plan, false, false, d.left, d.steps + 1⟩ := by
  have hp : pick d.plan = -1 := by simp [pick, h.pl]
  have hn : nextP d.plan = d.plan := by simp [nextP, h.pl]
  unfold tick
  rw [hp, hn, evict_no _ (by decide), h.arm, h.off]
  rfl
theorem clean_with {d : Dev} {cs : List Cell} (h : Clean d) : Clean (tick (withC d cs)) ∧ (tick (withC d cs)).cells = cs := by
  have h' : Clean (withC d cs) := ⟨h.off, h.arm, h.pl⟩
  rw [tick_clean h']
  exact ⟨⟨rfl, rfl, h.pl⟩, rfl⟩
theorem putC_ix {cs : List Cell} {k w : Int} {i : Nat} (hi : i < cs.length) : ix (putC k w cs) (i : Int) = if (i : Int) = k then ⟨(ix cs (i : Int)).lasts, w, (ix cs (i : Int)).sent, (ix cs (i : Int)).flushed⟩ else ix cs (i : Int) := by
  have hl : i < (putC k w cs).length := by simpa [putC] using hi
  rw [ix_nat hl, ix_nat hi]
  simp only [putC, List.getElem_mapIdx]
theorem sendL_ix {cs : List Cell} {k : Int} {i : Nat} (hi : i < cs.length) : ix (sendL k cs) (i : Int) = if 8 * k ≤ (i : Int) ∧ (i : Int) < 8 * k + 8 then sendC (ix cs (i : Int)) else ix cs (i : Int) := by
  have hl : i < (sendL k cs).length := by simpa [sendL] using hi
  rw [ix_nat hl, ix_nat hi]
  simp only [sendL, List.getElem_mapIdx]
theorem put_clean : ∀ {ws : List Int} {k : Nat} {d : Dev}, Clean d → k + ws.length ≤ d.cells.length → (putAll d (k : Int) ws).1 = 0 ∧ Clean (putAll d (k : Int) ws).2 ∧ (putAll d (k : Int) ws).2.cells.length = d.cells.length ∧
    ∀ i : Nat, i < d.cells.length → ix (putAll d (k : Int) ws).2.cells (i : Int) = if k ≤ i ∧ i < k + ws.length then ⟨(ix d.cells (i : Int)).lasts, ix ws ((i - k : Nat) : Int), (ix d.cells (i : Int)).sent, (ix d.cells (i : Int)).flushed⟩ else ix d.cells (i : Int)
  | [], k, d, h, hk => ⟨rfl, h, rfl, fun i hi => by
    have : ¬ (k ≤ i ∧ i < k + ([] : List Int).length) := fun q => by have h1 := q.1; have h2 := q.2; simp only [List.length_nil] at h2; omega
    rw [if_neg this]
    rfl⟩
  | w :: ws, k, d, h, hk => by
    have hk : k + (ws.length + 1) ≤ d.cells.length := hk
    have hm : mayI d.off (k : Int) (d.cells.length : Int) = 0 := may_zero.2 ⟨h.off, by omega, by omega⟩
    have hs : storeD d (k : Int) w = (0, tick (withC d (putC (k : Int) w d.cells))) := by
      unfold storeD
      rw [if_pos hm]
    obtain ⟨c1, c2⟩ := clean_with (cs := putC (k : Int) w d.cells) h
    have hl : (putC (k : Int) w d.cells).length = d.cells.length := by simp [putC]
    obtain ⟨i1, i2, i3, i4⟩ := put_clean (ws := ws) (k := k + 1) c1 (by rw [c2, hl]; omega)
    have e : putAll d (k : Int) (w :: ws) = putAll (tick (withC d (putC (k : Int) w d.cells))) ((k + 1 : Nat) : Int) ws := by
      conv => lhs; unfold putAll
      rw [hs]
      simp only [if_true]
      rfl
    rw [e]
    rw [c2, hl] at i3 i4
    refine ⟨i1, i2, i3, fun i hi => ?_⟩
    rw [i4 i hi, putC_ix hi]
    by_cases e1 : i = k
    · subst e1
      have e9 : i ≤ i ∧ i < i + (w :: ws).length := ⟨Nat.le_refl _, by simp only [List.length_cons]; omega⟩
      rw [if_neg (by omega), if_pos rfl, if_pos e9, Nat.sub_self]
      rfl
    · rw [if_neg (show ¬ ((i : Int) = (k : Int)) by omega)]
      by_cases e2 : k + 1 ≤ i ∧ i < k + 1 + ws.length
      · rw [if_pos e2, if_pos (by simp only [List.length_cons]; omega)]
        obtain ⟨p, hp⟩ : ∃ p, i - k = p + 1 := ⟨i - k - 1, by omega⟩
        have hp2 : i - (k + 1) = p := by omega
        have e5 : ix (w :: ws) ((p + 1 : Nat) : Int) = ix ws (p : Int) := by
          unfold ix
          rw [Int.toNat_natCast, Int.toNat_natCast]
          rfl
        rw [hp, hp2, e5]
      · rw [if_neg e2, if_neg (by simp only [List.length_cons]; omega)]
theorem write_clean {d : Dev} {line : Nat} {b : List Int} (h : Clean d) (hi : 8 * line + 8 ≤ d.cells.length) (hb : b.length = 64) : (writeD d (line : Int) b).1 = 0 ∧ Clean (writeD d (line : Int) b).2 ∧ (writeD d (line : Int) b).2.cells.length = d.cells.length ∧
    ∀ i : Nat, i < d.cells.length → ix (writeD d (line : Int) b).2.cells (i : Int) = if i / 8 = line then ⟨(ix d.cells (i : Int)).lasts, ix (wordsU b 8) ((i - 8 * line : Nat) : Int), ix (wordsU b 8) ((i - 8 * line : Nat) : Int), true⟩ else ix d.cells (i : Int) := by
  have hin : inL d (line : Int) := ⟨by omega, by omega⟩
  obtain ⟨p1, p2, p3, p4⟩ := put_clean (ws := wordsU b 8) (k := 8 * line) h (by rw [wordsU_len]; exact hi)
  have ek : 8 * (line : Int) + 0 = ((8 * line : Nat) : Int) := by omega
  have hw : writeD d (line : Int) b = flushD (putAll d ((8 * line : Nat) : Int) (wordsU b 8)).2 (line : Int) := by
    unfold writeD
    rw [if_pos ⟨hin, hb⟩]
    unfold sendD
    rw [ek, if_pos p1]
  generalize putAll d ((8 * line : Nat) : Int) (wordsU b 8) = D at *
  have hm : mayI D.2.off (line : Int) ((D.2.cells.length / 8 : Nat) : Int) = 0 := may_zero.2 ⟨p2.off, by omega, by rw [p3]; omega⟩
  have hfl : flushD D.2 (line : Int) = (0, tick (withC D.2 (sendL (line : Int) D.2.cells))) := by
    unfold flushD
    rw [if_pos hm]
  obtain ⟨c1, c2⟩ := clean_with (cs := sendL (line : Int) D.2.cells) p2
  rw [hw, hfl]
  refine ⟨rfl, c1, by rw [c2]; simpa [sendL] using p3, fun i hi' => ?_⟩
  rw [c2, sendL_ix (by rw [p3]; exact hi'), p4 i hi', wordsU_len]
  by_cases e : i / 8 = line
  · rw [if_pos (by omega), if_pos (by omega), if_pos e]
    rfl
  · rw [if_neg (by omega), if_neg (by omega), if_neg e]
theorem wordsU_octs {b : List Int} (hb : Bytes b) (hl : b.length = 64) : octs (wordsU b 8) = b := by
  rw [octs_words hb 8 (by omega), List.take_of_length_le (by omega)]
theorem read_clean {d : Dev} {line : Nat} (h : Clean d) (hi : 8 * line + 8 ≤ d.cells.length) : readD d (line : Int) = (octs (lineC d (line : Int)), 0) := by
  unfold readD
  rw [if_pos (show inL d (line : Int) from ⟨by omega, by omega⟩), h.off, if_neg (by decide)]
theorem line_written {d : Dev} {line : Nat} {b : List Int} (h : Clean d) (hi : 8 * line + 8 ≤ d.cells.length) (hb : Bytes b) (hl : b.length = 64) : octs (lineC (writeD d (line : Int) b).2 (line : Int)) = b := by
  obtain ⟨_, _, _, hw⟩ := write_clean h hi hl
  have : lineC (writeD d (line : Int) b).2 (line : Int) = wordsU b 8 := by
    apply List.ext_getElem (by simp [lineC, wordsU_len])
    intro i h1 h2
    have hi8 : i < 8 := by simpa [lineC] using h1
    simp only [lineC, List.getElem_map, List.getElem_range]
    rw [show 8 * (line : Int) + (i : Int) = ((8 * line + i : Nat) : Int) by omega, hw _ (by omega), if_pos (by omega), show 8 * line + i - 8 * line = i by omega]
    exact ix_nat h2
  rw [this, wordsU_octs hb hl]
abbrev FU : Nat := 200000
theorem awake19 : rickyardlaw19_awake.f FU = some true := by decide +kernel
def ini (n : Nat) : Nat → Bool := addF n (fun _ => false) [0, 1]
def nul (n : Nat) : Nat → Bool := addF n (fun _ => false) []
def A0 (n : Nat) (r : Int) : AA := ⟨r, ini n, nul n, ini n, ini n⟩
theorem ini_low (n : Nat) : Low n (ini n) := addF_low fun k h => by cases h
theorem nul_low (n : Nat) : Low n (nul n) := addF_low fun k h => by cases h
theorem A0_ok {n : Nat} {r : Int} (hr : 0 ≤ r ∧ r ≤ 1000) : AOk n (A0 n r) := ⟨ini_low n, nul_low n, ini_low n, ini_low n, hr⟩
theorem made_eq {fu n : Nat} {r : Int} (hn : n ≤ 3072) (hf : n + 2000 < fu) (hr : 0 ≤ r ∧ r ≤ 1000) : rickyardlaw19_Made.f fu (n : Int) r = some (some (SO n (newD (8 * n)) (A0 n r)), some (newD (8 * n)), some ((A0 n r).of n)) := by
  unfold rickyardlaw19_Made.f
  rw [new_eq (by omega)]
  simp only [Option.bind_some, Option.elim_some]
  rw [of_eq (l := [0, 1]) hn (by decide) (by simp; omega), of_eq (l := []) hn (by decide) (by simp; omega)]
  simp only [Option.bind_some]
  rw [anew_eq (by omega) (by omega) (addF_low fun k h => by cases h) (addF_low fun k h => by cases h) hr.1]
  simp only [Option.bind_some, Option.elim_some]
  have ha := A0_ok (n := n) hr
  unfold shadow_New.f
  rw [show (⟨r, addF n (fun _ => false) [0, 1], addF n (fun _ => false) [], addF n (fun _ => false) [0, 1], addF n (fun _ => false) [0, 1]⟩ : AA) = A0 n r from rfl, works_eq (by omega) (by omega) ha]
  have hl : (newD (8 * n)).cells.length = 8 * n := by simp [newD]
  simp only [Option.bind_some, bits_Set_Size.f]
  rw [lines_eq (by omega), hl]
  simp only [Option.bind_some]
  rw [show (setOf n (A0 n r).w).size = (n : Int) from rfl, decide_eq_false (show ¬ ((n : Int) > ((8 * n / 8 : Nat) : Int)) by omega), if_neg (by decide)]
  rfl
end Go.Proofs.YtdifnahlheogdaaDoor.Pure
namespace Go.Proofs.YtdifnahlheogdaaDoor
open Go Go.Xw Go.Yw
end Go.Proofs.YtdifnahlheogdaaDoor
namespace Go.Proofs.YtdifnahlheogdaaDoor.Pure
open Go Go.Xw Go.Yw
theorem newD_clean (n : Nat) : Clean (newD n) := ⟨rfl, rfl, rfl⟩
structure SOk (n : Nat) (B : Int) (d : Dev) (a : AA) : Prop where
  dev : DevOk (8 * n) B d
  cl : Clean d
  al : AOk n a
theorem SOk.up {n : Nat} {B C : Int} {d : Dev} {a : AA} (h : SOk n B d a) (hc : B ≤ C) : SOk n C d a := ⟨h.dev.up hc, h.cl, h.al⟩
theorem SOk.len {n : Nat} {B : Int} {d : Dev} {a : AA} (h : SOk n B d a) : d.cells.length = 8 * n := h.dev.len
def Stay (n : Nat) (K : Nat → Bool) (d e : Dev) : Prop := ∀ i : Nat, i < 8 * n → (K (i / 8) = true → ix e.cells (i : Int) = ix d.cells (i : Int)) ∧ (ix e.cells (i : Int) = ix d.cells (i : Int) ∨ ∃ s, ix e.cells (i : Int) = ⟨(ix d.cells (i : Int)).lasts, s, s, true⟩)
theorem Stay.refl (n : Nat) (K : Nat → Bool) (d : Dev) : Stay n K d d := fun i _ => ⟨fun _ => rfl, .inl rfl⟩
theorem writtenS_clean {d : Dev} {a : AA} {line : Nat} {b : List Int} (h : Clean d) (hi : 8 * line + 8 ≤ d.cells.length) (hb : b.length = 64) : writtenS d a (line : Int) b = ((line : Int), 0, (writeD d (line : Int) b).2, a) := by
  unfold writtenS
  rw [if_pos (write_clean h hi hb).1]
theorem written_step {n : Nat} {B : Int} {d : Dev} {a a' : AA} {line : Nat} {b : List Int} {K : Nat → Bool} (h : SOk n B d a) (ha : AOk n a') (hl : line < n) (hb : Bytes b) (hb2 : b.length = 64) (hK : K line = false) : SOk n (B + 9) (writtenS d a' (line : Int) b).2.2.1 a' ∧ Stay n K d (writtenS d a' (line : Int) b).2.2.1 ∧ (writtenS d a' (line : Int) b).2.2.2 = a' ∧ (writtenS d a' (line : Int) b).2.1 = 0 ∧ (writtenS d a' (line : Int) b).1 = (line : Int) := by
  have hlen := h.len
  rw [writtenS_clean h.cl (by omega) hb2]
  obtain ⟨w1, w2, w3, w4⟩ := write_clean (line := line) h.cl (by omega) hb2
  refine ⟨⟨write_dev h.dev hb, w2, ha⟩, fun i hi => ?_, rfl, rfl, rfl⟩
  rw [w4 i (by omega)]
  by_cases e : i / 8 = line
  · rw [if_pos e]
    refine ⟨fun hk => ?_, .inr ⟨_, rfl⟩⟩
    rw [e, hK] at hk
    cases hk
  · rw [if_neg e]
    exact ⟨fun _ => rfl, .inl rfl⟩
def Grow (a a' : AA) : Prop := ∃ w', a' = a.setW w' ∧ ∀ k, w' k = true → a.w k = true ∨ a.held k = false
theorem Grow.refl (a : AA) : Grow a a := ⟨a.w, rfl, fun k h => .inl h⟩
theorem Grow.give {n : Nat} {a a' : AA} {k : Int} (h : Grow a a') : Grow a (a'.give n k).2 := by
  obtain ⟨w1, rfl, h1⟩ := h
  unfold AA.give
  split
  · exact ⟨_, rfl, fun j hj => h1 j (Bool.and_eq_true_iff.1 hj).1⟩
  · exact ⟨w1, rfl, h1⟩
def A9 : AA := A0 9 0
theorem A9_ok : SOk 9 0 (newD (8 * 9)) A9 := ⟨newD_ok _, newD_clean _, A0_ok (by decide)⟩
theorem take9 : ((A9.free 9).length : Int) = 7 ∧ A9.least 9 = 2 := by decide +kernel
theorem turns_tail {B : Int} {d : Dev} {a : AA} {x y : Int} {x0 : List Int} (h : SOk 9 B d a) (hB : B + 100 < 9223372036854775807) (hb : Bytes x0) (hl : x0.length = 64) (h1 : hasI 9 a.w 1000 = false) (h2 : (a.give 9 y).1 = 0) (h3 : ((a.give 9 y).2.give 9 x).1 = 2) :
    (((shadow_Store_Turn.f FU (SO 9 d a) 1000 x0 : Option (Int × Int × S_shadow_Store)).bind fun t37 => ((shadow_Store_Turn.f FU t37.2.2 y (cut x0 0 63) : Option (Int × Int × S_shadow_Store)).bind fun t39 => (if (decide (t37.2.1 = 2)) = true then (if (decide (t39.2.1 = 2)) = true then ((shadow_Store_Drop.f FU t39.2.2 y : Option (Int × S_shadow_Store)).bind fun t43 => (if (decide (t43.1 = 0)) = true then ((shadow_Store_Drop.f FU t43.2 x : Option (Int × S_shadow_Store)).bind fun t46 => some ((decide (t46.1 = 2)))) else some (false))) else some (false)) else some (false)))) : Option Bool) = some true := by
  have hc : Bytes (cut x0 0 63) := fun z hz => hb z (List.mem_of_mem_take (List.mem_of_mem_drop hz))
  have hcl : (cut x0 0 63).length = 63 := by
    unfold cut
    rw [List.length_drop, List.length_take]
    show min 63 x0.length - 0 = 63
    rw [hl]
    rfl
  rw [turn_eq h.dev (by omega) (by decide) hb (by decide) h.al (by decide) (by decide)]
  have e1 : turnS 9 d a 1000 x0 = (0, 2, d, a) := by
    unfold turnS
    rw [if_neg (fun q => by rw [h1] at q; cases q.2)]
  rw [e1]
  simp only [Option.bind_some]
  rw [turn_eq h.dev (by omega) (by decide) hc (by decide) h.al (by decide) (by decide)]
  have e2 : turnS 9 d a y (cut x0 0 63) = (0, 2, d, a) := by
    unfold turnS
    rw [if_neg (fun q => by rw [hcl] at q; exact absurd q.1 (by decide))]
  rw [e2]
  simp only [Option.bind_some, decide_true, if_true]
  rw [drop_eq h.al (by decide) (by decide), h2]
  simp only [Option.bind_some, decide_true, if_true]
  rw [drop_eq (give_ok h.al) (by decide) (by decide), h3]
  rfl
theorem free3 : ((((A9.put 9 2).mark).free 9).length : Int) = 6 ∧ ((A9.put 9 2).mark).least 9 = 3 := by decide +kernel
theorem ShadowTurns : ∀ (a0 : Arr 2 (Arr 64 Int)), okv 9 (⟨.arr 2 (.arr 64 (.int .u8)), a0⟩ : PV G.toSg) → ∀ (a1 : Bool), okv 9 (⟨.bool, a1⟩ : PV G.toSg) → ∃ fu, rickyardlaw19_ShadowTurns.f fu a0 a1 = some true := by
  intro a0 h0 a1 _
  refine ⟨FU, ?_⟩
  have hB : ∀ x : Arr 64 Int, x ∈ a0.l → Bytes x.l := fun x hx y hy => wf8.1 (h0 x hx y hy)
  have hget : ∀ i : Nat, i < 2 → Arr.get a0 (i : Int) ∈ a0.l := by
    intro i hi
    unfold Arr.get
    rw [ix_nat (by rw [a0.h]; exact hi)]
    exact List.getElem_mem _
  have b0 := hB _ (hget 0 (by decide))
  have b1 := hB _ (hget 1 (by decide))
  have l0 : (Arr.get a0 ((0 : Nat) : Int)).l.length = 64 := (Arr.get a0 _).h
  have l1 : (Arr.get a0 ((1 : Nat) : Int)).l.length = 64 := (Arr.get a0 _).h
  unfold rickyardlaw19_ShadowTurns.f
  rw [awake19]
  simp only [Option.bind_some, Bool.not_true, Bool.false_eq_true, if_false]
  have hm := made_eq (fu := FU) (n := 9) (r := 0) (by decide) (by decide) (by decide)
  rw [show ((9 : Nat) : Int) = 9 from rfl] at hm
  rw [hm]
  simp only [Option.bind_some, Option.elim_some]
  rw [show Arr.get a0 0 = Arr.get a0 ((0 : Nat) : Int) from rfl, show Arr.get a0 1 = Arr.get a0 ((1 : Nat) : Int) from rfl]
  generalize (Arr.get a0 ((0 : Nat) : Int)).l = x0 at *
  generalize (Arr.get a0 ((1 : Nat) : Int)).l = x1 at *
  have h9 := A9_ok
  rw [show (⟨newD (8 * 9), (A0 9 0).of 9⟩ : S_shadow_Store) = SO 9 (newD (8 * 9)) A9 from rfl, make_eq h9.dev (by decide) (by decide) b0 (by decide) h9.al (by decide) (by decide)]
  simp only [Option.bind_some]
  have ht : A9.take 9 = (2, 0, A9.put 9 2) := by
    unfold AA.take
    rw [take9.1, take9.2, if_neg (by decide)]
    rfl
  have hmk : makeS 9 (newD (8 * 9)) A9 x0 = writtenS (newD (8 * 9)) (A9.put 9 2) ((2 : Nat) : Int) x0 := by
    unfold makeS
    rw [if_pos l0, ht, if_pos rfl]
    rfl
  obtain ⟨s1, _, s3, s4, s5⟩ := written_step (n := 9) (line := 2) (a' := A9.put 9 2) (K := fun _ => false) h9 ⟨h9.al.c, h9.al.e, h9.al.m, addF_low h9.al.w, h9.al.r⟩ (by decide) b0 l0 rfl
  rw [hmk, s4, s5, s3]
  generalize (writtenS (newD (8 * 9)) (A9.put 9 2) ((2 : Nat) : Int) x0).2.2.1 = d1 at *
  have key : ∀ (a : AA) (y : Nat) (D : Dev) (a2 : AA) (B : Int), SOk 9 9 d1 a → turnS 9 d1 a ((2 : Nat) : Int) x1 = ((y : Int), 0, D, a2) → SOk 9 B D a2 → B + 100 < 9223372036854775807 → y < 9 → octs (lineC D (y : Int)) = x1 → decide (((2 : Nat) : Int) = (y : Int)) = !a1 → hasI 9 a2.w 1000 = false → (a2.give 9 (y : Int)).1 = 0 → ((a2.give 9 (y : Int)).2.give 9 ((2 : Nat) : Int)).1 = 2 →
      (((shadow_Store_Turn.f FU (SO 9 d1 a) ((2 : Nat) : Int) x1 : Option (Int × Int × S_shadow_Store)).bind fun t28 => ((shadow_Store_Get.f FU t28.2.2 t28.1 : Option ((List Int) × Int)).bind fun t30 => (if (!decide ((0 : Int) = 0)) = true then some (false) else (if (!decide (t28.2.1 = 0)) = true then some (false) else (if (!decide (t30.2 = 0)) = true then some (false) else (if (!decide ((List.map toB t30.1) = (List.map toB x1))) = true then some (false) else (if (decide ((decide (((2 : Nat) : Int) = t28.1)) = a1)) = true then some (false) else ((shadow_Store_Turn.f FU t28.2.2 1000 x0 : Option (Int × Int × S_shadow_Store)).bind fun t37 => ((shadow_Store_Turn.f FU t37.2.2 t28.1 (cut x0 0 63) : Option (Int × Int × S_shadow_Store)).bind fun t39 => (if (decide (t37.2.1 = 2)) = true then (if (decide (t39.2.1 = 2)) = true then ((shadow_Store_Drop.f FU t39.2.2 t28.1 : Option (Int × S_shadow_Store)).bind fun t43 => (if (decide (t43.1 = 0)) = true then ((shadow_Store_Drop.f FU t43.2 ((2 : Nat) : Int) : Option (Int × S_shadow_Store)).bind fun t46 => some ((decide (t46.1 = 2)))) else some (false))) else some (false)) else some (false))))))))))) : Option Bool) = some true := by
    intro a y D a2 B hs hT hD hB hy hr hd q1 q2 q3
    rw [turn_eq hs.dev (by decide) (by decide) b1 (by decide) hs.al (by decide) (by decide), hT]
    simp only [Option.bind_some]
    have hlen := hD.len
    rw [sget_eq hD.dev (by decide) (by decide), read_clean hD.cl (by omega), hr, hd]
    simp only [Option.bind_some, decide_true, Bool.not_true, Bool.false_eq_true, if_false]
    rw [decide_eq_false (show ¬ ((!a1) = a1) by cases a1 <;> decide), if_neg (by decide)]
    exact turns_tail hD hB b0 l0 q1 q2 q3
  have hw : ∀ (a' : AA) (line : Nat), line < 9 → AOk 9 a' → SOk 9 (9 + 9) (writtenS d1 a' (line : Int) x1).2.2.1 a' ∧ writtenS d1 a' (line : Int) x1 = ((line : Int), 0, (writtenS d1 a' (line : Int) x1).2.2.1, a') ∧ octs (lineC (writtenS d1 a' (line : Int) x1).2.2.1 (line : Int)) = x1 := by
    intro a' line hl ha'
    have hlen := s1.len
    obtain ⟨u1, _, u3, u4, u5⟩ := written_step (n := 9) (line := line) (a' := a') (K := fun _ => false) s1 ha' hl b1 l1 rfl
    refine ⟨u1, ?_, ?_⟩
    · rw [show writtenS d1 a' (line : Int) x1 = ((writtenS d1 a' (line : Int) x1).1, (writtenS d1 a' (line : Int) x1).2.1, (writtenS d1 a' (line : Int) x1).2.2.1, (writtenS d1 a' (line : Int) x1).2.2.2) from rfl, u5, u4, u3]
    · rw [writtenS_clean s1.cl (by omega) l1]
      exact line_written s1.cl (by omega) b1 l1
  cases a1
  · simp only [Bool.false_eq_true, if_false, Option.bind_some]
    obtain ⟨u1, u2, u3⟩ := hw (A9.put 9 2) 2 (by decide) s1.al
    refine key (A9.put 9 2) 2 _ (A9.put 9 2) 18 s1 ?_ u1 (by decide) (by decide) u3 (by decide) (by decide +kernel) (by decide +kernel) (by decide +kernel)
    unfold turnS
    rw [if_pos ⟨l1, by decide +kernel⟩, if_pos (by decide +kernel)]
    exact u2
  · simp only [if_true]
    rw [show (SO 9 d1 (A9.put 9 2)).blocks = (A9.put 9 2).of 9 from rfl, mark_eq (by decide) (by decide) s1.al]
    simp only [Option.bind_some]
    have hA := mark_ok s1.al
    have hA3 : AOk 9 ((A9.put 9 2).mark.put 9 3) := ⟨hA.c, hA.e, hA.m, addF_low hA.w, hA.r⟩
    obtain ⟨u1, u2, u3⟩ := hw ((A9.put 9 2).mark.put 9 3) 3 (by decide) hA3
    have ht3 : (A9.put 9 2).mark.take 9 = (3, 0, (A9.put 9 2).mark.put 9 3) := by
      unfold AA.take
      rw [free3.1, free3.2, if_neg (by decide)]
      rfl
    have hmk3 : makeS 9 d1 (A9.put 9 2).mark x1 = writtenS d1 ((A9.put 9 2).mark.put 9 3) ((3 : Nat) : Int) x1 := by
      unfold makeS
      rw [if_pos l1, ht3, if_pos rfl]
      rfl
    refine key (A9.put 9 2).mark 3 _ (((A9.put 9 2).mark.put 9 3).cut ((2 : Nat) : Int)) 18 ⟨s1.dev, s1.cl, hA⟩ ?_ ⟨u1.dev, u1.cl, ⟨hA.c, hA.e, hA.m, dropF_low hA3.w, hA.r⟩⟩ (by decide) (by decide) u3 (by decide) (by decide +kernel) (by decide +kernel) (by decide +kernel)
    unfold turnS
    rw [if_pos ⟨l1, by decide +kernel⟩, if_neg (by decide +kernel), hmk3, u2, if_pos rfl]
    have hg : ((A9.put 9 2).mark.put 9 3).give 9 ((2 : Nat) : Int) = (0, ((A9.put 9 2).mark.put 9 3).cut ((2 : Nat) : Int)) := by
      unfold AA.give
      rw [if_pos (by decide +kernel)]
    simp only [hg]
end Go.Proofs.YtdifnahlheogdaaDoor.Pure
namespace Go.Proofs.YtdifnahlheogdaaDoor.shadowTurns
open Go.ChangeShapes Go.WideShapes Go.ChangeAt Go.RowKit
open Go.ChangeMaps (open_string shut_string)
open Go Go.Xw Go.Yw
theorem own : ownKnob Tryd.prog.godebug = none := Facts.own
theorem laidOut : laidOutB Tryd.prog = true := Facts.laid
theorem closed : joinedFacts Tryd.pinned.checked.prog 4 Tryd.f4 Rows.shadowTurnsSpec Rows.shadowTurnsRow = true := by
  unfold joinedFacts
  rw [Facts.enter, Facts.lifts, Facts.make, Facts.laid, Facts.rowed, Facts.plain, Facts.heard]
  kernel_rfl
set_option maxRecDepth 100000 in
set_option maxHeartbeats 1000000 in
theorem lifted (os : Os) (started : os.Started) (H : Type) (enc : TypeId × Value → H) :
    ReturnsInHanded {} Tryd.checked os 4 .any (fun w args => (Rows.shadowTurnsSpec.pre enc Tryd.prog Tryd.f4 [] false w args ∧ laidMetH Tryd.prog Laid.L0 w) ∧ sizedMet enc Tryd.prog Tryd.f4 (OpenSpec.ofChange Rows.shadowTurnsSpec) false w args) (Rows.shadowTurnsSpec.post enc Tryd.prog Tryd.f4 false true false false) := by
  refine returnsInHanded_of_change_and (C := Tryd.checked) (X := fun w _ => laidMetH Tryd.prog Laid.L0 w) (fun _ _ _ hh h => h.of_heap hh) own started (by kernel_rfl) Tryd.func4
    (ChangeSpec.witness_shaped (enc := enc) (C := Tryd.checked) (os := os) (X := fun w _ => laidMetH Tryd.prog Laid.L0 w) false (World.doorLaid Tryd.prog 400 os) #[.agg #[.int .u8 0, .int .u8 0, .int .u8 0, .int .u8 0, .int .u8 0, .int .u8 0, .int .u8 0, .int .u8 0, .int .u8 0, .int .u8 0, .int .u8 0, .int .u8 0, .int .u8 0, .int .u8 0, .int .u8 0, .int .u8 0, .int .u8 0, .int .u8 0, .int .u8 0, .int .u8 0, .int .u8 0, .int .u8 0, .int .u8 0, .int .u8 0, .int .u8 0, .int .u8 0, .int .u8 0, .int .u8 0, .int .u8 0, .int .u8 0, .int .u8 0, .int .u8 0, .int .u8 0, .int .u8 0, .int .u8 0, .int .u8 0, .int .u8 0, .int .u8 0, .int .u8 0, .int .u8 0, .int .u8 0, .int .u8 0, .int .u8 0, .int .u8 0, .int .u8 0, .int .u8 0, .int .u8 0, .int .u8 0, .int .u8 0, .int .u8 0, .int .u8 0, .int .u8 0, .int .u8 0, .int .u8 0, .int .u8 0, .int .u8 0, .int .u8 0, .int .u8 0, .int .u8 0, .int .u8 0, .int .u8 0, .int .u8 0, .int .u8 0, .int .u8 0, .int .u8 0, .int .u8 0, .int .u8 0, .int .u8 0, .int .u8 0, .int .u8 0, .int .u8 0, .int .u8 0, .int .u8 0, .int .u8 0, .int .u8 0, .int .u8 0, .int .u8 0, .int .u8 0, .int .u8 0, .int .u8 0, .int .u8 0, .int .u8 0, .int .u8 0, .int .u8 0, .int .u8 0, .int .u8 0, .int .u8 0, .int .u8 0, .int .u8 0, .int .u8 0, .int .u8 0, .int .u8 0, .int .u8 0, .int .u8 0, .int .u8 0, .int .u8 0, .int .u8 0, .int .u8 0, .int .u8 0, .int .u8 0, .int .u8 0, .int .u8 0, .int .u8 0, .int .u8 0, .int .u8 0, .int .u8 0, .int .u8 0, .int .u8 0, .int .u8 0, .int .u8 0, .int .u8 0, .int .u8 0, .int .u8 0, .int .u8 0, .int .u8 0, .int .u8 0, .int .u8 0, .int .u8 0, .int .u8 0, .int .u8 0, .int .u8 0, .int .u8 0, .int .u8 0, .int .u8 0, .int .u8 0, .int .u8 0, .int .u8 0, .int .u8 0], .bool false] 8 rfl (World.shaped_of_RefB (by kernel_rfl) (by kernel_rfl)) (by kernel_rfl) (by kernel_rfl) (by kernel_rfl) (Laid.met os _)) ?_
  intro W base args ds gs before hval0 hW _ _ hL _
  have hval : ∀ (j : Nat) t v, Tryd.f4.params[j]? = some t → args[j]? = some v → Value.okWide Tryd.prog W .any base t v := hval0
  have hW' := hW
  obtain ⟨p, q, hA0, hV, rfl, hfz, hnd⟩ := hW
  have hA : DataW.TrodAll enc Tryd.prog W 0 (fun _ => true) true Tryd.f4.params.toList args.toList ds p := hA0
  rw [Tryd.params4] at hA hval
  obtain ⟨v0, vs0, d0, ds0, p0, q0, hargs, rfl, rfl, h0, r0⟩ := trodAll_cons hA
  obtain ⟨v1, vs1, d1, ds1, p1, q1, rfl, rfl, rfl, h1, r1⟩ := trodAll_cons r0
  obtain ⟨rfl, rfl, rfl⟩ := trodAll_nil r1
  obtain rfl : args = #[v0, v1] := by cases args; simp_all
  obtain ⟨rfl, rfl⟩ := trodVars_none hV
  have k0 := h0
  have lt0 : ∀ x ∈ p0, x.block < W.heap.size := by obtain ⟨m, hm⟩ := k0; exact DataW.trod_lt m _ _ _ hm
  obtain ⟨fu0, hf0⟩ := h0
  obtain ⟨a0, c0, o0⟩ := open_ok (Γ := G) gok full0 9 38 (.arr 2 (.arr 64 (.int .u8))) (by kernel_rfl) enc _ _ _ _ _ _ hf0
  have w0 : VR (fun _ => none) W (Low W) (.v (.arr 2 (.arr 64 (.int .u8))) a0) v0 := arg_ok (P := Tryd.prog) (base := base) (n := 8) gok c0 (hval 0 38 v0 rfl rfl) (by kernel_rfl)
  have k1 := h1
  have lt1 : ∀ x ∈ p1, x.block < W.heap.size := by obtain ⟨m, hm⟩ := k1; exact DataW.trod_lt m _ _ _ hm
  obtain ⟨fu1, hf1⟩ := h1
  obtain ⟨a1, c1, o1⟩ := open_ok (Γ := G) gok full0 9 4 (.bool) (by kernel_rfl) enc _ _ _ _ _ _ hf1
  have w1 : VR (fun _ => none) W (Low W) (.v (.bool) a1) v1 := arg_ok (P := Tryd.prog) (base := base) (n := 8) gok c1 (hval 1 4 v1 rfl rfl) (by kernel_rfl)
  obtain ⟨b1, rfl, rfl, rfl⟩ := open_bool Tryd.underlying4 (hval 1 4 v1 rfl rfl) k1
  obtain ⟨fu, hfu⟩ := Pure.ShadowTurns a0 o0 a1 o1
  refine Calls.mono (law_ok (rickyardlaw19_ShadowTurns.sc fu a0 a1 true hfu) (.cons w0 (.cons w1 .nil)) (Laid.gl hL)) fun e W' hr => ?_
  obtain ⟨v, rfl, rfl, gr⟩ := hr
  have bel := Fr.below gr
  exact ⟨_, rfl, _, _, _, [], _, [], hW', trodAll_mk1 (shut_bool Tryd.underlying4 _), (trodAll_cons_mk (Below.trod laidOut (by kernel_rfl) (of_decide_eq_true (by kernel_rfl)) k0 bel lt0) (trodAll_cons_mk (shut_bool Tryd.underlying4 _) trodAll_mk0)), rfl, bel.frame _, fun h => by cases h⟩
theorem over : Rows.shadowTurnsRow.holds Tryd.pinned (OpenSpec.ofChange Rows.shadowTurnsSpec) :=
  OpenClaim.holds_of_wide 4 Tryd.f4 rfl rfl rfl rfl rfl rfl rfl ⟨rfl, rfl, rfl, rfl, rfl⟩ rfl rfl rfl rfl rfl (by kernel_rfl) Tryd.func4 closed
    (of_decide_eq_true (by kernel_rfl)) (by unfold Func.isWrapper; first | (rw [if_pos (by decide +kernel)]; kernel_rfl) | (rw [if_neg (by decide +kernel)]; exact ⟨rfl, rfl⟩))
    (fun os started H enc _ => lifted os started H enc)
theorem card : Rows.ShadowTurnsCardSaid :=
  Claim7.holds_tied_plain_at .later [] [.data] true (true, "979bcd4b5e59f6cd4e5fd9cc72609fc7cce4b3df3e2b5c7c49de09907c292303") false
    over (fun _ h => by cases h) (by kernel_rfl) (fun _ h => by cases h) shadowTurns_row_tie rfl ⟨rfl, rfl⟩ (by kernel_rfl) rfl
    (fun f fn hf hfn => by
      obtain rfl : f = 4 := Option.some.inj ((show Tryd.prog.funcNamed "rickyard/rickyardlaw19.ShadowTurns" = some 4 by kernel_rfl).symm.trans hf) |>.symm
      obtain rfl : fn = Tryd.f4 := (Option.some.inj (Tryd.func4.symm.trans hfn)).symm
      exact ⟨by kernel_rfl, fun j t ht => by
        rw [Tryd.params4] at ht
        have hm : t ∈ [38, 4] := by simpa using Array.mem_of_getElem? ht
        have hall : ([38, 4].all fun u => !Tryd.prog.wantsStandIn u) = true := by kernel_rfl
        exact (show Tryd.prog.wantsStandIn t = false by simpa using List.all_eq_true.1 hall t hm)⟩)
    (by kernel_rfl)
end Go.Proofs.YtdifnahlheogdaaDoor.shadowTurns
namespace Go.Proofs.YtdifnahlheogdaaDoor
theorem shadowTurns_holds : Rows.ShadowTurnsCardSaid := shadowTurns.card
#print axioms shadowTurns_holds
end Go.Proofs.YtdifnahlheogdaaDoor
