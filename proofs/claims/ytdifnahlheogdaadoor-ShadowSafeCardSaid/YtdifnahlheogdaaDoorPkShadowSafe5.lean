/- ShadowSafe: texts merged, part 5 of 6. The last part proves that the law ShadowSafe holds for every input. -/
import Derived.Test.YtdifnahlheogdaaDoorPkShadowSafe4
set_option maxRecDepth 100000
set_option maxHeartbeats 4000000
set_option linter.unusedVariables false
set_option linter.unusedSimpArgs false
namespace Go.Proofs.YtdifnahlheogdaaDoor
open Go Go.Xw Go.Yw
def pmem_Device_Store.f (fu : Nat) (a0 : S_pmem_Device) (a1 : Int) (a2 : Int) : Option (Int × S_pmem_Device) := ((pmem_Device_may.f fu a0 a1 (List.length a0.cells : Int)).bind fun t1 => (if (!decide (t1 = 0)) = true then some (t1, a0) else if 0 ≤ a1 ∧ a1 < (List.length a0.cells : Int) then ((pmem_Device_step.f fu (⟨(updR a0.cells a1 fun w => (⟨w.lasts, a2, w.sent, w.flushed⟩ : S_pmem_cell)), a0.plan, a0.off, a0.armed, a0.left, a0.steps⟩ : S_pmem_Device)).bind fun t4 => some (0, t4)) else none))
theorem pmem_Device_Store.sc (fu : Nat) (a0 : S_pmem_Device) (a1 : Int) (a2 : Int) (r : Int × S_pmem_Device) (h : pmem_Device_Store.f fu a0 a1 a2 = some r) : SC Tryd.prog CT 135 [.ptr 0 0, vi .i64 a1, vi .u64 a2] [.box 105 (.agg [.sl 1 4 [], .agg [.sl 2 1 [], vi .i64 a0.plan.at_], vb a0.off, vb a0.armed, vi .i64 a0.left, vi .i64 a0.steps]), .row (.st .S_pmem_cell) 125 (a0.cells : List S_pmem_cell), .row (.int .i64) 3 (a0.plan.list : List Int)] (vi .i64 r.1) [.box 105 (.agg [.sl 1 4 [], .agg [.sl 2 1 [], vi .i64 r.2.plan.at_], vb r.2.off, vb r.2.armed, vi .i64 r.2.left, vi .i64 r.2.steps]), .row (.st .S_pmem_cell) 125 (r.2.cells : List S_pmem_cell), .row (.int .i64) 3 (r.2.plan.list : List Int)] := by
 unfold pmem_Device_Store.f at h
 refine sc_of (r := r) (N := 29) (rs := [.tmp 6]) (V := fun (r : Int × S_pmem_Device) => vi .i64 r.1) (R' := fun (r : Int × S_pmem_Device) => [.box 105 (.agg [.sl 1 4 [], .agg [.sl 2 1 [], vi .i64 r.2.plan.at_], vb r.2.off, vb r.2.armed, vi .i64 r.2.left, vi .i64 r.2.steps]), .row (.st .S_pmem_cell) 125 (r.2.cells : List S_pmem_cell), .row (.int .i64) 3 (r.2.plan.list : List Int)]) cok Tryd.func135 rfl rfl rfl (by kernel_rfl) (by kernel_rfl) rfl rfl fun X => ?_
 refine bk h fun t1 k2 h => ?_
 refine cl3 cok.g (pmem_Device_may.sc fu a0 a1 (List.length a0.cells : Int) _ k2) (vi .i64 t1) [(0, .box 105 (.agg [.sl 1 4 [], .agg [.sl 2 1 [], vi .i64 a0.plan.at_], vb a0.off, vb a0.armed, vi .i64 a0.left, vi .i64 a0.steps])), (1, .row (.st .S_pmem_cell) 125 (a0.cells : List S_pmem_cell)), (2, .row (.int .i64) 3 (a0.plan.list : List Int))] 6 (by kernel_rfl) (by kernel_rfl) ?_
 refine t_cond cok ?_
 refine bi h (fun c3 h => ?_) (fun c3 h => ?_)
 ·skip
  exact fi h (by kernel_rfl)
 refine ag h fun h => ?_
 refine bk h fun t4 k5 h => ?_
 refine cl3 cok.g (pmem_Device_step.sc fu (⟨(updR a0.cells a1 fun w => (⟨w.lasts, a2, w.sent, w.flushed⟩ : S_pmem_cell)), a0.plan, a0.off, a0.armed, a0.left, a0.steps⟩ : S_pmem_Device) _ k5) (.tup []) [(0, .box 105 (.agg [.sl 1 4 [], .agg [.sl 2 1 [], vi .i64 t4.plan.at_], vb t4.off, vb t4.armed, vi .i64 t4.left, vi .i64 t4.steps])), (1, .row (.st .S_pmem_cell) 125 (t4.cells : List S_pmem_cell)), (2, .row (.int .i64) 3 (t4.plan.list : List Int))] 9 (by kernel_rfl) (by kernel_rfl) ?_
 exact fi h (by kernel_rfl)
def press_store.s0 (fu : Nat) (a1 : Int) (a2 : Int) (a3 : List Int) : (Int × S_pmem_Device) → Option (Sum (Sum (Int × S_pmem_Device) S_pmem_Device) (Int × S_pmem_Device)) := fun s1 => (if (decide (s1.1 < (List.length a3 : Int))) = true then if 0 ≤ s1.1 ∧ s1.1 < (List.length a3 : Int) then ((pmem_Device_Store.f fu s1.2 (IntKind.i64.wrap ((IntKind.i64.wrap ((IntKind.i64.wrap (a1 * 8)) + a2)) + s1.1)) (ix a3 s1.1)).bind fun t8 => (if (!decide (t8.1 = 0)) = true then some (Sum.inl (Sum.inl (t8.1, t8.2))) else some (Sum.inr ((IntKind.i64.wrap (s1.1 + 1)), t8.2)))) else none else some (Sum.inl (Sum.inr (s1.2))))
def press_store.f (fu : Nat) (a0 : S_pmem_Device) (a1 : Int) (a2 : Int) (a3 : List Int) : Option (Int × S_pmem_Device) := ((loopM (press_store.s0 fu a1 a2 a3) fu (0, a0)).bind fun e2 => match e2 with | Sum.inl p => some p | Sum.inr x4 => ((pmem_Device_Flush.f fu x4 a1).bind fun t11 => some (t11.1, t11.2)))
theorem press_store.sc (fu : Nat) (a0 : S_pmem_Device) (a1 : Int) (a2 : Int) (a3 : List Int) (r : Int × S_pmem_Device) (h : press_store.f fu a0 a1 a2 a3 = some r) : SC Tryd.prog CT 119 [.ptr 0 0, vi .i64 a1, vi .i64 a2, .v (.sl (.int .u64)) (a3 : List Int)] [.box 105 (.agg [.sl 1 4 [], .agg [.sl 2 1 [], vi .i64 a0.plan.at_], vb a0.off, vb a0.armed, vi .i64 a0.left, vi .i64 a0.steps]), .row (.st .S_pmem_cell) 125 (a0.cells : List S_pmem_cell), .row (.int .i64) 3 (a0.plan.list : List Int)] (vi .i64 r.1) [.box 105 (.agg [.sl 1 4 [], .agg [.sl 2 1 [], vi .i64 r.2.plan.at_], vb r.2.off, vb r.2.armed, vi .i64 r.2.left, vi .i64 r.2.steps]), .row (.st .S_pmem_cell) 125 (r.2.cells : List S_pmem_cell), .row (.int .i64) 3 (r.2.plan.list : List Int)] := by
 unfold press_store.f at h
 refine sc_of (r := r) (N := 35) (rs := [.tmp 8]) (V := fun (r : Int × S_pmem_Device) => vi .i64 r.1) (R' := fun (r : Int × S_pmem_Device) => [.box 105 (.agg [.sl 1 4 [], .agg [.sl 2 1 [], vi .i64 r.2.plan.at_], vb r.2.off, vb r.2.armed, vi .i64 r.2.left, vi .i64 r.2.steps]), .row (.st .S_pmem_cell) 125 (r.2.cells : List S_pmem_cell), .row (.int .i64) 3 (r.2.plan.list : List Int)]) cok Tryd.func119 rfl rfl rfl (by kernel_rfl) (by kernel_rfl) rfl rfl fun X => ?_
 refine bk h fun e2 l3 h => ?_
 refine t_cutxS cok 0 (fun (x4 : S_pmem_Device) => ⟨[(0, .ptr 0 0), (1, vi .i64 a1)], [.box 105 (.agg [.sl 1 4 [], .agg [.sl 2 1 [], vi .i64 x4.plan.at_], vb x4.off, vb x4.armed, vi .i64 x4.left, vi .i64 x4.steps]), .row (.st .S_pmem_cell) 125 (x4.cells : List S_pmem_cell), .row (.int .i64) 3 (x4.plan.list : List Int)]⟩) e2 ?_ (fun x4 hy => ?_)
 ·skip
  have h5 := h
  refine t_loop cok (fun (s1 : Int × S_pmem_Device) => ⟨[(0, .ptr 0 0), (1, vi .i64 a1), (2, vi .i64 a2), (12, .v (.sl (.int .u64)) (a3 : List Int)), (13, vi .i64 (List.length a3 : Int)), (14, vi .i64 s1.1)], [.box 105 (.agg [.sl 1 4 [], .agg [.sl 2 1 [], vi .i64 s1.2.plan.at_], vb s1.2.off, vb s1.2.armed, vi .i64 s1.2.left, vi .i64 s1.2.steps]), .row (.st .S_pmem_cell) 125 (s1.2.cells : List S_pmem_cell), .row (.int .i64) 3 (s1.2.plan.list : List Int)]⟩) l3 (by kernel_rfl) (fun s1 x6 h => ?_)
  unfold press_store.s0 at h
  refine t_cond cok ?_
  refine bi h (fun c7 h => ?_) (fun c7 h => ?_)
  ·skip
   refine ag h fun h => ?_
   refine bk h fun t8 k9 h => ?_
   refine cl3 cok.g (pmem_Device_Store.sc fu s1.2 (IntKind.i64.wrap ((IntKind.i64.wrap ((IntKind.i64.wrap (a1 * 8)) + a2)) + s1.1)) (ix a3 s1.1) _ k9) (vi .i64 t8.1) [(0, .box 105 (.agg [.sl 1 4 [], .agg [.sl 2 1 [], vi .i64 t8.2.plan.at_], vb t8.2.off, vb t8.2.armed, vi .i64 t8.2.left, vi .i64 t8.2.steps])), (1, .row (.st .S_pmem_cell) 125 (t8.2.cells : List S_pmem_cell)), (2, .row (.int .i64) 3 (t8.2.plan.list : List Int))] 6 (by kernel_rfl) (by kernel_rfl) ?_
   refine t_cond cok ?_
   refine bi h (fun c10 h => ?_) (fun c10 h => ?_)
   ·skip
    refine lpr h (fun hy => ?_)
    have h := h5
    rw [← hy] at h
    exact fi h (by kernel_rfl)
   exact lpi h (by kernel_rfl)
  exact lpx h (fun hy => ems (sj hy) (by kernel_rfl))
 subst hy
 refine bk h fun t11 k12 h => ?_
 refine cl3 cok.g (pmem_Device_Flush.sc fu x4 a1 _ k12) (vi .i64 t11.1) [(0, .box 105 (.agg [.sl 1 4 [], .agg [.sl 2 1 [], vi .i64 t11.2.plan.at_], vb t11.2.off, vb t11.2.armed, vi .i64 t11.2.left, vi .i64 t11.2.steps])), (1, .row (.st .S_pmem_cell) 125 (t11.2.cells : List S_pmem_cell)), (2, .row (.int .i64) 3 (t11.2.plan.list : List Int))] 6 (by kernel_rfl) (by kernel_rfl) ?_
 exact fi h (by kernel_rfl)
def press_Write.f (fu : Nat) (a0 : S_pmem_Device) (a1 : Int) (a2 : List Int) : Option (Int × S_pmem_Device) := ((press_may.f fu a0 a1).bind fun t1 => (if (!decide (t1 = 0)) = true then some (t1, a0) else (if (!decide ((List.length a2 : Int) = 64)) = true then some (2, a0) else ((octet_Words.f fu a2).bind fun t5 => ((press_store.f fu a0 a1 0 t5).bind fun t7 => some (t7.1, t7.2))))))
theorem press_Write.sc (fu : Nat) (a0 : S_pmem_Device) (a1 : Int) (a2 : List Int) (r : Int × S_pmem_Device) (h : press_Write.f fu a0 a1 a2 = some r) : SC Tryd.prog CT 92 [.ptr 0 0, vi .i64 a1, .v (.sl (.int .u8)) (a2 : List Int)] [.box 105 (.agg [.sl 1 4 [], .agg [.sl 2 1 [], vi .i64 a0.plan.at_], vb a0.off, vb a0.armed, vi .i64 a0.left, vi .i64 a0.steps]), .row (.st .S_pmem_cell) 125 (a0.cells : List S_pmem_cell), .row (.int .i64) 3 (a0.plan.list : List Int)] (vi .i64 r.1) [.box 105 (.agg [.sl 1 4 [], .agg [.sl 2 1 [], vi .i64 r.2.plan.at_], vb r.2.off, vb r.2.armed, vi .i64 r.2.left, vi .i64 r.2.steps]), .row (.st .S_pmem_cell) 125 (r.2.cells : List S_pmem_cell), .row (.int .i64) 3 (r.2.plan.list : List Int)] := by
 unfold press_Write.f at h
 refine sc_of (r := r) (N := 22) (rs := [.tmp 6]) (V := fun (r : Int × S_pmem_Device) => vi .i64 r.1) (R' := fun (r : Int × S_pmem_Device) => [.box 105 (.agg [.sl 1 4 [], .agg [.sl 2 1 [], vi .i64 r.2.plan.at_], vb r.2.off, vb r.2.armed, vi .i64 r.2.left, vi .i64 r.2.steps]), .row (.st .S_pmem_cell) 125 (r.2.cells : List S_pmem_cell), .row (.int .i64) 3 (r.2.plan.list : List Int)]) cok Tryd.func92 rfl rfl rfl (by kernel_rfl) (by kernel_rfl) rfl rfl fun X => ?_
 refine bk h fun t1 k2 h => ?_
 refine cl3 cok.g (press_may.sc fu a0 a1 _ k2) (vi .i64 t1) [(0, .box 105 (.agg [.sl 1 4 [], .agg [.sl 2 1 [], vi .i64 a0.plan.at_], vb a0.off, vb a0.armed, vi .i64 a0.left, vi .i64 a0.steps])), (1, .row (.st .S_pmem_cell) 125 (a0.cells : List S_pmem_cell)), (2, .row (.int .i64) 3 (a0.plan.list : List Int))] 6 (by kernel_rfl) (by kernel_rfl) ?_
 refine t_cond cok ?_
 refine bi h (fun c3 h => ?_) (fun c3 h => ?_)
 ·skip
  exact fi h (by kernel_rfl)
 refine t_cond cok ?_
 refine bi h (fun c4 h => ?_) (fun c4 h => ?_)
 ·skip
  exact fi h (by kernel_rfl)
 refine bk h fun t5 k6 h => ?_
 refine cl3 cok.g (octet_Words.sc fu a2 _ k6) (.sl 6 1 []) [(6, .row (.int .u64) 119 (t5 : List Int))] 7 (by kernel_rfl) (by kernel_rfl) ?_
 refine bk h fun t7 k8 h => ?_
 refine cl3 cok.g (press_store.sc fu a0 a1 0 t5 _ k8) (vi .i64 t7.1) [(0, .box 105 (.agg [.sl 1 4 [], .agg [.sl 2 1 [], vi .i64 t7.2.plan.at_], vb t7.2.off, vb t7.2.armed, vi .i64 t7.2.left, vi .i64 t7.2.steps])), (1, .row (.st .S_pmem_cell) 125 (t7.2.cells : List S_pmem_cell)), (2, .row (.int .i64) 3 (t7.2.plan.list : List Int))] 10 (by kernel_rfl) (by kernel_rfl) ?_
 exact fi h (by kernel_rfl)
def shadow_Store_written.f (fu : Nat) (a0 : S_shadow_Store) (a1 : Int) (a2 : List Int) : Option (Int × Int × S_shadow_Store) := ((press_Write.f fu a0.device a1 a2).bind fun t1 => (if (!decide (t1.1 = 0)) = true then some (0, t1.1, (⟨t1.2, a0.blocks⟩ : S_shadow_Store)) else some (a1, 0, (⟨t1.2, a0.blocks⟩ : S_shadow_Store))))
theorem shadow_Store_written.sc (fu : Nat) (a0 : S_shadow_Store) (a1 : Int) (a2 : List Int) (r : Int × Int × S_shadow_Store) (h : shadow_Store_written.f fu a0 a1 a2 = some r) : SC Tryd.prog CT 58 [.ptr 0 0, vi .i64 a1, .v (.sl (.int .u8)) (a2 : List Int)] [.box 114 (.agg [.ptr 1 0, .ptr 4 0]), .box 105 (.agg [.sl 2 4 [], .agg [.sl 3 1 [], vi .i64 a0.device.plan.at_], vb a0.device.off, vb a0.device.armed, vi .i64 a0.device.left, vi .i64 a0.device.steps]), .row (.st .S_pmem_cell) 125 (a0.device.cells : List S_pmem_cell), .row (.int .i64) 3 (a0.device.plan.list : List Int), .box 108 (.agg [vi .i64 a0.blocks.reserve, .agg [.ptr 5 0, .ptr 7 0, .ptr 9 0, .ptr 11 0]]), .box 112 (.agg [vi .i64 a0.blocks.sets.1.size, .sl 6 1 []]), .row (.int .u64) 119 (a0.blocks.sets.1.words : List Int), .box 112 (.agg [vi .i64 a0.blocks.sets.2.1.size, .sl 8 1 []]), .row (.int .u64) 119 (a0.blocks.sets.2.1.words : List Int), .box 112 (.agg [vi .i64 a0.blocks.sets.2.2.1.size, .sl 10 1 []]), .row (.int .u64) 119 (a0.blocks.sets.2.2.1.words : List Int), .box 112 (.agg [vi .i64 a0.blocks.sets.2.2.2.size, .sl 12 1 []]), .row (.int .u64) 119 (a0.blocks.sets.2.2.2.words : List Int)] (.tup [vi .i64 r.1, vi .i64 r.2.1]) [.box 114 (.agg [.ptr 1 0, .ptr 4 0]), .box 105 (.agg [.sl 2 4 [], .agg [.sl 3 1 [], vi .i64 r.2.2.device.plan.at_], vb r.2.2.device.off, vb r.2.2.device.armed, vi .i64 r.2.2.device.left, vi .i64 r.2.2.device.steps]), .row (.st .S_pmem_cell) 125 (r.2.2.device.cells : List S_pmem_cell), .row (.int .i64) 3 (r.2.2.device.plan.list : List Int), .box 108 (.agg [vi .i64 r.2.2.blocks.reserve, .agg [.ptr 5 0, .ptr 7 0, .ptr 9 0, .ptr 11 0]]), .box 112 (.agg [vi .i64 r.2.2.blocks.sets.1.size, .sl 6 1 []]), .row (.int .u64) 119 (r.2.2.blocks.sets.1.words : List Int), .box 112 (.agg [vi .i64 r.2.2.blocks.sets.2.1.size, .sl 8 1 []]), .row (.int .u64) 119 (r.2.2.blocks.sets.2.1.words : List Int), .box 112 (.agg [vi .i64 r.2.2.blocks.sets.2.2.1.size, .sl 10 1 []]), .row (.int .u64) 119 (r.2.2.blocks.sets.2.2.1.words : List Int), .box 112 (.agg [vi .i64 r.2.2.blocks.sets.2.2.2.size, .sl 12 1 []]), .row (.int .u64) 119 (r.2.2.blocks.sets.2.2.2.words : List Int)] := by
 unfold shadow_Store_written.f at h
 refine sc_of (r := r) (N := 20) (rs := [.tmp 6, .tmp 7]) (V := fun (r : Int × Int × S_shadow_Store) => .tup [vi .i64 r.1, vi .i64 r.2.1]) (R' := fun (r : Int × Int × S_shadow_Store) => [.box 114 (.agg [.ptr 1 0, .ptr 4 0]), .box 105 (.agg [.sl 2 4 [], .agg [.sl 3 1 [], vi .i64 r.2.2.device.plan.at_], vb r.2.2.device.off, vb r.2.2.device.armed, vi .i64 r.2.2.device.left, vi .i64 r.2.2.device.steps]), .row (.st .S_pmem_cell) 125 (r.2.2.device.cells : List S_pmem_cell), .row (.int .i64) 3 (r.2.2.device.plan.list : List Int), .box 108 (.agg [vi .i64 r.2.2.blocks.reserve, .agg [.ptr 5 0, .ptr 7 0, .ptr 9 0, .ptr 11 0]]), .box 112 (.agg [vi .i64 r.2.2.blocks.sets.1.size, .sl 6 1 []]), .row (.int .u64) 119 (r.2.2.blocks.sets.1.words : List Int), .box 112 (.agg [vi .i64 r.2.2.blocks.sets.2.1.size, .sl 8 1 []]), .row (.int .u64) 119 (r.2.2.blocks.sets.2.1.words : List Int), .box 112 (.agg [vi .i64 r.2.2.blocks.sets.2.2.1.size, .sl 10 1 []]), .row (.int .u64) 119 (r.2.2.blocks.sets.2.2.1.words : List Int), .box 112 (.agg [vi .i64 r.2.2.blocks.sets.2.2.2.size, .sl 12 1 []]), .row (.int .u64) 119 (r.2.2.blocks.sets.2.2.2.words : List Int)]) cok Tryd.func58 rfl rfl rfl (by kernel_rfl) (by kernel_rfl) rfl rfl fun X => ?_
 refine bk h fun t1 k2 h => ?_
 refine cl3 cok.g (press_Write.sc fu a0.device a1 a2 _ k2) (vi .i64 t1.1) [(1, .box 105 (.agg [.sl 2 4 [], .agg [.sl 3 1 [], vi .i64 t1.2.plan.at_], vb t1.2.off, vb t1.2.armed, vi .i64 t1.2.left, vi .i64 t1.2.steps])), (2, .row (.st .S_pmem_cell) 125 (t1.2.cells : List S_pmem_cell)), (3, .row (.int .i64) 3 (t1.2.plan.list : List Int))] 16 (by kernel_rfl) (by kernel_rfl) ?_
 refine t_cond cok ?_
 refine bi h (fun c3 h => ?_) (fun c3 h => ?_)
 ·skip
  exact fi h (by kernel_rfl)
 exact fi h (by kernel_rfl)
def shadow_Store_Make.f (fu : Nat) (a0 : S_shadow_Store) (a1 : List Int) : Option (Int × Int × S_shadow_Store) := (if (!decide ((List.length a1 : Int) = 64)) = true then some (0, 2, a0) else ((alloc_Alloc_Take.f fu a0.blocks).bind fun t2 => (if (!decide (t2.2.1 = 0)) = true then some (0, t2.2.1, (⟨a0.device, t2.2.2⟩ : S_shadow_Store)) else ((shadow_Store_written.f fu (⟨a0.device, t2.2.2⟩ : S_shadow_Store) t2.1 a1).bind fun t5 => some (t5.1, t5.2.1, t5.2.2)))))
theorem shadow_Store_Make.sc (fu : Nat) (a0 : S_shadow_Store) (a1 : List Int) (r : Int × Int × S_shadow_Store) (h : shadow_Store_Make.f fu a0 a1 = some r) : SC Tryd.prog CT 17 [.ptr 0 0, .v (.sl (.int .u8)) (a1 : List Int)] [.box 114 (.agg [.ptr 1 0, .ptr 4 0]), .box 105 (.agg [.sl 2 4 [], .agg [.sl 3 1 [], vi .i64 a0.device.plan.at_], vb a0.device.off, vb a0.device.armed, vi .i64 a0.device.left, vi .i64 a0.device.steps]), .row (.st .S_pmem_cell) 125 (a0.device.cells : List S_pmem_cell), .row (.int .i64) 3 (a0.device.plan.list : List Int), .box 108 (.agg [vi .i64 a0.blocks.reserve, .agg [.ptr 5 0, .ptr 7 0, .ptr 9 0, .ptr 11 0]]), .box 112 (.agg [vi .i64 a0.blocks.sets.1.size, .sl 6 1 []]), .row (.int .u64) 119 (a0.blocks.sets.1.words : List Int), .box 112 (.agg [vi .i64 a0.blocks.sets.2.1.size, .sl 8 1 []]), .row (.int .u64) 119 (a0.blocks.sets.2.1.words : List Int), .box 112 (.agg [vi .i64 a0.blocks.sets.2.2.1.size, .sl 10 1 []]), .row (.int .u64) 119 (a0.blocks.sets.2.2.1.words : List Int), .box 112 (.agg [vi .i64 a0.blocks.sets.2.2.2.size, .sl 12 1 []]), .row (.int .u64) 119 (a0.blocks.sets.2.2.2.words : List Int)] (.tup [vi .i64 r.1, vi .i64 r.2.1]) [.box 114 (.agg [.ptr 1 0, .ptr 4 0]), .box 105 (.agg [.sl 2 4 [], .agg [.sl 3 1 [], vi .i64 r.2.2.device.plan.at_], vb r.2.2.device.off, vb r.2.2.device.armed, vi .i64 r.2.2.device.left, vi .i64 r.2.2.device.steps]), .row (.st .S_pmem_cell) 125 (r.2.2.device.cells : List S_pmem_cell), .row (.int .i64) 3 (r.2.2.device.plan.list : List Int), .box 108 (.agg [vi .i64 r.2.2.blocks.reserve, .agg [.ptr 5 0, .ptr 7 0, .ptr 9 0, .ptr 11 0]]), .box 112 (.agg [vi .i64 r.2.2.blocks.sets.1.size, .sl 6 1 []]), .row (.int .u64) 119 (r.2.2.blocks.sets.1.words : List Int), .box 112 (.agg [vi .i64 r.2.2.blocks.sets.2.1.size, .sl 8 1 []]), .row (.int .u64) 119 (r.2.2.blocks.sets.2.1.words : List Int), .box 112 (.agg [vi .i64 r.2.2.blocks.sets.2.2.1.size, .sl 10 1 []]), .row (.int .u64) 119 (r.2.2.blocks.sets.2.2.1.words : List Int), .box 112 (.agg [vi .i64 r.2.2.blocks.sets.2.2.2.size, .sl 12 1 []]), .row (.int .u64) 119 (r.2.2.blocks.sets.2.2.2.words : List Int)] := by
 unfold shadow_Store_Make.f at h
 refine sc_of (r := r) (N := 28) (rs := [.tmp 4, .tmp 5]) (V := fun (r : Int × Int × S_shadow_Store) => .tup [vi .i64 r.1, vi .i64 r.2.1]) (R' := fun (r : Int × Int × S_shadow_Store) => [.box 114 (.agg [.ptr 1 0, .ptr 4 0]), .box 105 (.agg [.sl 2 4 [], .agg [.sl 3 1 [], vi .i64 r.2.2.device.plan.at_], vb r.2.2.device.off, vb r.2.2.device.armed, vi .i64 r.2.2.device.left, vi .i64 r.2.2.device.steps]), .row (.st .S_pmem_cell) 125 (r.2.2.device.cells : List S_pmem_cell), .row (.int .i64) 3 (r.2.2.device.plan.list : List Int), .box 108 (.agg [vi .i64 r.2.2.blocks.reserve, .agg [.ptr 5 0, .ptr 7 0, .ptr 9 0, .ptr 11 0]]), .box 112 (.agg [vi .i64 r.2.2.blocks.sets.1.size, .sl 6 1 []]), .row (.int .u64) 119 (r.2.2.blocks.sets.1.words : List Int), .box 112 (.agg [vi .i64 r.2.2.blocks.sets.2.1.size, .sl 8 1 []]), .row (.int .u64) 119 (r.2.2.blocks.sets.2.1.words : List Int), .box 112 (.agg [vi .i64 r.2.2.blocks.sets.2.2.1.size, .sl 10 1 []]), .row (.int .u64) 119 (r.2.2.blocks.sets.2.2.1.words : List Int), .box 112 (.agg [vi .i64 r.2.2.blocks.sets.2.2.2.size, .sl 12 1 []]), .row (.int .u64) 119 (r.2.2.blocks.sets.2.2.2.words : List Int)]) cok Tryd.func17 rfl rfl rfl (by kernel_rfl) (by kernel_rfl) rfl rfl fun X => ?_
 refine t_cond cok ?_
 refine bi h (fun c1 h => ?_) (fun c1 h => ?_)
 ·skip
  exact fi h (by kernel_rfl)
 refine bk h fun t2 k3 h => ?_
 refine cl3 cok.g (alloc_Alloc_Take.sc fu a0.blocks _ k3) (.tup [vi .i64 t2.1, vi .i64 t2.2.1]) [(4, .box 108 (.agg [vi .i64 t2.2.2.reserve, .agg [.ptr 5 0, .ptr 7 0, .ptr 9 0, .ptr 11 0]])), (5, .box 112 (.agg [vi .i64 t2.2.2.sets.1.size, .sl 6 1 []])), (6, .row (.int .u64) 119 (t2.2.2.sets.1.words : List Int)), (7, .box 112 (.agg [vi .i64 t2.2.2.sets.2.1.size, .sl 8 1 []])), (8, .row (.int .u64) 119 (t2.2.2.sets.2.1.words : List Int)), (9, .box 112 (.agg [vi .i64 t2.2.2.sets.2.2.1.size, .sl 10 1 []])), (10, .row (.int .u64) 119 (t2.2.2.sets.2.2.1.words : List Int)), (11, .box 112 (.agg [vi .i64 t2.2.2.sets.2.2.2.size, .sl 12 1 []])), (12, .row (.int .u64) 119 (t2.2.2.sets.2.2.2.words : List Int))] 22 (by kernel_rfl) (by kernel_rfl) ?_
 refine t_cond cok ?_
 refine bi h (fun c4 h => ?_) (fun c4 h => ?_)
 ·skip
  exact fi h (by kernel_rfl)
 refine bk h fun t5 k6 h => ?_
 refine cl3 cok.g (shadow_Store_written.sc fu (⟨a0.device, t2.2.2⟩ : S_shadow_Store) t2.1 a1 _ k6) (.tup [vi .i64 t5.1, vi .i64 t5.2.1]) [(0, .box 114 (.agg [.ptr 1 0, .ptr 4 0])), (1, .box 105 (.agg [.sl 2 4 [], .agg [.sl 3 1 [], vi .i64 t5.2.2.device.plan.at_], vb t5.2.2.device.off, vb t5.2.2.device.armed, vi .i64 t5.2.2.device.left, vi .i64 t5.2.2.device.steps])), (2, .row (.st .S_pmem_cell) 125 (t5.2.2.device.cells : List S_pmem_cell)), (3, .row (.int .i64) 3 (t5.2.2.device.plan.list : List Int)), (4, .box 108 (.agg [vi .i64 t5.2.2.blocks.reserve, .agg [.ptr 5 0, .ptr 7 0, .ptr 9 0, .ptr 11 0]])), (5, .box 112 (.agg [vi .i64 t5.2.2.blocks.sets.1.size, .sl 6 1 []])), (6, .row (.int .u64) 119 (t5.2.2.blocks.sets.1.words : List Int)), (7, .box 112 (.agg [vi .i64 t5.2.2.blocks.sets.2.1.size, .sl 8 1 []])), (8, .row (.int .u64) 119 (t5.2.2.blocks.sets.2.1.words : List Int)), (9, .box 112 (.agg [vi .i64 t5.2.2.blocks.sets.2.2.1.size, .sl 10 1 []])), (10, .row (.int .u64) 119 (t5.2.2.blocks.sets.2.2.1.words : List Int)), (11, .box 112 (.agg [vi .i64 t5.2.2.blocks.sets.2.2.2.size, .sl 12 1 []])), (12, .row (.int .u64) 119 (t5.2.2.blocks.sets.2.2.2.words : List Int))] 35 (by kernel_rfl) (by kernel_rfl) ?_
 exact fi h (by kernel_rfl)
def bits_Set_Drop.s0 (fu : Nat) (a0 : S_bits_Set) (a1 : List Int) : (Int × (List Int)) → Option (Sum (List Int) (Int × (List Int))) := fun s1 => (if (decide (s1.1 < (List.length a1 : Int))) = true then if 0 ≤ s1.1 ∧ s1.1 < (List.length a1 : Int) then ((bits_Set_may.f fu (⟨a0.size, s1.2⟩ : S_bits_Set) (ix a1 s1.1)).bind fun t7 => (((if t7 = true then if 0 ≤ (IntKind.i64.wrap (Int.tdiv (ix a1 s1.1) 64)) ∧ (IntKind.i64.wrap (Int.tdiv (ix a1 s1.1) 64)) < (List.length s1.2 : Int) then if 0 ≤ (Int.tmod (ix a1 s1.1) 64) then if 0 ≤ (IntKind.i64.wrap (Int.tdiv (ix a1 s1.1) 64)) ∧ (IntKind.i64.wrap (Int.tdiv (ix a1 s1.1) 64)) < (List.length s1.2 : Int) then some ((List.set s1.2 (Int.toNat (IntKind.i64.wrap (Int.tdiv (ix a1 s1.1) 64))) (bNot .u64 (ix s1.2 (IntKind.i64.wrap (Int.tdiv (ix a1 s1.1) 64))) (shL .u64 1 (Int.tmod (ix a1 s1.1) 64))))) else none else none else none else some (s1.2)) : Option (List Int)).bind fun x9 => some (Sum.inr ((IntKind.i64.wrap (s1.1 + 1)), x9)))) else none else some (Sum.inl (s1.2)))
def bits_Set_Drop.f (fu : Nat) (a0 : S_bits_Set) (a1 : List Int) : Option S_bits_Set := ((loopM (bits_Set_Drop.s0 fu a0 a1) fu (0, a0.words)).bind fun e2 => some ((⟨a0.size, e2⟩ : S_bits_Set)))
theorem bits_Set_Drop.sc (fu : Nat) (a0 : S_bits_Set) (a1 : List Int) (r : S_bits_Set) (h : bits_Set_Drop.f fu a0 a1 = some r) : SC Tryd.prog CT 93 [.ptr 0 0, .v (.sl (.int .i64)) (a1 : List Int)] [.box 112 (.agg [vi .i64 a0.size, .sl 1 1 []]), .row (.int .u64) 119 (a0.words : List Int)] (.tup []) [.box 112 (.agg [vi .i64 r.size, .sl 1 1 []]), .row (.int .u64) 119 (r.words : List Int)] := by
 unfold bits_Set_Drop.f at h
 refine sc_of (r := r) (N := 29) (rs := []) (V := fun (r : S_bits_Set) => .tup []) (R' := fun (r : S_bits_Set) => [.box 112 (.agg [vi .i64 r.size, .sl 1 1 []]), .row (.int .u64) 119 (r.words : List Int)]) cok Tryd.func93 rfl rfl rfl (by kernel_rfl) (by kernel_rfl) rfl rfl fun X => ?_
 refine bk h fun e2 l3 h => ?_
 refine t_cutx cok 0 (fun (e2 : (List Int)) => ⟨[], [.box 112 (.agg [vi .i64 a0.size, .sl 1 1 []]), .row (.int .u64) 119 (e2 : List Int)]⟩) e2 ?_ ?_
 ·skip
  have h4 := h
  refine t_loop cok (fun (s1 : Int × (List Int)) => ⟨[(0, .ptr 0 0), (6, .v (.sl (.int .i64)) (a1 : List Int)), (7, vi .i64 (List.length a1 : Int)), (8, vi .i64 s1.1)], [.box 112 (.agg [vi .i64 a0.size, .sl 1 1 []]), .row (.int .u64) 119 (s1.2 : List Int)]⟩) l3 (by kernel_rfl) (fun s1 x5 h => ?_)
  unfold bits_Set_Drop.s0 at h
  refine t_cond cok ?_
  refine bi h (fun c6 h => ?_) (fun c6 h => ?_)
  ·skip
   refine ag h fun h => ?_
   refine bk h fun t7 k8 h => ?_
   refine cl3 cok.g (bits_Set_may.sc fu (⟨a0.size, s1.2⟩ : S_bits_Set) (ix a1 s1.1) _ k8) (vb t7) [(0, .box 112 (.agg [vi .i64 a0.size, .sl 1 1 []])), (1, .row (.int .u64) 119 (s1.2 : List Int))] 4 (by kernel_rfl) (by kernel_rfl) ?_
   refine bk h fun x9 j10 h => ?_
   refine t_cut cok (fun (x9 : (List Int)) => ⟨[(0, .ptr 0 0), (6, .v (.sl (.int .i64)) (a1 : List Int)), (7, vi .i64 (List.length a1 : Int)), (8, vi .i64 s1.1)], [.box 112 (.agg [vi .i64 a0.size, .sl 1 1 []]), .row (.int .u64) 119 (x9 : List Int)]⟩) x9 ?_ ?_
   ·skip
    have h11 := h
    have h := j10
    refine t_cond cok ?_
    refine bi h (fun c12 h => ?_) (fun c12 h => ?_)
    ·skip
     refine t_draw cok mo [⟨0, false, [0], [], 0, []⟩, ⟨1, false, [15], [], 0, [0]⟩, ⟨2, false, [16], [], 0, [0, 1]⟩, ⟨3, false, [17], [0], 0, [0, 1, 2]⟩, ⟨4, false, [5], [], 0, []⟩, ⟨5, false, [19], [], 0, [4]⟩, ⟨6, false, [18, 20], [1], 0, [0, 1, 2, 3, 4, 5]⟩, ⟨7, false, [21], [1], 0, [0, 1, 2, 3, 4, 5, 6]⟩, ⟨8, false, [5], [], 0, []⟩, ⟨9, false, [23], [], 0, [8]⟩, ⟨10, false, [24], [], 0, [8, 9]⟩, ⟨11, false, [22, 25], [], 0, [0, 1, 2, 3, 4, 5, 6, 7, 8, 9, 10]⟩, ⟨12, false, [18, 20], [1], 0, [0, 1, 2, 3, 4, 5, 6, 7, 8, 9, 10, 11]⟩, ⟨13, true, [26, 27], [1], 0, [0, 1, 2, 3, 4, 5, 6, 7, 8, 9, 10, 11, 12]⟩] (by kernel_rfl) ?_
     refine ⟨by decide, ?_⟩
     refine ag h fun h => ?_
     refine ⟨by decide, ?_⟩
     refine ag h fun h => ?_
     refine ag h fun h => ?_
     exact em h (by kernel_rfl)
    exact em h (by kernel_rfl)
   exact lpi h (by kernel_rfl)
  exact lpx h (fun hy => em (sj hy) (by kernel_rfl))
 exact fiN h (by kernel_rfl)
def alloc_Alloc_Give.f (fu : Nat) (a0 : S_alloc_Alloc) (a1 : Int) : Option (Int × S_alloc_Alloc) := ((bits_Set_Has.f fu a0.sets.2.2.2 a1).bind fun t1 => (if (!t1) = true then some (2, a0) else ((bits_Set_Drop.f fu a0.sets.2.2.2 [a1]).bind fun t4 => some (0, (⟨a0.reserve, (a0.sets.1, a0.sets.2.1, a0.sets.2.2.1, t4)⟩ : S_alloc_Alloc)))))
theorem alloc_Alloc_Give.sc (fu : Nat) (a0 : S_alloc_Alloc) (a1 : Int) (r : Int × S_alloc_Alloc) (h : alloc_Alloc_Give.f fu a0 a1 = some r) : SC Tryd.prog CT 62 [.ptr 0 0, vi .i64 a1] [.box 108 (.agg [vi .i64 a0.reserve, .agg [.ptr 1 0, .ptr 3 0, .ptr 5 0, .ptr 7 0]]), .box 112 (.agg [vi .i64 a0.sets.1.size, .sl 2 1 []]), .row (.int .u64) 119 (a0.sets.1.words : List Int), .box 112 (.agg [vi .i64 a0.sets.2.1.size, .sl 4 1 []]), .row (.int .u64) 119 (a0.sets.2.1.words : List Int), .box 112 (.agg [vi .i64 a0.sets.2.2.1.size, .sl 6 1 []]), .row (.int .u64) 119 (a0.sets.2.2.1.words : List Int), .box 112 (.agg [vi .i64 a0.sets.2.2.2.size, .sl 8 1 []]), .row (.int .u64) 119 (a0.sets.2.2.2.words : List Int)] (vi .i64 r.1) [.box 108 (.agg [vi .i64 r.2.reserve, .agg [.ptr 1 0, .ptr 3 0, .ptr 5 0, .ptr 7 0]]), .box 112 (.agg [vi .i64 r.2.sets.1.size, .sl 2 1 []]), .row (.int .u64) 119 (r.2.sets.1.words : List Int), .box 112 (.agg [vi .i64 r.2.sets.2.1.size, .sl 4 1 []]), .row (.int .u64) 119 (r.2.sets.2.1.words : List Int), .box 112 (.agg [vi .i64 r.2.sets.2.2.1.size, .sl 6 1 []]), .row (.int .u64) 119 (r.2.sets.2.2.1.words : List Int), .box 112 (.agg [vi .i64 r.2.sets.2.2.2.size, .sl 8 1 []]), .row (.int .u64) 119 (r.2.sets.2.2.2.words : List Int)] := by
 unfold alloc_Alloc_Give.f at h
 refine sc_of (r := r) (N := 21) (rs := [.tmp 4]) (V := fun (r : Int × S_alloc_Alloc) => vi .i64 r.1) (R' := fun (r : Int × S_alloc_Alloc) => [.box 108 (.agg [vi .i64 r.2.reserve, .agg [.ptr 1 0, .ptr 3 0, .ptr 5 0, .ptr 7 0]]), .box 112 (.agg [vi .i64 r.2.sets.1.size, .sl 2 1 []]), .row (.int .u64) 119 (r.2.sets.1.words : List Int), .box 112 (.agg [vi .i64 r.2.sets.2.1.size, .sl 4 1 []]), .row (.int .u64) 119 (r.2.sets.2.1.words : List Int), .box 112 (.agg [vi .i64 r.2.sets.2.2.1.size, .sl 6 1 []]), .row (.int .u64) 119 (r.2.sets.2.2.1.words : List Int), .box 112 (.agg [vi .i64 r.2.sets.2.2.2.size, .sl 8 1 []]), .row (.int .u64) 119 (r.2.sets.2.2.2.words : List Int)]) cok Tryd.func62 rfl rfl rfl (by kernel_rfl) (by kernel_rfl) rfl rfl fun X => ?_
 refine ⟨by decide, ?_⟩
 refine bk h fun t1 k2 h => ?_
 refine cl3 cok.g (bits_Set_Has.sc fu a0.sets.2.2.2 a1 _ k2) (vb t1) [(7, .box 112 (.agg [vi .i64 a0.sets.2.2.2.size, .sl 8 1 []])), (8, .row (.int .u64) 119 (a0.sets.2.2.2.words : List Int))] 11 (by kernel_rfl) (by kernel_rfl) ?_
 refine t_cond cok ?_
 refine bi h (fun c3 h => ?_) (fun c3 h => ?_)
 ·skip
  exact fi h (by kernel_rfl)
 refine ⟨by decide, ?_⟩
 refine bk h fun t4 k5 h => ?_
 refine cl3 cok.g (bits_Set_Drop.sc fu a0.sets.2.2.2 [a1] _ k5) (.tup []) [(7, .box 112 (.agg [vi .i64 t4.size, .sl 8 1 []])), (8, .row (.int .u64) 119 (t4.words : List Int))] 14 (by kernel_rfl) (by kernel_rfl) ?_
 exact fi h (by kernel_rfl)
def alloc_Alloc_Own.f (fu : Nat) (a0 : S_alloc_Alloc) (a1 : Int) : Option Bool := ((bits_Set_Has.f fu a0.sets.2.2.2 a1).bind fun t1 => (if t1 = true then ((bits_Set_Has.f fu a0.sets.2.2.1 a1).bind fun t4 => some ((!t4))) else some (false)))
theorem alloc_Alloc_Own.sc (fu : Nat) (a0 : S_alloc_Alloc) (a1 : Int) (r : Bool) (h : alloc_Alloc_Own.f fu a0 a1 = some r) : SC Tryd.prog CT 61 [.ptr 0 0, vi .i64 a1] [.box 108 (.agg [vi .i64 a0.reserve, .agg [.ptr 1 0, .ptr 3 0, .ptr 5 0, .ptr 7 0]]), .box 112 (.agg [vi .i64 a0.sets.1.size, .sl 2 1 []]), .row (.int .u64) 119 (a0.sets.1.words : List Int), .box 112 (.agg [vi .i64 a0.sets.2.1.size, .sl 4 1 []]), .row (.int .u64) 119 (a0.sets.2.1.words : List Int), .box 112 (.agg [vi .i64 a0.sets.2.2.1.size, .sl 6 1 []]), .row (.int .u64) 119 (a0.sets.2.2.1.words : List Int), .box 112 (.agg [vi .i64 a0.sets.2.2.2.size, .sl 8 1 []]), .row (.int .u64) 119 (a0.sets.2.2.2.words : List Int)] (vb r) [.box 108 (.agg [vi .i64 a0.reserve, .agg [.ptr 1 0, .ptr 3 0, .ptr 5 0, .ptr 7 0]]), .box 112 (.agg [vi .i64 a0.sets.1.size, .sl 2 1 []]), .row (.int .u64) 119 (a0.sets.1.words : List Int), .box 112 (.agg [vi .i64 a0.sets.2.1.size, .sl 4 1 []]), .row (.int .u64) 119 (a0.sets.2.1.words : List Int), .box 112 (.agg [vi .i64 a0.sets.2.2.1.size, .sl 6 1 []]), .row (.int .u64) 119 (a0.sets.2.2.1.words : List Int), .box 112 (.agg [vi .i64 a0.sets.2.2.2.size, .sl 8 1 []]), .row (.int .u64) 119 (a0.sets.2.2.2.words : List Int)] := by
 unfold alloc_Alloc_Own.f at h
 refine sc_of (r := r) (N := 22) (rs := [.tmp 4]) (V := fun (r : Bool) => vb r) (R' := fun (r : Bool) => [.box 108 (.agg [vi .i64 a0.reserve, .agg [.ptr 1 0, .ptr 3 0, .ptr 5 0, .ptr 7 0]]), .box 112 (.agg [vi .i64 a0.sets.1.size, .sl 2 1 []]), .row (.int .u64) 119 (a0.sets.1.words : List Int), .box 112 (.agg [vi .i64 a0.sets.2.1.size, .sl 4 1 []]), .row (.int .u64) 119 (a0.sets.2.1.words : List Int), .box 112 (.agg [vi .i64 a0.sets.2.2.1.size, .sl 6 1 []]), .row (.int .u64) 119 (a0.sets.2.2.1.words : List Int), .box 112 (.agg [vi .i64 a0.sets.2.2.2.size, .sl 8 1 []]), .row (.int .u64) 119 (a0.sets.2.2.2.words : List Int)]) cok Tryd.func61 rfl rfl rfl (by kernel_rfl) (by kernel_rfl) rfl rfl fun X => ?_
 refine t_reg cok ?_
 refine ⟨by decide, ?_⟩
 refine bk h fun t1 k2 h => ?_
 refine cl3 cok.g (bits_Set_Has.sc fu a0.sets.2.2.2 a1 _ k2) (vb t1) [(7, .box 112 (.agg [vi .i64 a0.sets.2.2.2.size, .sl 8 1 []])), (8, .row (.int .u64) 119 (a0.sets.2.2.2.words : List Int))] 11 (by kernel_rfl) (by kernel_rfl) ?_
 refine bi h (fun c3 h => ?_) (fun c3 h => ?_)
 ·skip
  refine ⟨by decide, ?_⟩
  refine bk h fun t4 k5 h => ?_
  refine cl3 cok.g (bits_Set_Has.sc fu a0.sets.2.2.1 a1 _ k5) (vb t4) [(5, .box 112 (.agg [vi .i64 a0.sets.2.2.1.size, .sl 6 1 []])), (6, .row (.int .u64) 119 (a0.sets.2.2.1.words : List Int))] 13 (by kernel_rfl) (by kernel_rfl) ?_
  exact fi h (by kernel_rfl)
 exact fi h (by kernel_rfl)
def shadow_Store_Turn.f (fu : Nat) (a0 : S_shadow_Store) (a1 : Int) (a2 : List Int) : Option (Int × Int × S_shadow_Store) := (if (!decide ((List.length a2 : Int) = 64)) = true then some (0, 2, a0) else ((alloc_Alloc_Works.f fu a0.blocks).bind fun t2 => ((bits_Set_Has.f fu t2 a1).bind fun t4 => (if (!t4) = true then some (0, 2, a0) else ((alloc_Alloc_Own.f fu a0.blocks a1).bind fun t7 => (if t7 = true then ((shadow_Store_written.f fu a0 a1 a2).bind fun t10 => some (t10.1, t10.2.1, t10.2.2)) else ((shadow_Store_Make.f fu a0 a2).bind fun t12 => (if (!decide (t12.2.1 = 0)) = true then some (0, t12.2.1, t12.2.2) else ((alloc_Alloc_Give.f fu t12.2.2.blocks a1).bind fun t15 => some (t12.1, t15.1, (⟨t12.2.2.device, t15.2⟩ : S_shadow_Store)))))))))))
theorem shadow_Store_Turn.sc (fu : Nat) (a0 : S_shadow_Store) (a1 : Int) (a2 : List Int) (r : Int × Int × S_shadow_Store) (h : shadow_Store_Turn.f fu a0 a1 a2 = some r) : SC Tryd.prog CT 19 [.ptr 0 0, vi .i64 a1, .v (.sl (.int .u8)) (a2 : List Int)] [.box 114 (.agg [.ptr 1 0, .ptr 4 0]), .box 105 (.agg [.sl 2 4 [], .agg [.sl 3 1 [], vi .i64 a0.device.plan.at_], vb a0.device.off, vb a0.device.armed, vi .i64 a0.device.left, vi .i64 a0.device.steps]), .row (.st .S_pmem_cell) 125 (a0.device.cells : List S_pmem_cell), .row (.int .i64) 3 (a0.device.plan.list : List Int), .box 108 (.agg [vi .i64 a0.blocks.reserve, .agg [.ptr 5 0, .ptr 7 0, .ptr 9 0, .ptr 11 0]]), .box 112 (.agg [vi .i64 a0.blocks.sets.1.size, .sl 6 1 []]), .row (.int .u64) 119 (a0.blocks.sets.1.words : List Int), .box 112 (.agg [vi .i64 a0.blocks.sets.2.1.size, .sl 8 1 []]), .row (.int .u64) 119 (a0.blocks.sets.2.1.words : List Int), .box 112 (.agg [vi .i64 a0.blocks.sets.2.2.1.size, .sl 10 1 []]), .row (.int .u64) 119 (a0.blocks.sets.2.2.1.words : List Int), .box 112 (.agg [vi .i64 a0.blocks.sets.2.2.2.size, .sl 12 1 []]), .row (.int .u64) 119 (a0.blocks.sets.2.2.2.words : List Int)] (.tup [vi .i64 r.1, vi .i64 r.2.1]) [.box 114 (.agg [.ptr 1 0, .ptr 4 0]), .box 105 (.agg [.sl 2 4 [], .agg [.sl 3 1 [], vi .i64 r.2.2.device.plan.at_], vb r.2.2.device.off, vb r.2.2.device.armed, vi .i64 r.2.2.device.left, vi .i64 r.2.2.device.steps]), .row (.st .S_pmem_cell) 125 (r.2.2.device.cells : List S_pmem_cell), .row (.int .i64) 3 (r.2.2.device.plan.list : List Int), .box 108 (.agg [vi .i64 r.2.2.blocks.reserve, .agg [.ptr 5 0, .ptr 7 0, .ptr 9 0, .ptr 11 0]]), .box 112 (.agg [vi .i64 r.2.2.blocks.sets.1.size, .sl 6 1 []]), .row (.int .u64) 119 (r.2.2.blocks.sets.1.words : List Int), .box 112 (.agg [vi .i64 r.2.2.blocks.sets.2.1.size, .sl 8 1 []]), .row (.int .u64) 119 (r.2.2.blocks.sets.2.1.words : List Int), .box 112 (.agg [vi .i64 r.2.2.blocks.sets.2.2.1.size, .sl 10 1 []]), .row (.int .u64) 119 (r.2.2.blocks.sets.2.2.1.words : List Int), .box 112 (.agg [vi .i64 r.2.2.blocks.sets.2.2.2.size, .sl 12 1 []]), .row (.int .u64) 119 (r.2.2.blocks.sets.2.2.2.words : List Int)] := by
 unfold shadow_Store_Turn.f at h
 refine sc_of (r := r) (N := 51) (rs := [.tmp 6, .tmp 7]) (V := fun (r : Int × Int × S_shadow_Store) => .tup [vi .i64 r.1, vi .i64 r.2.1]) (R' := fun (r : Int × Int × S_shadow_Store) => [.box 114 (.agg [.ptr 1 0, .ptr 4 0]), .box 105 (.agg [.sl 2 4 [], .agg [.sl 3 1 [], vi .i64 r.2.2.device.plan.at_], vb r.2.2.device.off, vb r.2.2.device.armed, vi .i64 r.2.2.device.left, vi .i64 r.2.2.device.steps]), .row (.st .S_pmem_cell) 125 (r.2.2.device.cells : List S_pmem_cell), .row (.int .i64) 3 (r.2.2.device.plan.list : List Int), .box 108 (.agg [vi .i64 r.2.2.blocks.reserve, .agg [.ptr 5 0, .ptr 7 0, .ptr 9 0, .ptr 11 0]]), .box 112 (.agg [vi .i64 r.2.2.blocks.sets.1.size, .sl 6 1 []]), .row (.int .u64) 119 (r.2.2.blocks.sets.1.words : List Int), .box 112 (.agg [vi .i64 r.2.2.blocks.sets.2.1.size, .sl 8 1 []]), .row (.int .u64) 119 (r.2.2.blocks.sets.2.1.words : List Int), .box 112 (.agg [vi .i64 r.2.2.blocks.sets.2.2.1.size, .sl 10 1 []]), .row (.int .u64) 119 (r.2.2.blocks.sets.2.2.1.words : List Int), .box 112 (.agg [vi .i64 r.2.2.blocks.sets.2.2.2.size, .sl 12 1 []]), .row (.int .u64) 119 (r.2.2.blocks.sets.2.2.2.words : List Int)]) cok Tryd.func19 rfl rfl rfl (by kernel_rfl) (by kernel_rfl) rfl rfl fun X => ?_
 refine t_reg cok ?_
 refine bi h (fun c1 h => ?_) (fun c1 h => ?_)
 ·skip
  refine t_cond cok ?_
  exact fi h (by kernel_rfl)
 refine bk h fun t2 k3 h => ?_
 refine cl3 cok.g (alloc_Alloc_Works.sc fu a0.blocks _ k3) (.ptr 22 0) [(4, .box 108 (.agg [vi .i64 a0.blocks.reserve, .agg [.ptr 5 0, .ptr 7 0, .ptr 9 0, .ptr 11 0]])), (5, .box 112 (.agg [vi .i64 a0.blocks.sets.1.size, .sl 6 1 []])), (6, .row (.int .u64) 119 (a0.blocks.sets.1.words : List Int)), (7, .box 112 (.agg [vi .i64 a0.blocks.sets.2.1.size, .sl 8 1 []])), (8, .row (.int .u64) 119 (a0.blocks.sets.2.1.words : List Int)), (9, .box 112 (.agg [vi .i64 a0.blocks.sets.2.2.1.size, .sl 10 1 []])), (10, .row (.int .u64) 119 (a0.blocks.sets.2.2.1.words : List Int)), (11, .box 112 (.agg [vi .i64 a0.blocks.sets.2.2.2.size, .sl 12 1 []])), (12, .row (.int .u64) 119 (a0.blocks.sets.2.2.2.words : List Int)), (22, .box 112 (.agg [vi .i64 t2.size, .sl 23 1 []])), (23, .row (.int .u64) 119 (t2.words : List Int))] 24 (by kernel_rfl) (by kernel_rfl) ?_
 refine bk h fun t4 k5 h => ?_
 refine cl3 cok.g (bits_Set_Has.sc fu t2 a1 _ k5) (vb t4) [(22, .box 112 (.agg [vi .i64 t2.size, .sl 23 1 []])), (23, .row (.int .u64) 119 (t2.words : List Int))] 26 (by kernel_rfl) (by kernel_rfl) ?_
 refine t_cond cok ?_
 refine bi h (fun c6 h => ?_) (fun c6 h => ?_)
 ·skip
  exact fi h (by kernel_rfl)
 refine bk h fun t7 k8 h => ?_
 refine cl3 cok.g (alloc_Alloc_Own.sc fu a0.blocks a1 _ k8) (vb t7) [(4, .box 108 (.agg [vi .i64 a0.blocks.reserve, .agg [.ptr 5 0, .ptr 7 0, .ptr 9 0, .ptr 11 0]])), (5, .box 112 (.agg [vi .i64 a0.blocks.sets.1.size, .sl 6 1 []])), (6, .row (.int .u64) 119 (a0.blocks.sets.1.words : List Int)), (7, .box 112 (.agg [vi .i64 a0.blocks.sets.2.1.size, .sl 8 1 []])), (8, .row (.int .u64) 119 (a0.blocks.sets.2.1.words : List Int)), (9, .box 112 (.agg [vi .i64 a0.blocks.sets.2.2.1.size, .sl 10 1 []])), (10, .row (.int .u64) 119 (a0.blocks.sets.2.2.1.words : List Int)), (11, .box 112 (.agg [vi .i64 a0.blocks.sets.2.2.2.size, .sl 12 1 []])), (12, .row (.int .u64) 119 (a0.blocks.sets.2.2.2.words : List Int))] 35 (by kernel_rfl) (by kernel_rfl) ?_
 refine t_cond cok ?_
 refine bi h (fun c9 h => ?_) (fun c9 h => ?_)
 ·skip
  refine bk h fun t10 k11 h => ?_
  refine cl3 cok.g (shadow_Store_written.sc fu a0 a1 a2 _ k11) (.tup [vi .i64 t10.1, vi .i64 t10.2.1]) [(0, .box 114 (.agg [.ptr 1 0, .ptr 4 0])), (1, .box 105 (.agg [.sl 2 4 [], .agg [.sl 3 1 [], vi .i64 t10.2.2.device.plan.at_], vb t10.2.2.device.off, vb t10.2.2.device.armed, vi .i64 t10.2.2.device.left, vi .i64 t10.2.2.device.steps])), (2, .row (.st .S_pmem_cell) 125 (t10.2.2.device.cells : List S_pmem_cell)), (3, .row (.int .i64) 3 (t10.2.2.device.plan.list : List Int)), (4, .box 108 (.agg [vi .i64 t10.2.2.blocks.reserve, .agg [.ptr 5 0, .ptr 7 0, .ptr 9 0, .ptr 11 0]])), (5, .box 112 (.agg [vi .i64 t10.2.2.blocks.sets.1.size, .sl 6 1 []])), (6, .row (.int .u64) 119 (t10.2.2.blocks.sets.1.words : List Int)), (7, .box 112 (.agg [vi .i64 t10.2.2.blocks.sets.2.1.size, .sl 8 1 []])), (8, .row (.int .u64) 119 (t10.2.2.blocks.sets.2.1.words : List Int)), (9, .box 112 (.agg [vi .i64 t10.2.2.blocks.sets.2.2.1.size, .sl 10 1 []])), (10, .row (.int .u64) 119 (t10.2.2.blocks.sets.2.2.1.words : List Int)), (11, .box 112 (.agg [vi .i64 t10.2.2.blocks.sets.2.2.2.size, .sl 12 1 []])), (12, .row (.int .u64) 119 (t10.2.2.blocks.sets.2.2.2.words : List Int))] 48 (by kernel_rfl) (by kernel_rfl) ?_
  exact fi h (by kernel_rfl)
 refine bk h fun t12 k13 h => ?_
 refine cl3 cok.g (shadow_Store_Make.sc fu a0 a2 _ k13) (.tup [vi .i64 t12.1, vi .i64 t12.2.1]) [(0, .box 114 (.agg [.ptr 1 0, .ptr 4 0])), (1, .box 105 (.agg [.sl 2 4 [], .agg [.sl 3 1 [], vi .i64 t12.2.2.device.plan.at_], vb t12.2.2.device.off, vb t12.2.2.device.armed, vi .i64 t12.2.2.device.left, vi .i64 t12.2.2.device.steps])), (2, .row (.st .S_pmem_cell) 125 (t12.2.2.device.cells : List S_pmem_cell)), (3, .row (.int .i64) 3 (t12.2.2.device.plan.list : List Int)), (4, .box 108 (.agg [vi .i64 t12.2.2.blocks.reserve, .agg [.ptr 5 0, .ptr 7 0, .ptr 9 0, .ptr 11 0]])), (5, .box 112 (.agg [vi .i64 t12.2.2.blocks.sets.1.size, .sl 6 1 []])), (6, .row (.int .u64) 119 (t12.2.2.blocks.sets.1.words : List Int)), (7, .box 112 (.agg [vi .i64 t12.2.2.blocks.sets.2.1.size, .sl 8 1 []])), (8, .row (.int .u64) 119 (t12.2.2.blocks.sets.2.1.words : List Int)), (9, .box 112 (.agg [vi .i64 t12.2.2.blocks.sets.2.2.1.size, .sl 10 1 []])), (10, .row (.int .u64) 119 (t12.2.2.blocks.sets.2.2.1.words : List Int)), (11, .box 112 (.agg [vi .i64 t12.2.2.blocks.sets.2.2.2.size, .sl 12 1 []])), (12, .row (.int .u64) 119 (t12.2.2.blocks.sets.2.2.2.words : List Int))] 48 (by kernel_rfl) (by kernel_rfl) ?_
 refine t_cond cok ?_
 refine bi h (fun c14 h => ?_) (fun c14 h => ?_)
 ·skip
  exact fi h (by kernel_rfl)
 refine bk h fun t15 k16 h => ?_
 refine cl3 cok.g (alloc_Alloc_Give.sc fu t12.2.2.blocks a1 _ k16) (vi .i64 t15.1) [(4, .box 108 (.agg [vi .i64 t15.2.reserve, .agg [.ptr 5 0, .ptr 7 0, .ptr 9 0, .ptr 11 0]])), (5, .box 112 (.agg [vi .i64 t15.2.sets.1.size, .sl 6 1 []])), (6, .row (.int .u64) 119 (t15.2.sets.1.words : List Int)), (7, .box 112 (.agg [vi .i64 t15.2.sets.2.1.size, .sl 8 1 []])), (8, .row (.int .u64) 119 (t15.2.sets.2.1.words : List Int)), (9, .box 112 (.agg [vi .i64 t15.2.sets.2.2.1.size, .sl 10 1 []])), (10, .row (.int .u64) 119 (t15.2.sets.2.2.1.words : List Int)), (11, .box 112 (.agg [vi .i64 t15.2.sets.2.2.2.size, .sl 12 1 []])), (12, .row (.int .u64) 119 (t15.2.sets.2.2.2.words : List Int))] 57 (by kernel_rfl) (by kernel_rfl) ?_
 exact fi h (by kernel_rfl)
def rickyardlaw19_awake.f (fu : Nat) : Option Bool := ((rickyardlaw19_Made.f fu 9 0).bind fun t1 => (Option.elim t1.1 ((Option.elim t1.2.1 ((Option.elim t1.2.2 (some (false)) (fun o7 => some (false)))) (fun o5 => (Option.elim t1.2.2 (some (false)) (fun o9 => some (false)))))) (fun o3 => (Option.elim t1.2.1 ((Option.elim t1.2.2 (none) (fun o13 => none))) (fun o11 => (Option.elim t1.2.2 (none) (fun o15 => ((rickyardlaw19_whole.f fu 1).bind fun t17 => ((shadow_Store_Make.f fu (⟨o11, o15⟩ : S_shadow_Store) t17).bind fun t19 => ((rickyardlaw19_whole.f fu 2).bind fun t21 => ((shadow_Store_Turn.f fu t19.2.2 t19.1 t21).bind fun t23 => ((alloc_Alloc_Mark.f fu t23.2.2.blocks).bind fun t25 => ((rickyardlaw19_whole.f fu 3).bind fun t27 => ((shadow_Store_Turn.f fu (⟨t23.2.2.device, t25⟩ : S_shadow_Store) t19.1 t27).bind fun t29 => (if (decide (t19.2.1 = 0)) = true then (if (decide (t23.2.1 = 0)) = true then (if (decide (t29.2.1 = 0)) = true then (if (decide (t19.1 = 2)) = true then (if (decide (t23.1 = 2)) = true then some ((decide (t29.1 = 3))) else some (false)) else some (false)) else some (false)) else some (false)) else some (false))))))))))))))))
theorem rickyardlaw19_awake.sc (fu : Nat) (r : Bool) (h : rickyardlaw19_awake.f fu = some r) : SC Tryd.prog CT 10 [] [] (vb r) [] := by
 unfold rickyardlaw19_awake.f at h
 refine sc_of (r := r) (N := 65) (rs := [.tmp 0]) (V := fun (r : Bool) => vb r) (R' := fun (r : Bool) => []) cok Tryd.func10 rfl rfl rfl (by kernel_rfl) (by kernel_rfl) rfl rfl fun X => ?_
 refine bk h fun t1 k2 h => ?_
 refine oe (x := t1.1) h (fun q4 h => ?_) (fun o3 q4 h => ?_)
 ·skip
  refine oe (x := t1.2.1) h (fun q6 h => ?_) (fun o5 q6 h => ?_)
  ·skip
   refine oe (x := t1.2.2) h (fun q8 h => ?_) (fun o7 q8 h => ?_)
   ·skip
    refine cl3 cok.g (rickyardlaw19_Made.scnnn fu 9 0 _ k2 q4 q6 q8) (.tup [.nilp, .nilp, .nilp]) [] 0 (by kernel_rfl) (by kernel_rfl) ?_
    refine t_reg cok ?_
    refine t_cond cok ?_
    exact fi h (by kernel_rfl)
   refine cl3 cok.g (rickyardlaw19_Made.scnns fu 9 0 _ k2 q4 q6 o7 q8) (.tup [.nilp, .nilp, .ptr 0 0]) [(0, .box 108 (.agg [vi .i64 o7.reserve, .agg [.ptr 1 0, .ptr 3 0, .ptr 5 0, .ptr 7 0]])), (1, .box 112 (.agg [vi .i64 o7.sets.1.size, .sl 2 1 []])), (2, .row (.int .u64) 119 (o7.sets.1.words : List Int)), (3, .box 112 (.agg [vi .i64 o7.sets.2.1.size, .sl 4 1 []])), (4, .row (.int .u64) 119 (o7.sets.2.1.words : List Int)), (5, .box 112 (.agg [vi .i64 o7.sets.2.2.1.size, .sl 6 1 []])), (6, .row (.int .u64) 119 (o7.sets.2.2.1.words : List Int)), (7, .box 112 (.agg [vi .i64 o7.sets.2.2.2.size, .sl 8 1 []])), (8, .row (.int .u64) 119 (o7.sets.2.2.2.words : List Int))] 9 (by kernel_rfl) (by kernel_rfl) ?_
   refine t_reg cok ?_
   refine t_cond cok ?_
   exact fi h (by kernel_rfl)
  refine oe (x := t1.2.2) h (fun q10 h => ?_) (fun o9 q10 h => ?_)
  ·skip
   refine cl3 cok.g (rickyardlaw19_Made.scnsn fu 9 0 _ k2 q4 o5 q6 q10) (.tup [.nilp, .ptr 0 0, .nilp]) [(0, .box 105 (.agg [.sl 1 4 [], .agg [.sl 2 1 [], vi .i64 o5.plan.at_], vb o5.off, vb o5.armed, vi .i64 o5.left, vi .i64 o5.steps])), (1, .row (.st .S_pmem_cell) 125 (o5.cells : List S_pmem_cell)), (2, .row (.int .i64) 3 (o5.plan.list : List Int))] 3 (by kernel_rfl) (by kernel_rfl) ?_
   refine t_reg cok ?_
   refine t_cond cok ?_
   exact fi h (by kernel_rfl)
  refine cl3 cok.g (rickyardlaw19_Made.scnss fu 9 0 _ k2 q4 o5 q6 o9 q10) (.tup [.nilp, .ptr 0 0, .ptr 3 0]) [(0, .box 105 (.agg [.sl 1 4 [], .agg [.sl 2 1 [], vi .i64 o5.plan.at_], vb o5.off, vb o5.armed, vi .i64 o5.left, vi .i64 o5.steps])), (1, .row (.st .S_pmem_cell) 125 (o5.cells : List S_pmem_cell)), (2, .row (.int .i64) 3 (o5.plan.list : List Int)), (3, .box 108 (.agg [vi .i64 o9.reserve, .agg [.ptr 4 0, .ptr 6 0, .ptr 8 0, .ptr 10 0]])), (4, .box 112 (.agg [vi .i64 o9.sets.1.size, .sl 5 1 []])), (5, .row (.int .u64) 119 (o9.sets.1.words : List Int)), (6, .box 112 (.agg [vi .i64 o9.sets.2.1.size, .sl 7 1 []])), (7, .row (.int .u64) 119 (o9.sets.2.1.words : List Int)), (8, .box 112 (.agg [vi .i64 o9.sets.2.2.1.size, .sl 9 1 []])), (9, .row (.int .u64) 119 (o9.sets.2.2.1.words : List Int)), (10, .box 112 (.agg [vi .i64 o9.sets.2.2.2.size, .sl 11 1 []])), (11, .row (.int .u64) 119 (o9.sets.2.2.2.words : List Int))] 12 (by kernel_rfl) (by kernel_rfl) ?_
  refine t_reg cok ?_
  refine t_cond cok ?_
  exact fi h (by kernel_rfl)
 refine oe (x := t1.2.1) h (fun q12 h => ?_) (fun o11 q12 h => ?_)
 ·skip
  refine oe (x := t1.2.2) h (fun q14 h => ?_) (fun o13 q14 h => ?_)
  ·skip
   cases h
  cases h
 refine oe (x := t1.2.2) h (fun q16 h => ?_) (fun o15 q16 h => ?_)
 ·skip
  cases h
 refine cl3 cok.g (rickyardlaw19_Made.scsss fu 9 0 _ k2 o3 q4 o11 q12 o15 q16) (.tup [.ptr 12 0, .ptr 0 0, .ptr 3 0]) [(0, .box 105 (.agg [.sl 1 4 [], .agg [.sl 2 1 [], vi .i64 o11.plan.at_], vb o11.off, vb o11.armed, vi .i64 o11.left, vi .i64 o11.steps])), (1, .row (.st .S_pmem_cell) 125 (o11.cells : List S_pmem_cell)), (2, .row (.int .i64) 3 (o11.plan.list : List Int)), (3, .box 108 (.agg [vi .i64 o15.reserve, .agg [.ptr 4 0, .ptr 6 0, .ptr 8 0, .ptr 10 0]])), (4, .box 112 (.agg [vi .i64 o15.sets.1.size, .sl 5 1 []])), (5, .row (.int .u64) 119 (o15.sets.1.words : List Int)), (6, .box 112 (.agg [vi .i64 o15.sets.2.1.size, .sl 7 1 []])), (7, .row (.int .u64) 119 (o15.sets.2.1.words : List Int)), (8, .box 112 (.agg [vi .i64 o15.sets.2.2.1.size, .sl 9 1 []])), (9, .row (.int .u64) 119 (o15.sets.2.2.1.words : List Int)), (10, .box 112 (.agg [vi .i64 o15.sets.2.2.2.size, .sl 11 1 []])), (11, .row (.int .u64) 119 (o15.sets.2.2.2.words : List Int)), (12, .box 114 (.agg [.ptr 0 0, .ptr 3 0]))] 13 (by kernel_rfl) (by kernel_rfl) ?_
 refine t_reg cok ?_
 refine t_cond cok ?_
 refine bk h fun t17 k18 h => ?_
 refine cl3 cok.g (rickyardlaw19_whole.sc fu 1 _ k18) (.sl 13 1 []) [(13, .row (.int .u8) 5 (t17 : List Int))] 14 (by kernel_rfl) (by kernel_rfl) ?_
 refine bk h fun t19 k20 h => ?_
 refine cl3 cok.g (shadow_Store_Make.sc fu (⟨o11, o15⟩ : S_shadow_Store) t17 _ k20) (.tup [vi .i64 t19.1, vi .i64 t19.2.1]) [(12, .box 114 (.agg [.ptr 0 0, .ptr 3 0])), (0, .box 105 (.agg [.sl 1 4 [], .agg [.sl 2 1 [], vi .i64 t19.2.2.device.plan.at_], vb t19.2.2.device.off, vb t19.2.2.device.armed, vi .i64 t19.2.2.device.left, vi .i64 t19.2.2.device.steps])), (1, .row (.st .S_pmem_cell) 125 (t19.2.2.device.cells : List S_pmem_cell)), (2, .row (.int .i64) 3 (t19.2.2.device.plan.list : List Int)), (3, .box 108 (.agg [vi .i64 t19.2.2.blocks.reserve, .agg [.ptr 4 0, .ptr 6 0, .ptr 8 0, .ptr 10 0]])), (4, .box 112 (.agg [vi .i64 t19.2.2.blocks.sets.1.size, .sl 5 1 []])), (5, .row (.int .u64) 119 (t19.2.2.blocks.sets.1.words : List Int)), (6, .box 112 (.agg [vi .i64 t19.2.2.blocks.sets.2.1.size, .sl 7 1 []])), (7, .row (.int .u64) 119 (t19.2.2.blocks.sets.2.1.words : List Int)), (8, .box 112 (.agg [vi .i64 t19.2.2.blocks.sets.2.2.1.size, .sl 9 1 []])), (9, .row (.int .u64) 119 (t19.2.2.blocks.sets.2.2.1.words : List Int)), (10, .box 112 (.agg [vi .i64 t19.2.2.blocks.sets.2.2.2.size, .sl 11 1 []])), (11, .row (.int .u64) 119 (t19.2.2.blocks.sets.2.2.2.words : List Int))] 27 (by kernel_rfl) (by kernel_rfl) ?_
 refine bk h fun t21 k22 h => ?_
 refine cl3 cok.g (rickyardlaw19_whole.sc fu 2 _ k22) (.sl 27 1 []) [(27, .row (.int .u8) 5 (t21 : List Int))] 28 (by kernel_rfl) (by kernel_rfl) ?_
 refine bk h fun t23 k24 h => ?_
 refine cl3 cok.g (shadow_Store_Turn.sc fu t19.2.2 t19.1 t21 _ k24) (.tup [vi .i64 t23.1, vi .i64 t23.2.1]) [(12, .box 114 (.agg [.ptr 0 0, .ptr 3 0])), (0, .box 105 (.agg [.sl 1 4 [], .agg [.sl 2 1 [], vi .i64 t23.2.2.device.plan.at_], vb t23.2.2.device.off, vb t23.2.2.device.armed, vi .i64 t23.2.2.device.left, vi .i64 t23.2.2.device.steps])), (1, .row (.st .S_pmem_cell) 125 (t23.2.2.device.cells : List S_pmem_cell)), (2, .row (.int .i64) 3 (t23.2.2.device.plan.list : List Int)), (3, .box 108 (.agg [vi .i64 t23.2.2.blocks.reserve, .agg [.ptr 4 0, .ptr 6 0, .ptr 8 0, .ptr 10 0]])), (4, .box 112 (.agg [vi .i64 t23.2.2.blocks.sets.1.size, .sl 5 1 []])), (5, .row (.int .u64) 119 (t23.2.2.blocks.sets.1.words : List Int)), (6, .box 112 (.agg [vi .i64 t23.2.2.blocks.sets.2.1.size, .sl 7 1 []])), (7, .row (.int .u64) 119 (t23.2.2.blocks.sets.2.1.words : List Int)), (8, .box 112 (.agg [vi .i64 t23.2.2.blocks.sets.2.2.1.size, .sl 9 1 []])), (9, .row (.int .u64) 119 (t23.2.2.blocks.sets.2.2.1.words : List Int)), (10, .box 112 (.agg [vi .i64 t23.2.2.blocks.sets.2.2.2.size, .sl 11 1 []])), (11, .row (.int .u64) 119 (t23.2.2.blocks.sets.2.2.2.words : List Int))] 41 (by kernel_rfl) (by kernel_rfl) ?_
 refine bk h fun t25 k26 h => ?_
 refine cl3 cok.g (alloc_Alloc_Mark.sc fu t23.2.2.blocks _ k26) (.tup []) [(3, .box 108 (.agg [vi .i64 t25.reserve, .agg [.ptr 4 0, .ptr 6 0, .ptr 50 0, .ptr 10 0]])), (4, .box 112 (.agg [vi .i64 t25.sets.1.size, .sl 5 1 []])), (5, .row (.int .u64) 119 (t25.sets.1.words : List Int)), (6, .box 112 (.agg [vi .i64 t25.sets.2.1.size, .sl 7 1 []])), (7, .row (.int .u64) 119 (t25.sets.2.1.words : List Int)), (8, .gone), (9, .gone), (10, .box 112 (.agg [vi .i64 t25.sets.2.2.2.size, .sl 11 1 []])), (11, .row (.int .u64) 119 (t25.sets.2.2.2.words : List Int)), (50, .box 112 (.agg [vi .i64 t25.sets.2.2.1.size, .sl 51 1 []])), (51, .row (.int .u64) 119 (t25.sets.2.2.1.words : List Int))] 52 (by kernel_rfl) (by kernel_rfl) ?_
 refine bk h fun t27 k28 h => ?_
 refine cl3 cok.g (rickyardlaw19_whole.sc fu 3 _ k28) (.sl 52 1 []) [(52, .row (.int .u8) 5 (t27 : List Int))] 53 (by kernel_rfl) (by kernel_rfl) ?_
 refine bk h fun t29 k30 h => ?_
 refine cl3 cok.g (shadow_Store_Turn.sc fu (⟨t23.2.2.device, t25⟩ : S_shadow_Store) t19.1 t27 _ k30) (.tup [vi .i64 t29.1, vi .i64 t29.2.1]) [(12, .box 114 (.agg [.ptr 0 0, .ptr 3 0])), (0, .box 105 (.agg [.sl 1 4 [], .agg [.sl 2 1 [], vi .i64 t29.2.2.device.plan.at_], vb t29.2.2.device.off, vb t29.2.2.device.armed, vi .i64 t29.2.2.device.left, vi .i64 t29.2.2.device.steps])), (1, .row (.st .S_pmem_cell) 125 (t29.2.2.device.cells : List S_pmem_cell)), (2, .row (.int .i64) 3 (t29.2.2.device.plan.list : List Int)), (3, .box 108 (.agg [vi .i64 t29.2.2.blocks.reserve, .agg [.ptr 4 0, .ptr 6 0, .ptr 50 0, .ptr 10 0]])), (4, .box 112 (.agg [vi .i64 t29.2.2.blocks.sets.1.size, .sl 5 1 []])), (5, .row (.int .u64) 119 (t29.2.2.blocks.sets.1.words : List Int)), (6, .box 112 (.agg [vi .i64 t29.2.2.blocks.sets.2.1.size, .sl 7 1 []])), (7, .row (.int .u64) 119 (t29.2.2.blocks.sets.2.1.words : List Int)), (50, .box 112 (.agg [vi .i64 t29.2.2.blocks.sets.2.2.1.size, .sl 51 1 []])), (51, .row (.int .u64) 119 (t29.2.2.blocks.sets.2.2.1.words : List Int)), (10, .box 112 (.agg [vi .i64 t29.2.2.blocks.sets.2.2.2.size, .sl 11 1 []])), (11, .row (.int .u64) 119 (t29.2.2.blocks.sets.2.2.2.words : List Int))] 66 (by kernel_rfl) (by kernel_rfl) ?_
 refine t_reg cok ?_
 refine bi h (fun c31 h => ?_) (fun c31 h => ?_)
 ·skip
  refine bi h (fun c32 h => ?_) (fun c32 h => ?_)
  ·skip
   refine bi h (fun c33 h => ?_) (fun c33 h => ?_)
   ·skip
    refine bi h (fun c34 h => ?_) (fun c34 h => ?_)
    ·skip
     refine bi h (fun c35 h => ?_) (fun c35 h => ?_)
     ·skip
      exact fi h (by kernel_rfl)
     exact fi h (by kernel_rfl)
    exact fi h (by kernel_rfl)
   exact fi h (by kernel_rfl)
  exact fi h (by kernel_rfl)
 exact fi h (by kernel_rfl)
def alloc_Alloc_become_c3_c0.f (fu : Nat) (a0 : S_alloc_Alloc) : Option S_alloc_Alloc := ((alloc_copied.f fu a0.sets.1).bind fun t1 => some ((⟨a0.reserve, (a0.sets.1, a0.sets.2.1, a0.sets.2.2.1, t1)⟩ : S_alloc_Alloc)))
theorem alloc_Alloc_become_c3_c0.sc (fu : Nat) (a0 : S_alloc_Alloc) (r : S_alloc_Alloc) (h : alloc_Alloc_become_c3_c0.f fu a0 = some r) : SC Tryd.prog CT 59 [.ptr 0 0, vi .i64 3, vi .i64 0] [.box 108 (.agg [vi .i64 a0.reserve, .agg [.ptr 1 0, .ptr 3 0, .ptr 5 0, .ptr 7 0]]), .box 112 (.agg [vi .i64 a0.sets.1.size, .sl 2 1 []]), .row (.int .u64) 119 (a0.sets.1.words : List Int), .box 112 (.agg [vi .i64 a0.sets.2.1.size, .sl 4 1 []]), .row (.int .u64) 119 (a0.sets.2.1.words : List Int), .box 112 (.agg [vi .i64 a0.sets.2.2.1.size, .sl 6 1 []]), .row (.int .u64) 119 (a0.sets.2.2.1.words : List Int), .box 112 (.agg [vi .i64 a0.sets.2.2.2.size, .sl 8 1 []]), .row (.int .u64) 119 (a0.sets.2.2.2.words : List Int)] (.tup []) [.box 108 (.agg [vi .i64 r.reserve, .agg [.ptr 1 0, .ptr 3 0, .ptr 5 0, .ptr 9 0]]), .box 112 (.agg [vi .i64 r.sets.1.size, .sl 2 1 []]), .row (.int .u64) 119 (r.sets.1.words : List Int), .box 112 (.agg [vi .i64 r.sets.2.1.size, .sl 4 1 []]), .row (.int .u64) 119 (r.sets.2.1.words : List Int), .box 112 (.agg [vi .i64 r.sets.2.2.1.size, .sl 6 1 []]), .row (.int .u64) 119 (r.sets.2.2.1.words : List Int), .gone, .gone, .box 112 (.agg [vi .i64 r.sets.2.2.2.size, .sl 10 1 []]), .row (.int .u64) 119 (r.sets.2.2.2.words : List Int)] := by
 unfold alloc_Alloc_become_c3_c0.f at h
 refine sc_of (r := r) (N := 18) (rs := []) (V := fun (r : S_alloc_Alloc) => .tup []) (R' := fun (r : S_alloc_Alloc) => [.box 108 (.agg [vi .i64 r.reserve, .agg [.ptr 1 0, .ptr 3 0, .ptr 5 0, .ptr 9 0]]), .box 112 (.agg [vi .i64 r.sets.1.size, .sl 2 1 []]), .row (.int .u64) 119 (r.sets.1.words : List Int), .box 112 (.agg [vi .i64 r.sets.2.1.size, .sl 4 1 []]), .row (.int .u64) 119 (r.sets.2.1.words : List Int), .box 112 (.agg [vi .i64 r.sets.2.2.1.size, .sl 6 1 []]), .row (.int .u64) 119 (r.sets.2.2.1.words : List Int), .gone, .gone, .box 112 (.agg [vi .i64 r.sets.2.2.2.size, .sl 10 1 []]), .row (.int .u64) 119 (r.sets.2.2.2.words : List Int)]) cok Tryd.func59 rfl rfl rfl (by kernel_rfl) (by kernel_rfl) rfl rfl fun X => ?_
 refine t_draw cok mo [⟨0, false, [0], [], 0, []⟩, ⟨1, false, [1], [], 0, []⟩, ⟨2, false, [0], [], 0, []⟩, ⟨3, false, [2], [], 0, []⟩, ⟨4, false, [8], [], 0, [2]⟩, ⟨5, false, [10], [], 0, [2, 4]⟩, ⟨6, false, [9, 11], [], 0, [2, 3, 4, 5]⟩, ⟨7, false, [12], [0], 0, [2, 3, 4, 5, 6]⟩, ⟨8, true, [13], [1, 2], 4, [2, 3, 4, 5, 6, 7]⟩, ⟨9, false, [6], [], 0, [0]⟩, ⟨10, false, [15], [], 0, [0, 9]⟩, ⟨11, false, [7, 16], [], 0, [0, 1, 2, 3, 4, 5, 6, 7, 8, 9, 10]⟩, ⟨12, true, [14, 17], [0, 11], 0, [0, 1, 2, 3, 4, 5, 6, 7, 8, 9, 10, 11]⟩] (by kernel_rfl) ?_
 refine ⟨by decide, ?_⟩
 refine bk h fun t1 k2 h => ?_
 refine cl3 cok.g (alloc_copied.sc fu a0.sets.1 _ k2) (.ptr 11 0) [(1, .box 112 (.agg [vi .i64 a0.sets.1.size, .sl 2 1 []])), (2, .row (.int .u64) 119 (a0.sets.1.words : List Int)), (11, .box 112 (.agg [vi .i64 t1.size, .sl 12 1 []])), (12, .row (.int .u64) 119 (t1.words : List Int))] 13 (by kernel_rfl) (by kernel_rfl) ?_
 refine ⟨by decide, ?_⟩
 exact fiN h (by kernel_rfl)
def alloc_Alloc_Abort.f (fu : Nat) (a0 : S_alloc_Alloc) : Option S_alloc_Alloc := ((alloc_Alloc_become_c3_c0.f fu a0).bind fun t1 => ((alloc_Alloc_Mark.f fu t1).bind fun t3 => some (t3)))
theorem alloc_Alloc_Abort.sc (fu : Nat) (a0 : S_alloc_Alloc) (r : S_alloc_Alloc) (h : alloc_Alloc_Abort.f fu a0 = some r) : SC Tryd.prog CT 41 [.ptr 0 0] [.box 108 (.agg [vi .i64 a0.reserve, .agg [.ptr 1 0, .ptr 3 0, .ptr 5 0, .ptr 7 0]]), .box 112 (.agg [vi .i64 a0.sets.1.size, .sl 2 1 []]), .row (.int .u64) 119 (a0.sets.1.words : List Int), .box 112 (.agg [vi .i64 a0.sets.2.1.size, .sl 4 1 []]), .row (.int .u64) 119 (a0.sets.2.1.words : List Int), .box 112 (.agg [vi .i64 a0.sets.2.2.1.size, .sl 6 1 []]), .row (.int .u64) 119 (a0.sets.2.2.1.words : List Int), .box 112 (.agg [vi .i64 a0.sets.2.2.2.size, .sl 8 1 []]), .row (.int .u64) 119 (a0.sets.2.2.2.words : List Int)] (.tup []) [.box 108 (.agg [vi .i64 r.reserve, .agg [.ptr 1 0, .ptr 3 0, .ptr 9 0, .ptr 11 0]]), .box 112 (.agg [vi .i64 r.sets.1.size, .sl 2 1 []]), .row (.int .u64) 119 (r.sets.1.words : List Int), .box 112 (.agg [vi .i64 r.sets.2.1.size, .sl 4 1 []]), .row (.int .u64) 119 (r.sets.2.1.words : List Int), .gone, .gone, .gone, .gone, .box 112 (.agg [vi .i64 r.sets.2.2.1.size, .sl 10 1 []]), .row (.int .u64) 119 (r.sets.2.2.1.words : List Int), .box 112 (.agg [vi .i64 r.sets.2.2.2.size, .sl 12 1 []]), .row (.int .u64) 119 (r.sets.2.2.2.words : List Int)] := by
 unfold alloc_Alloc_Abort.f at h
 refine sc_of (r := r) (N := 6) (rs := []) (V := fun (r : S_alloc_Alloc) => .tup []) (R' := fun (r : S_alloc_Alloc) => [.box 108 (.agg [vi .i64 r.reserve, .agg [.ptr 1 0, .ptr 3 0, .ptr 9 0, .ptr 11 0]]), .box 112 (.agg [vi .i64 r.sets.1.size, .sl 2 1 []]), .row (.int .u64) 119 (r.sets.1.words : List Int), .box 112 (.agg [vi .i64 r.sets.2.1.size, .sl 4 1 []]), .row (.int .u64) 119 (r.sets.2.1.words : List Int), .gone, .gone, .gone, .gone, .box 112 (.agg [vi .i64 r.sets.2.2.1.size, .sl 10 1 []]), .row (.int .u64) 119 (r.sets.2.2.1.words : List Int), .box 112 (.agg [vi .i64 r.sets.2.2.2.size, .sl 12 1 []]), .row (.int .u64) 119 (r.sets.2.2.2.words : List Int)]) cok Tryd.func41 rfl rfl rfl (by kernel_rfl) (by kernel_rfl) rfl rfl fun X => ?_
 refine bk h fun t1 k2 h => ?_
 refine cl3 cok.g (alloc_Alloc_become_c3_c0.sc fu a0 _ k2) (.tup []) [(0, .box 108 (.agg [vi .i64 t1.reserve, .agg [.ptr 1 0, .ptr 3 0, .ptr 5 0, .ptr 18 0]])), (1, .box 112 (.agg [vi .i64 t1.sets.1.size, .sl 2 1 []])), (2, .row (.int .u64) 119 (t1.sets.1.words : List Int)), (3, .box 112 (.agg [vi .i64 t1.sets.2.1.size, .sl 4 1 []])), (4, .row (.int .u64) 119 (t1.sets.2.1.words : List Int)), (5, .box 112 (.agg [vi .i64 t1.sets.2.2.1.size, .sl 6 1 []])), (6, .row (.int .u64) 119 (t1.sets.2.2.1.words : List Int)), (7, .gone), (8, .gone), (18, .box 112 (.agg [vi .i64 t1.sets.2.2.2.size, .sl 19 1 []])), (19, .row (.int .u64) 119 (t1.sets.2.2.2.words : List Int))] 20 (by kernel_rfl) (by kernel_rfl) ?_
 refine bk h fun t3 k4 h => ?_
 refine cl3 cok.g (alloc_Alloc_Mark.sc fu t1 _ k4) (.tup []) [(0, .box 108 (.agg [vi .i64 t3.reserve, .agg [.ptr 1 0, .ptr 3 0, .ptr 29 0, .ptr 18 0]])), (1, .box 112 (.agg [vi .i64 t3.sets.1.size, .sl 2 1 []])), (2, .row (.int .u64) 119 (t3.sets.1.words : List Int)), (3, .box 112 (.agg [vi .i64 t3.sets.2.1.size, .sl 4 1 []])), (4, .row (.int .u64) 119 (t3.sets.2.1.words : List Int)), (5, .gone), (6, .gone), (18, .box 112 (.agg [vi .i64 t3.sets.2.2.2.size, .sl 19 1 []])), (19, .row (.int .u64) 119 (t3.sets.2.2.2.words : List Int)), (29, .box 112 (.agg [vi .i64 t3.sets.2.2.1.size, .sl 30 1 []])), (30, .row (.int .u64) 119 (t3.sets.2.2.1.words : List Int))] 31 (by kernel_rfl) (by kernel_rfl) ?_
 exact fiN h (by kernel_rfl)
def alloc_Alloc_become_c3_c2.f (fu : Nat) (a0 : S_alloc_Alloc) : Option S_alloc_Alloc := ((alloc_copied.f fu a0.sets.2.2.1).bind fun t1 => some ((⟨a0.reserve, (a0.sets.1, a0.sets.2.1, a0.sets.2.2.1, t1)⟩ : S_alloc_Alloc)))
theorem alloc_Alloc_become_c3_c2.sc (fu : Nat) (a0 : S_alloc_Alloc) (r : S_alloc_Alloc) (h : alloc_Alloc_become_c3_c2.f fu a0 = some r) : SC Tryd.prog CT 59 [.ptr 0 0, vi .i64 3, vi .i64 2] [.box 108 (.agg [vi .i64 a0.reserve, .agg [.ptr 1 0, .ptr 3 0, .ptr 5 0, .ptr 7 0]]), .box 112 (.agg [vi .i64 a0.sets.1.size, .sl 2 1 []]), .row (.int .u64) 119 (a0.sets.1.words : List Int), .box 112 (.agg [vi .i64 a0.sets.2.1.size, .sl 4 1 []]), .row (.int .u64) 119 (a0.sets.2.1.words : List Int), .box 112 (.agg [vi .i64 a0.sets.2.2.1.size, .sl 6 1 []]), .row (.int .u64) 119 (a0.sets.2.2.1.words : List Int), .box 112 (.agg [vi .i64 a0.sets.2.2.2.size, .sl 8 1 []]), .row (.int .u64) 119 (a0.sets.2.2.2.words : List Int)] (.tup []) [.box 108 (.agg [vi .i64 r.reserve, .agg [.ptr 1 0, .ptr 3 0, .ptr 5 0, .ptr 9 0]]), .box 112 (.agg [vi .i64 r.sets.1.size, .sl 2 1 []]), .row (.int .u64) 119 (r.sets.1.words : List Int), .box 112 (.agg [vi .i64 r.sets.2.1.size, .sl 4 1 []]), .row (.int .u64) 119 (r.sets.2.1.words : List Int), .box 112 (.agg [vi .i64 r.sets.2.2.1.size, .sl 6 1 []]), .row (.int .u64) 119 (r.sets.2.2.1.words : List Int), .gone, .gone, .box 112 (.agg [vi .i64 r.sets.2.2.2.size, .sl 10 1 []]), .row (.int .u64) 119 (r.sets.2.2.2.words : List Int)] := by
 unfold alloc_Alloc_become_c3_c2.f at h
 refine sc_of (r := r) (N := 18) (rs := []) (V := fun (r : S_alloc_Alloc) => .tup []) (R' := fun (r : S_alloc_Alloc) => [.box 108 (.agg [vi .i64 r.reserve, .agg [.ptr 1 0, .ptr 3 0, .ptr 5 0, .ptr 9 0]]), .box 112 (.agg [vi .i64 r.sets.1.size, .sl 2 1 []]), .row (.int .u64) 119 (r.sets.1.words : List Int), .box 112 (.agg [vi .i64 r.sets.2.1.size, .sl 4 1 []]), .row (.int .u64) 119 (r.sets.2.1.words : List Int), .box 112 (.agg [vi .i64 r.sets.2.2.1.size, .sl 6 1 []]), .row (.int .u64) 119 (r.sets.2.2.1.words : List Int), .gone, .gone, .box 112 (.agg [vi .i64 r.sets.2.2.2.size, .sl 10 1 []]), .row (.int .u64) 119 (r.sets.2.2.2.words : List Int)]) cok Tryd.func59 rfl rfl rfl (by kernel_rfl) (by kernel_rfl) rfl rfl fun X => ?_
 refine t_draw cok mo [⟨0, false, [0], [], 0, []⟩, ⟨1, false, [1], [], 0, []⟩, ⟨2, false, [0], [], 0, []⟩, ⟨3, false, [2], [], 0, []⟩, ⟨4, false, [8], [], 0, [2]⟩, ⟨5, false, [10], [], 0, [2, 4]⟩, ⟨6, false, [9, 11], [], 0, [2, 3, 4, 5]⟩, ⟨7, false, [12], [0], 0, [2, 3, 4, 5, 6]⟩, ⟨8, true, [13], [5, 6], 4, [2, 3, 4, 5, 6, 7]⟩, ⟨9, false, [6], [], 0, [0]⟩, ⟨10, false, [15], [], 0, [0, 9]⟩, ⟨11, false, [7, 16], [], 0, [0, 1, 2, 3, 4, 5, 6, 7, 8, 9, 10]⟩, ⟨12, true, [14, 17], [0, 11], 0, [0, 1, 2, 3, 4, 5, 6, 7, 8, 9, 10, 11]⟩] (by kernel_rfl) ?_
 refine ⟨by decide, ?_⟩
 refine bk h fun t1 k2 h => ?_
 refine cl3 cok.g (alloc_copied.sc fu a0.sets.2.2.1 _ k2) (.ptr 11 0) [(5, .box 112 (.agg [vi .i64 a0.sets.2.2.1.size, .sl 6 1 []])), (6, .row (.int .u64) 119 (a0.sets.2.2.1.words : List Int)), (11, .box 112 (.agg [vi .i64 t1.size, .sl 12 1 []])), (12, .row (.int .u64) 119 (t1.words : List Int))] 13 (by kernel_rfl) (by kernel_rfl) ?_
 refine ⟨by decide, ?_⟩
 exact fiN h (by kernel_rfl)
def alloc_Alloc_Back.f (fu : Nat) (a0 : S_alloc_Alloc) : Option S_alloc_Alloc := ((alloc_Alloc_become_c3_c2.f fu a0).bind fun t1 => some (t1))
theorem alloc_Alloc_Back.sc (fu : Nat) (a0 : S_alloc_Alloc) (r : S_alloc_Alloc) (h : alloc_Alloc_Back.f fu a0 = some r) : SC Tryd.prog CT 27 [.ptr 0 0] [.box 108 (.agg [vi .i64 a0.reserve, .agg [.ptr 1 0, .ptr 3 0, .ptr 5 0, .ptr 7 0]]), .box 112 (.agg [vi .i64 a0.sets.1.size, .sl 2 1 []]), .row (.int .u64) 119 (a0.sets.1.words : List Int), .box 112 (.agg [vi .i64 a0.sets.2.1.size, .sl 4 1 []]), .row (.int .u64) 119 (a0.sets.2.1.words : List Int), .box 112 (.agg [vi .i64 a0.sets.2.2.1.size, .sl 6 1 []]), .row (.int .u64) 119 (a0.sets.2.2.1.words : List Int), .box 112 (.agg [vi .i64 a0.sets.2.2.2.size, .sl 8 1 []]), .row (.int .u64) 119 (a0.sets.2.2.2.words : List Int)] (.tup []) [.box 108 (.agg [vi .i64 r.reserve, .agg [.ptr 1 0, .ptr 3 0, .ptr 5 0, .ptr 9 0]]), .box 112 (.agg [vi .i64 r.sets.1.size, .sl 2 1 []]), .row (.int .u64) 119 (r.sets.1.words : List Int), .box 112 (.agg [vi .i64 r.sets.2.1.size, .sl 4 1 []]), .row (.int .u64) 119 (r.sets.2.1.words : List Int), .box 112 (.agg [vi .i64 r.sets.2.2.1.size, .sl 6 1 []]), .row (.int .u64) 119 (r.sets.2.2.1.words : List Int), .gone, .gone, .box 112 (.agg [vi .i64 r.sets.2.2.2.size, .sl 10 1 []]), .row (.int .u64) 119 (r.sets.2.2.2.words : List Int)] := by
 unfold alloc_Alloc_Back.f at h
 refine sc_of (r := r) (N := 4) (rs := []) (V := fun (r : S_alloc_Alloc) => .tup []) (R' := fun (r : S_alloc_Alloc) => [.box 108 (.agg [vi .i64 r.reserve, .agg [.ptr 1 0, .ptr 3 0, .ptr 5 0, .ptr 9 0]]), .box 112 (.agg [vi .i64 r.sets.1.size, .sl 2 1 []]), .row (.int .u64) 119 (r.sets.1.words : List Int), .box 112 (.agg [vi .i64 r.sets.2.1.size, .sl 4 1 []]), .row (.int .u64) 119 (r.sets.2.1.words : List Int), .box 112 (.agg [vi .i64 r.sets.2.2.1.size, .sl 6 1 []]), .row (.int .u64) 119 (r.sets.2.2.1.words : List Int), .gone, .gone, .box 112 (.agg [vi .i64 r.sets.2.2.2.size, .sl 10 1 []]), .row (.int .u64) 119 (r.sets.2.2.2.words : List Int)]) cok Tryd.func27 rfl rfl rfl (by kernel_rfl) (by kernel_rfl) rfl rfl fun X => ?_
 refine bk h fun t1 k2 h => ?_
 refine cl3 cok.g (alloc_Alloc_become_c3_c2.sc fu a0 _ k2) (.tup []) [(0, .box 108 (.agg [vi .i64 t1.reserve, .agg [.ptr 1 0, .ptr 3 0, .ptr 5 0, .ptr 18 0]])), (1, .box 112 (.agg [vi .i64 t1.sets.1.size, .sl 2 1 []])), (2, .row (.int .u64) 119 (t1.sets.1.words : List Int)), (3, .box 112 (.agg [vi .i64 t1.sets.2.1.size, .sl 4 1 []])), (4, .row (.int .u64) 119 (t1.sets.2.1.words : List Int)), (5, .box 112 (.agg [vi .i64 t1.sets.2.2.1.size, .sl 6 1 []])), (6, .row (.int .u64) 119 (t1.sets.2.2.1.words : List Int)), (7, .gone), (8, .gone), (18, .box 112 (.agg [vi .i64 t1.sets.2.2.2.size, .sl 19 1 []])), (19, .row (.int .u64) 119 (t1.sets.2.2.2.words : List Int))] 20 (by kernel_rfl) (by kernel_rfl) ?_
 exact fiN h (by kernel_rfl)
def rickyardref01_Rest.f (fu : Nat) (a0 : Int) (a1 : Int) : Option Int := if a1 ≠ 0 then if a1 ≠ 0 then some ((Int.tmod (IntKind.i64.wrap ((Int.tmod a0 a1) + a1)) a1)) else none else none
theorem rickyardref01_Rest.sc (fu : Nat) (a0 : Int) (a1 : Int) (r : Int) (h : rickyardref01_Rest.f fu a0 a1 = some r) : SC Tryd.prog CT 26 [vi .i64 a0, vi .i64 a1] [] (vi .i64 r) [] := by
 unfold rickyardref01_Rest.f at h
 refine sc_of (r := r) (N := 12) (rs := [.tmp 4]) (V := fun (r : Int) => vi .i64 r) (R' := fun (r : Int) => []) cok Tryd.func26 rfl rfl rfl (by kernel_rfl) (by kernel_rfl) rfl rfl fun X => ?_
 refine ag h fun h => ?_
 refine ag h fun h => ?_
 exact fi h (by kernel_rfl)
def shadow_Store_Drop.f (fu : Nat) (a0 : S_shadow_Store) (a1 : Int) : Option (Int × S_shadow_Store) := ((alloc_Alloc_Give.f fu a0.blocks a1).bind fun t1 => some (t1.1, (⟨a0.device, t1.2⟩ : S_shadow_Store)))
theorem shadow_Store_Drop.sc (fu : Nat) (a0 : S_shadow_Store) (a1 : Int) (r : Int × S_shadow_Store) (h : shadow_Store_Drop.f fu a0 a1 = some r) : SC Tryd.prog CT 21 [.ptr 0 0, vi .i64 a1] [.box 114 (.agg [.ptr 1 0, .ptr 4 0]), .box 105 (.agg [.sl 2 4 [], .agg [.sl 3 1 [], vi .i64 a0.device.plan.at_], vb a0.device.off, vb a0.device.armed, vi .i64 a0.device.left, vi .i64 a0.device.steps]), .row (.st .S_pmem_cell) 125 (a0.device.cells : List S_pmem_cell), .row (.int .i64) 3 (a0.device.plan.list : List Int), .box 108 (.agg [vi .i64 a0.blocks.reserve, .agg [.ptr 5 0, .ptr 7 0, .ptr 9 0, .ptr 11 0]]), .box 112 (.agg [vi .i64 a0.blocks.sets.1.size, .sl 6 1 []]), .row (.int .u64) 119 (a0.blocks.sets.1.words : List Int), .box 112 (.agg [vi .i64 a0.blocks.sets.2.1.size, .sl 8 1 []]), .row (.int .u64) 119 (a0.blocks.sets.2.1.words : List Int), .box 112 (.agg [vi .i64 a0.blocks.sets.2.2.1.size, .sl 10 1 []]), .row (.int .u64) 119 (a0.blocks.sets.2.2.1.words : List Int), .box 112 (.agg [vi .i64 a0.blocks.sets.2.2.2.size, .sl 12 1 []]), .row (.int .u64) 119 (a0.blocks.sets.2.2.2.words : List Int)] (vi .i64 r.1) [.box 114 (.agg [.ptr 1 0, .ptr 4 0]), .box 105 (.agg [.sl 2 4 [], .agg [.sl 3 1 [], vi .i64 r.2.device.plan.at_], vb r.2.device.off, vb r.2.device.armed, vi .i64 r.2.device.left, vi .i64 r.2.device.steps]), .row (.st .S_pmem_cell) 125 (r.2.device.cells : List S_pmem_cell), .row (.int .i64) 3 (r.2.device.plan.list : List Int), .box 108 (.agg [vi .i64 r.2.blocks.reserve, .agg [.ptr 5 0, .ptr 7 0, .ptr 9 0, .ptr 11 0]]), .box 112 (.agg [vi .i64 r.2.blocks.sets.1.size, .sl 6 1 []]), .row (.int .u64) 119 (r.2.blocks.sets.1.words : List Int), .box 112 (.agg [vi .i64 r.2.blocks.sets.2.1.size, .sl 8 1 []]), .row (.int .u64) 119 (r.2.blocks.sets.2.1.words : List Int), .box 112 (.agg [vi .i64 r.2.blocks.sets.2.2.1.size, .sl 10 1 []]), .row (.int .u64) 119 (r.2.blocks.sets.2.2.1.words : List Int), .box 112 (.agg [vi .i64 r.2.blocks.sets.2.2.2.size, .sl 12 1 []]), .row (.int .u64) 119 (r.2.blocks.sets.2.2.2.words : List Int)] := by
 unfold shadow_Store_Drop.f at h
 refine sc_of (r := r) (N := 11) (rs := [.tmp 4]) (V := fun (r : Int × S_shadow_Store) => vi .i64 r.1) (R' := fun (r : Int × S_shadow_Store) => [.box 114 (.agg [.ptr 1 0, .ptr 4 0]), .box 105 (.agg [.sl 2 4 [], .agg [.sl 3 1 [], vi .i64 r.2.device.plan.at_], vb r.2.device.off, vb r.2.device.armed, vi .i64 r.2.device.left, vi .i64 r.2.device.steps]), .row (.st .S_pmem_cell) 125 (r.2.device.cells : List S_pmem_cell), .row (.int .i64) 3 (r.2.device.plan.list : List Int), .box 108 (.agg [vi .i64 r.2.blocks.reserve, .agg [.ptr 5 0, .ptr 7 0, .ptr 9 0, .ptr 11 0]]), .box 112 (.agg [vi .i64 r.2.blocks.sets.1.size, .sl 6 1 []]), .row (.int .u64) 119 (r.2.blocks.sets.1.words : List Int), .box 112 (.agg [vi .i64 r.2.blocks.sets.2.1.size, .sl 8 1 []]), .row (.int .u64) 119 (r.2.blocks.sets.2.1.words : List Int), .box 112 (.agg [vi .i64 r.2.blocks.sets.2.2.1.size, .sl 10 1 []]), .row (.int .u64) 119 (r.2.blocks.sets.2.2.1.words : List Int), .box 112 (.agg [vi .i64 r.2.blocks.sets.2.2.2.size, .sl 12 1 []]), .row (.int .u64) 119 (r.2.blocks.sets.2.2.2.words : List Int)]) cok Tryd.func21 rfl rfl rfl (by kernel_rfl) (by kernel_rfl) rfl rfl fun X => ?_
 refine bk h fun t1 k2 h => ?_
 refine cl3 cok.g (alloc_Alloc_Give.sc fu a0.blocks a1 _ k2) (vi .i64 t1.1) [(4, .box 108 (.agg [vi .i64 t1.2.reserve, .agg [.ptr 5 0, .ptr 7 0, .ptr 9 0, .ptr 11 0]])), (5, .box 112 (.agg [vi .i64 t1.2.sets.1.size, .sl 6 1 []])), (6, .row (.int .u64) 119 (t1.2.sets.1.words : List Int)), (7, .box 112 (.agg [vi .i64 t1.2.sets.2.1.size, .sl 8 1 []])), (8, .row (.int .u64) 119 (t1.2.sets.2.1.words : List Int)), (9, .box 112 (.agg [vi .i64 t1.2.sets.2.2.1.size, .sl 10 1 []])), (10, .row (.int .u64) 119 (t1.2.sets.2.2.1.words : List Int)), (11, .box 112 (.agg [vi .i64 t1.2.sets.2.2.2.size, .sl 12 1 []])), (12, .row (.int .u64) 119 (t1.2.sets.2.2.2.words : List Int))] 22 (by kernel_rfl) (by kernel_rfl) ?_
 exact fi h (by kernel_rfl)
def pmem_Device_Fence.s0 (fu : Nat) (a0 : S_pmem_Device) : (Int × (List S_pmem_cell)) → Option (Sum (List S_pmem_cell) (Int × (List S_pmem_cell))) := fun s4 => (if (decide (s4.1 < (List.length a0.cells : Int))) = true then if 0 ≤ s4.1 ∧ s4.1 < (List.length s4.2 : Int) then (((if (ix s4.2 s4.1).flushed = true then ((pmem_cell_keep__i0.f fu s4.2 s4.1 ((ix s4.2 s4.1).sent)).bind fun t14 => some (t14)) else some (s4.2)) : Option (List S_pmem_cell)).bind fun x10 => some (Sum.inr ((IntKind.i64.wrap (s4.1 + 1)), x10))) else none else some (Sum.inl (s4.2)))
def pmem_Device_Fence.f (fu : Nat) (a0 : S_pmem_Device) : Option (Int × S_pmem_Device) := ((pmem_Device_may.f fu a0 0 1).bind fun t1 => (if (!decide (t1 = 0)) = true then some (t1, a0) else ((loopM (pmem_Device_Fence.s0 fu a0) fu (0, a0.cells)).bind fun e5 => ((pmem_Device_step.f fu (⟨e5, a0.plan, a0.off, a0.armed, a0.left, a0.steps⟩ : S_pmem_Device)).bind fun t16 => some (0, t16)))))
theorem pmem_Device_Fence.sc (fu : Nat) (a0 : S_pmem_Device) (r : Int × S_pmem_Device) (h : pmem_Device_Fence.f fu a0 = some r) : SC Tryd.prog CT 97 [.ptr 0 0] [.box 105 (.agg [.sl 1 4 [], .agg [.sl 2 1 [], vi .i64 a0.plan.at_], vb a0.off, vb a0.armed, vi .i64 a0.left, vi .i64 a0.steps]), .row (.st .S_pmem_cell) 125 (a0.cells : List S_pmem_cell), .row (.int .i64) 3 (a0.plan.list : List Int)] (vi .i64 r.1) [.box 105 (.agg [.sl 1 4 [], .agg [.sl 2 1 [], vi .i64 r.2.plan.at_], vb r.2.off, vb r.2.armed, vi .i64 r.2.left, vi .i64 r.2.steps]), .row (.st .S_pmem_cell) 125 (r.2.cells : List S_pmem_cell), .row (.int .i64) 3 (r.2.plan.list : List Int)] := by
 unfold pmem_Device_Fence.f at h
 refine sc_of (r := r) (N := 38) (rs := [.tmp 2]) (V := fun (r : Int × S_pmem_Device) => vi .i64 r.1) (R' := fun (r : Int × S_pmem_Device) => [.box 105 (.agg [.sl 1 4 [], .agg [.sl 2 1 [], vi .i64 r.2.plan.at_], vb r.2.off, vb r.2.armed, vi .i64 r.2.left, vi .i64 r.2.steps]), .row (.st .S_pmem_cell) 125 (r.2.cells : List S_pmem_cell), .row (.int .i64) 3 (r.2.plan.list : List Int)]) cok Tryd.func97 rfl rfl rfl (by kernel_rfl) (by kernel_rfl) rfl rfl fun X => ?_
 refine bk h fun t1 k2 h => ?_
 refine cl3 cok.g (pmem_Device_may.sc fu a0 0 1 _ k2) (vi .i64 t1) [(0, .box 105 (.agg [.sl 1 4 [], .agg [.sl 2 1 [], vi .i64 a0.plan.at_], vb a0.off, vb a0.armed, vi .i64 a0.left, vi .i64 a0.steps])), (1, .row (.st .S_pmem_cell) 125 (a0.cells : List S_pmem_cell)), (2, .row (.int .i64) 3 (a0.plan.list : List Int))] 6 (by kernel_rfl) (by kernel_rfl) ?_
 refine t_cond cok ?_
 refine bi h (fun c3 h => ?_) (fun c3 h => ?_)
 ·skip
  exact fi h (by kernel_rfl)
 refine bk h fun e5 l6 h => ?_
 refine t_cutx cok 0 (fun (e5 : (List S_pmem_cell)) => ⟨[(0, .ptr 0 0)], [.box 105 (.agg [.sl 1 4 [], .agg [.sl 2 1 [], vi .i64 a0.plan.at_], vb a0.off, vb a0.armed, vi .i64 a0.left, vi .i64 a0.steps]), .row (.st .S_pmem_cell) 125 (e5 : List S_pmem_cell), .row (.int .i64) 3 (a0.plan.list : List Int)]⟩) e5 ?_ ?_
 ·skip
  have h7 := h
  refine t_loop cok (fun (s4 : Int × (List S_pmem_cell)) => ⟨[(0, .ptr 0 0), (15, vi .i64 (List.length a0.cells : Int)), (16, vi .i64 s4.1)], [.box 105 (.agg [.sl 1 4 [], .agg [.sl 2 1 [], vi .i64 a0.plan.at_], vb a0.off, vb a0.armed, vi .i64 a0.left, vi .i64 a0.steps]), .row (.st .S_pmem_cell) 125 (s4.2 : List S_pmem_cell), .row (.int .i64) 3 (a0.plan.list : List Int)]⟩) l6 (by kernel_rfl) (fun s4 x8 h => ?_)
  unfold pmem_Device_Fence.s0 at h
  refine t_cond cok ?_
  refine bi h (fun c9 h => ?_) (fun c9 h => ?_)
  ·skip
   refine ag h fun h => ?_
   refine bk h fun x10 j11 h => ?_
   refine t_cut cok (fun (x10 : (List S_pmem_cell)) => ⟨[(0, .ptr 0 0), (15, vi .i64 (List.length a0.cells : Int)), (16, vi .i64 s4.1)], [.box 105 (.agg [.sl 1 4 [], .agg [.sl 2 1 [], vi .i64 a0.plan.at_], vb a0.off, vb a0.armed, vi .i64 a0.left, vi .i64 a0.steps]), .row (.st .S_pmem_cell) 125 (x10 : List S_pmem_cell), .row (.int .i64) 3 (a0.plan.list : List Int)]⟩) x10 ?_ ?_
   ·skip
    have h12 := h
    have h := j11
    refine t_cond cok ?_
    refine bi h (fun c13 h => ?_) (fun c13 h => ?_)
    ·skip
     refine bk h fun t14 k15 h => ?_
     refine cl3 cok.g (pmem_cell_keep__i0.sc fu s4.2 s4.1 ((ix s4.2 s4.1).sent) _ k15) (.tup []) [(1, .row (.st .S_pmem_cell) 125 (t14 : List S_pmem_cell))] 4 (by kernel_rfl) (by kernel_rfl) ?_
     exact em h (by kernel_rfl)
    exact em h (by kernel_rfl)
   exact lpi h (by kernel_rfl)
  exact lpx h (fun hy => em (sj hy) (by kernel_rfl))
 refine bk h fun t16 k17 h => ?_
 refine cl3 cok.g (pmem_Device_step.sc fu (⟨e5, a0.plan, a0.off, a0.armed, a0.left, a0.steps⟩ : S_pmem_Device) _ k17) (.tup []) [(0, .box 105 (.agg [.sl 1 4 [], .agg [.sl 2 1 [], vi .i64 t16.plan.at_], vb t16.off, vb t16.armed, vi .i64 t16.left, vi .i64 t16.steps])), (1, .row (.st .S_pmem_cell) 125 (t16.cells : List S_pmem_cell)), (2, .row (.int .i64) 3 (t16.plan.list : List Int))] 6 (by kernel_rfl) (by kernel_rfl) ?_
 exact fi h (by kernel_rfl)
def press_Sure.f (fu : Nat) (a0 : S_pmem_Device) : Option (Int × S_pmem_Device) := ((pmem_Device_Fence.f fu a0).bind fun t1 => some (t1.1, t1.2))
theorem press_Sure.sc (fu : Nat) (a0 : S_pmem_Device) (r : Int × S_pmem_Device) (h : press_Sure.f fu a0 = some r) : SC Tryd.prog CT 65 [.ptr 0 0] [.box 105 (.agg [.sl 1 4 [], .agg [.sl 2 1 [], vi .i64 a0.plan.at_], vb a0.off, vb a0.armed, vi .i64 a0.left, vi .i64 a0.steps]), .row (.st .S_pmem_cell) 125 (a0.cells : List S_pmem_cell), .row (.int .i64) 3 (a0.plan.list : List Int)] (vi .i64 r.1) [.box 105 (.agg [.sl 1 4 [], .agg [.sl 2 1 [], vi .i64 r.2.plan.at_], vb r.2.off, vb r.2.armed, vi .i64 r.2.left, vi .i64 r.2.steps]), .row (.st .S_pmem_cell) 125 (r.2.cells : List S_pmem_cell), .row (.int .i64) 3 (r.2.plan.list : List Int)] := by
 unfold press_Sure.f at h
 refine sc_of (r := r) (N := 7) (rs := [.tmp 2]) (V := fun (r : Int × S_pmem_Device) => vi .i64 r.1) (R' := fun (r : Int × S_pmem_Device) => [.box 105 (.agg [.sl 1 4 [], .agg [.sl 2 1 [], vi .i64 r.2.plan.at_], vb r.2.off, vb r.2.armed, vi .i64 r.2.left, vi .i64 r.2.steps]), .row (.st .S_pmem_cell) 125 (r.2.cells : List S_pmem_cell), .row (.int .i64) 3 (r.2.plan.list : List Int)]) cok Tryd.func65 rfl rfl rfl (by kernel_rfl) (by kernel_rfl) rfl rfl fun X => ?_
 refine t_cond cok ?_
 refine bk h fun t1 k2 h => ?_
 refine cl3 cok.g (pmem_Device_Fence.sc fu a0 _ k2) (vi .i64 t1.1) [(0, .box 105 (.agg [.sl 1 4 [], .agg [.sl 2 1 [], vi .i64 t1.2.plan.at_], vb t1.2.off, vb t1.2.armed, vi .i64 t1.2.left, vi .i64 t1.2.steps])), (1, .row (.st .S_pmem_cell) 125 (t1.2.cells : List S_pmem_cell)), (2, .row (.int .i64) 3 (t1.2.plan.list : List Int))] 6 (by kernel_rfl) (by kernel_rfl) ?_
 exact fi h (by kernel_rfl)
def shadow_Store_Sure.f (fu : Nat) (a0 : S_shadow_Store) : Option (Int × S_shadow_Store) := ((press_Sure.f fu a0.device).bind fun t1 => some (t1.1, (⟨t1.2, a0.blocks⟩ : S_shadow_Store)))
theorem shadow_Store_Sure.sc (fu : Nat) (a0 : S_shadow_Store) (r : Int × S_shadow_Store) (h : shadow_Store_Sure.f fu a0 = some r) : SC Tryd.prog CT 29 [.ptr 0 0] [.box 114 (.agg [.ptr 1 0, .ptr 4 0]), .box 105 (.agg [.sl 2 4 [], .agg [.sl 3 1 [], vi .i64 a0.device.plan.at_], vb a0.device.off, vb a0.device.armed, vi .i64 a0.device.left, vi .i64 a0.device.steps]), .row (.st .S_pmem_cell) 125 (a0.device.cells : List S_pmem_cell), .row (.int .i64) 3 (a0.device.plan.list : List Int), .box 108 (.agg [vi .i64 a0.blocks.reserve, .agg [.ptr 5 0, .ptr 7 0, .ptr 9 0, .ptr 11 0]]), .box 112 (.agg [vi .i64 a0.blocks.sets.1.size, .sl 6 1 []]), .row (.int .u64) 119 (a0.blocks.sets.1.words : List Int), .box 112 (.agg [vi .i64 a0.blocks.sets.2.1.size, .sl 8 1 []]), .row (.int .u64) 119 (a0.blocks.sets.2.1.words : List Int), .box 112 (.agg [vi .i64 a0.blocks.sets.2.2.1.size, .sl 10 1 []]), .row (.int .u64) 119 (a0.blocks.sets.2.2.1.words : List Int), .box 112 (.agg [vi .i64 a0.blocks.sets.2.2.2.size, .sl 12 1 []]), .row (.int .u64) 119 (a0.blocks.sets.2.2.2.words : List Int)] (vi .i64 r.1) [.box 114 (.agg [.ptr 1 0, .ptr 4 0]), .box 105 (.agg [.sl 2 4 [], .agg [.sl 3 1 [], vi .i64 r.2.device.plan.at_], vb r.2.device.off, vb r.2.device.armed, vi .i64 r.2.device.left, vi .i64 r.2.device.steps]), .row (.st .S_pmem_cell) 125 (r.2.device.cells : List S_pmem_cell), .row (.int .i64) 3 (r.2.device.plan.list : List Int), .box 108 (.agg [vi .i64 r.2.blocks.reserve, .agg [.ptr 5 0, .ptr 7 0, .ptr 9 0, .ptr 11 0]]), .box 112 (.agg [vi .i64 r.2.blocks.sets.1.size, .sl 6 1 []]), .row (.int .u64) 119 (r.2.blocks.sets.1.words : List Int), .box 112 (.agg [vi .i64 r.2.blocks.sets.2.1.size, .sl 8 1 []]), .row (.int .u64) 119 (r.2.blocks.sets.2.1.words : List Int), .box 112 (.agg [vi .i64 r.2.blocks.sets.2.2.1.size, .sl 10 1 []]), .row (.int .u64) 119 (r.2.blocks.sets.2.2.1.words : List Int), .box 112 (.agg [vi .i64 r.2.blocks.sets.2.2.2.size, .sl 12 1 []]), .row (.int .u64) 119 (r.2.blocks.sets.2.2.2.words : List Int)] := by
 unfold shadow_Store_Sure.f at h
 refine sc_of (r := r) (N := 8) (rs := [.tmp 2]) (V := fun (r : Int × S_shadow_Store) => vi .i64 r.1) (R' := fun (r : Int × S_shadow_Store) => [.box 114 (.agg [.ptr 1 0, .ptr 4 0]), .box 105 (.agg [.sl 2 4 [], .agg [.sl 3 1 [], vi .i64 r.2.device.plan.at_], vb r.2.device.off, vb r.2.device.armed, vi .i64 r.2.device.left, vi .i64 r.2.device.steps]), .row (.st .S_pmem_cell) 125 (r.2.device.cells : List S_pmem_cell), .row (.int .i64) 3 (r.2.device.plan.list : List Int), .box 108 (.agg [vi .i64 r.2.blocks.reserve, .agg [.ptr 5 0, .ptr 7 0, .ptr 9 0, .ptr 11 0]]), .box 112 (.agg [vi .i64 r.2.blocks.sets.1.size, .sl 6 1 []]), .row (.int .u64) 119 (r.2.blocks.sets.1.words : List Int), .box 112 (.agg [vi .i64 r.2.blocks.sets.2.1.size, .sl 8 1 []]), .row (.int .u64) 119 (r.2.blocks.sets.2.1.words : List Int), .box 112 (.agg [vi .i64 r.2.blocks.sets.2.2.1.size, .sl 10 1 []]), .row (.int .u64) 119 (r.2.blocks.sets.2.2.1.words : List Int), .box 112 (.agg [vi .i64 r.2.blocks.sets.2.2.2.size, .sl 12 1 []]), .row (.int .u64) 119 (r.2.blocks.sets.2.2.2.words : List Int)]) cok Tryd.func29 rfl rfl rfl (by kernel_rfl) (by kernel_rfl) rfl rfl fun X => ?_
 refine bk h fun t1 k2 h => ?_
 refine cl3 cok.g (press_Sure.sc fu a0.device _ k2) (vi .i64 t1.1) [(1, .box 105 (.agg [.sl 2 4 [], .agg [.sl 3 1 [], vi .i64 t1.2.plan.at_], vb t1.2.off, vb t1.2.armed, vi .i64 t1.2.left, vi .i64 t1.2.steps])), (2, .row (.st .S_pmem_cell) 125 (t1.2.cells : List S_pmem_cell)), (3, .row (.int .i64) 3 (t1.2.plan.list : List Int))] 16 (by kernel_rfl) (by kernel_rfl) ?_
 exact fi h (by kernel_rfl)
def rickyardlaw19_do_a1_1.f (fu : Nat) (a0 : S_shadow_Store) (a2 : S_rickyardlaw19_Act) : Option S_shadow_Store := ((rickyardref01_Rest.f fu a2.Kind 10).bind fun t1 => (((if (decide (t1 = 0)) = true then ((shadow_Store_Make.f fu a0 a2.B).bind fun t7 => some (t7.2.2)) else (((if (decide (t1 = 1)) = true then ((shadow_Store_Turn.f fu a0 a2.At a2.B).bind fun t13 => some (t13.2.2)) else (((if (decide (t1 = 2)) = true then ((shadow_Store_Drop.f fu a0 a2.At).bind fun t19 => some (t19.2)) else (((if (decide (t1 = 4)) = true then ((shadow_Store_Sure.f fu a0).bind fun t25 => some (t25.2)) else (((if (decide (t1 = 5)) = true then ((alloc_Alloc_Mark.f fu a0.blocks).bind fun t31 => some ((⟨a0.device, t31⟩ : S_shadow_Store))) else (((if (decide (t1 = 6)) = true then ((alloc_Alloc_Back.f fu a0.blocks).bind fun t37 => some ((⟨a0.device, t37⟩ : S_shadow_Store))) else (((if (decide (t1 = 8)) = true then ((alloc_Alloc_Abort.f fu a0.blocks).bind fun t43 => some ((⟨a0.device, t43⟩ : S_shadow_Store))) else some (a0)) : Option S_shadow_Store).bind fun x39 => some (x39))) : Option S_shadow_Store).bind fun x33 => some (x33))) : Option S_shadow_Store).bind fun x27 => some (x27))) : Option S_shadow_Store).bind fun x21 => some (x21))) : Option S_shadow_Store).bind fun x15 => some (x15))) : Option S_shadow_Store).bind fun x9 => some (x9))) : Option S_shadow_Store).bind fun x3 => some (x3)))
theorem rickyardlaw19_do_a1_1.sc (fu : Nat) (a0 : S_shadow_Store) (a2 : S_rickyardlaw19_Act) (r : S_shadow_Store) (h : rickyardlaw19_do_a1_1.f fu a0 a2 = some r) : SC Tryd.prog CT 23 [.ptr 0 0, .ptr 4 0, .v (.st .S_rickyardlaw19_Act) (a2 : S_rickyardlaw19_Act)] [.box 114 (.agg [.ptr 1 0, .ptr 4 0]), .box 105 (.agg [.sl 2 4 [], .agg [.sl 3 1 [], vi .i64 a0.device.plan.at_], vb a0.device.off, vb a0.device.armed, vi .i64 a0.device.left, vi .i64 a0.device.steps]), .row (.st .S_pmem_cell) 125 (a0.device.cells : List S_pmem_cell), .row (.int .i64) 3 (a0.device.plan.list : List Int), .box 108 (.agg [vi .i64 a0.blocks.reserve, .agg [.ptr 5 0, .ptr 7 0, .ptr 9 0, .ptr 11 0]]), .box 112 (.agg [vi .i64 a0.blocks.sets.1.size, .sl 6 1 []]), .row (.int .u64) 119 (a0.blocks.sets.1.words : List Int), .box 112 (.agg [vi .i64 a0.blocks.sets.2.1.size, .sl 8 1 []]), .row (.int .u64) 119 (a0.blocks.sets.2.1.words : List Int), .box 112 (.agg [vi .i64 a0.blocks.sets.2.2.1.size, .sl 10 1 []]), .row (.int .u64) 119 (a0.blocks.sets.2.2.1.words : List Int), .box 112 (.agg [vi .i64 a0.blocks.sets.2.2.2.size, .sl 12 1 []]), .row (.int .u64) 119 (a0.blocks.sets.2.2.2.words : List Int)] (.tup []) [.box 114 (.agg [.ptr 1 0, .ptr 4 0]), .box 105 (.agg [.sl 2 4 [], .agg [.sl 3 1 [], vi .i64 r.device.plan.at_], vb r.device.off, vb r.device.armed, vi .i64 r.device.left, vi .i64 r.device.steps]), .row (.st .S_pmem_cell) 125 (r.device.cells : List S_pmem_cell), .row (.int .i64) 3 (r.device.plan.list : List Int), .box 108 (.agg [vi .i64 r.blocks.reserve, .agg [.ptr 5 0, .ptr 7 0, .ptr 13 0, .ptr 15 0]]), .box 112 (.agg [vi .i64 r.blocks.sets.1.size, .sl 6 1 []]), .row (.int .u64) 119 (r.blocks.sets.1.words : List Int), .box 112 (.agg [vi .i64 r.blocks.sets.2.1.size, .sl 8 1 []]), .row (.int .u64) 119 (r.blocks.sets.2.1.words : List Int), .gone, .gone, .gone, .gone, .box 112 (.agg [vi .i64 r.blocks.sets.2.2.1.size, .sl 14 1 []]), .row (.int .u64) 119 (r.blocks.sets.2.2.1.words : List Int), .box 112 (.agg [vi .i64 r.blocks.sets.2.2.2.size, .sl 16 1 []]), .row (.int .u64) 119 (r.blocks.sets.2.2.2.words : List Int)] := by
 unfold rickyardlaw19_do_a1_1.f at h
 refine sc_of (r := r) (N := 45) (rs := []) (V := fun (r : S_shadow_Store) => .tup []) (R' := fun (r : S_shadow_Store) => [.box 114 (.agg [.ptr 1 0, .ptr 4 0]), .box 105 (.agg [.sl 2 4 [], .agg [.sl 3 1 [], vi .i64 r.device.plan.at_], vb r.device.off, vb r.device.armed, vi .i64 r.device.left, vi .i64 r.device.steps]), .row (.st .S_pmem_cell) 125 (r.device.cells : List S_pmem_cell), .row (.int .i64) 3 (r.device.plan.list : List Int), .box 108 (.agg [vi .i64 r.blocks.reserve, .agg [.ptr 5 0, .ptr 7 0, .ptr 13 0, .ptr 15 0]]), .box 112 (.agg [vi .i64 r.blocks.sets.1.size, .sl 6 1 []]), .row (.int .u64) 119 (r.blocks.sets.1.words : List Int), .box 112 (.agg [vi .i64 r.blocks.sets.2.1.size, .sl 8 1 []]), .row (.int .u64) 119 (r.blocks.sets.2.1.words : List Int), .gone, .gone, .gone, .gone, .box 112 (.agg [vi .i64 r.blocks.sets.2.2.1.size, .sl 14 1 []]), .row (.int .u64) 119 (r.blocks.sets.2.2.1.words : List Int), .box 112 (.agg [vi .i64 r.blocks.sets.2.2.2.size, .sl 16 1 []]), .row (.int .u64) 119 (r.blocks.sets.2.2.2.words : List Int)]) cok Tryd.func23 rfl rfl rfl (by kernel_rfl) (by kernel_rfl) rfl rfl fun X => ?_
 refine bk h fun t1 k2 h => ?_
 refine cl3 cok.g (rickyardref01_Rest.sc fu a2.Kind 10 _ k2) (vi .i64 t1) [] 14 (by kernel_rfl) (by kernel_rfl) ?_
 refine bk h fun x3 j4 h => ?_
 refine t_cut cok (fun (x3 : S_shadow_Store) => ⟨[], [.box 114 (.agg [.ptr 1 0, .ptr 4 0]), .box 105 (.agg [.sl 2 4 [], .agg [.sl 3 1 [], vi .i64 x3.device.plan.at_], vb x3.device.off, vb x3.device.armed, vi .i64 x3.device.left, vi .i64 x3.device.steps]), .row (.st .S_pmem_cell) 125 (x3.device.cells : List S_pmem_cell), .row (.int .i64) 3 (x3.device.plan.list : List Int), .box 108 (.agg [vi .i64 x3.blocks.reserve, .agg [.ptr 5 0, .ptr 7 0, .ptr 13 0, .ptr 15 0]]), .box 112 (.agg [vi .i64 x3.blocks.sets.1.size, .sl 6 1 []]), .row (.int .u64) 119 (x3.blocks.sets.1.words : List Int), .box 112 (.agg [vi .i64 x3.blocks.sets.2.1.size, .sl 8 1 []]), .row (.int .u64) 119 (x3.blocks.sets.2.1.words : List Int), .gone, .gone, .gone, .gone, .box 112 (.agg [vi .i64 x3.blocks.sets.2.2.1.size, .sl 14 1 []]), .row (.int .u64) 119 (x3.blocks.sets.2.2.1.words : List Int), .box 112 (.agg [vi .i64 x3.blocks.sets.2.2.2.size, .sl 16 1 []]), .row (.int .u64) 119 (x3.blocks.sets.2.2.2.words : List Int)]⟩) x3 ?_ ?_
 ·skip
  have h5 := h
  have h := j4
  refine t_cond cok ?_
  refine bi h (fun c6 h => ?_) (fun c6 h => ?_)
  ·skip
   refine bk h fun t7 k8 h => ?_
   refine cl3 cok.g (shadow_Store_Make.sc fu a0 a2.B _ k8) (.tup [vi .i64 t7.1, vi .i64 t7.2.1]) [(0, .box 114 (.agg [.ptr 1 0, .ptr 4 0])), (1, .box 105 (.agg [.sl 2 4 [], .agg [.sl 3 1 [], vi .i64 t7.2.2.device.plan.at_], vb t7.2.2.device.off, vb t7.2.2.device.armed, vi .i64 t7.2.2.device.left, vi .i64 t7.2.2.device.steps])), (2, .row (.st .S_pmem_cell) 125 (t7.2.2.device.cells : List S_pmem_cell)), (3, .row (.int .i64) 3 (t7.2.2.device.plan.list : List Int)), (4, .box 108 (.agg [vi .i64 t7.2.2.blocks.reserve, .agg [.ptr 5 0, .ptr 7 0, .ptr 9 0, .ptr 11 0]])), (5, .box 112 (.agg [vi .i64 t7.2.2.blocks.sets.1.size, .sl 6 1 []])), (6, .row (.int .u64) 119 (t7.2.2.blocks.sets.1.words : List Int)), (7, .box 112 (.agg [vi .i64 t7.2.2.blocks.sets.2.1.size, .sl 8 1 []])), (8, .row (.int .u64) 119 (t7.2.2.blocks.sets.2.1.words : List Int)), (9, .box 112 (.agg [vi .i64 t7.2.2.blocks.sets.2.2.1.size, .sl 10 1 []])), (10, .row (.int .u64) 119 (t7.2.2.blocks.sets.2.2.1.words : List Int)), (11, .box 112 (.agg [vi .i64 t7.2.2.blocks.sets.2.2.2.size, .sl 12 1 []])), (12, .row (.int .u64) 119 (t7.2.2.blocks.sets.2.2.2.words : List Int))] 27 (by kernel_rfl) (by kernel_rfl) ?_
   exact em h (by kernel_rfl)
  refine bk h fun x9 j10 h => ?_
  refine t_cut cok (fun (x9 : S_shadow_Store) => ⟨[], [.box 114 (.agg [.ptr 1 0, .ptr 4 0]), .box 105 (.agg [.sl 2 4 [], .agg [.sl 3 1 [], vi .i64 x9.device.plan.at_], vb x9.device.off, vb x9.device.armed, vi .i64 x9.device.left, vi .i64 x9.device.steps]), .row (.st .S_pmem_cell) 125 (x9.device.cells : List S_pmem_cell), .row (.int .i64) 3 (x9.device.plan.list : List Int), .box 108 (.agg [vi .i64 x9.blocks.reserve, .agg [.ptr 5 0, .ptr 7 0, .ptr 13 0, .ptr 15 0]]), .box 112 (.agg [vi .i64 x9.blocks.sets.1.size, .sl 6 1 []]), .row (.int .u64) 119 (x9.blocks.sets.1.words : List Int), .box 112 (.agg [vi .i64 x9.blocks.sets.2.1.size, .sl 8 1 []]), .row (.int .u64) 119 (x9.blocks.sets.2.1.words : List Int), .gone, .gone, .gone, .gone, .box 112 (.agg [vi .i64 x9.blocks.sets.2.2.1.size, .sl 14 1 []]), .row (.int .u64) 119 (x9.blocks.sets.2.2.1.words : List Int), .box 112 (.agg [vi .i64 x9.blocks.sets.2.2.2.size, .sl 16 1 []]), .row (.int .u64) 119 (x9.blocks.sets.2.2.2.words : List Int)]⟩) x9 ?_ ?_
  ·skip
   have h11 := h
   have h := j10
   refine t_cond cok ?_
   refine bi h (fun c12 h => ?_) (fun c12 h => ?_)
   ·skip
    refine bk h fun t13 k14 h => ?_
    refine cl3 cok.g (shadow_Store_Turn.sc fu a0 a2.At a2.B _ k14) (.tup [vi .i64 t13.1, vi .i64 t13.2.1]) [(0, .box 114 (.agg [.ptr 1 0, .ptr 4 0])), (1, .box 105 (.agg [.sl 2 4 [], .agg [.sl 3 1 [], vi .i64 t13.2.2.device.plan.at_], vb t13.2.2.device.off, vb t13.2.2.device.armed, vi .i64 t13.2.2.device.left, vi .i64 t13.2.2.device.steps])), (2, .row (.st .S_pmem_cell) 125 (t13.2.2.device.cells : List S_pmem_cell)), (3, .row (.int .i64) 3 (t13.2.2.device.plan.list : List Int)), (4, .box 108 (.agg [vi .i64 t13.2.2.blocks.reserve, .agg [.ptr 5 0, .ptr 7 0, .ptr 9 0, .ptr 11 0]])), (5, .box 112 (.agg [vi .i64 t13.2.2.blocks.sets.1.size, .sl 6 1 []])), (6, .row (.int .u64) 119 (t13.2.2.blocks.sets.1.words : List Int)), (7, .box 112 (.agg [vi .i64 t13.2.2.blocks.sets.2.1.size, .sl 8 1 []])), (8, .row (.int .u64) 119 (t13.2.2.blocks.sets.2.1.words : List Int)), (9, .box 112 (.agg [vi .i64 t13.2.2.blocks.sets.2.2.1.size, .sl 10 1 []])), (10, .row (.int .u64) 119 (t13.2.2.blocks.sets.2.2.1.words : List Int)), (11, .box 112 (.agg [vi .i64 t13.2.2.blocks.sets.2.2.2.size, .sl 12 1 []])), (12, .row (.int .u64) 119 (t13.2.2.blocks.sets.2.2.2.words : List Int))] 27 (by kernel_rfl) (by kernel_rfl) ?_
    exact em h (by kernel_rfl)
   refine bk h fun x15 j16 h => ?_
   refine t_cut cok (fun (x15 : S_shadow_Store) => ⟨[], [.box 114 (.agg [.ptr 1 0, .ptr 4 0]), .box 105 (.agg [.sl 2 4 [], .agg [.sl 3 1 [], vi .i64 x15.device.plan.at_], vb x15.device.off, vb x15.device.armed, vi .i64 x15.device.left, vi .i64 x15.device.steps]), .row (.st .S_pmem_cell) 125 (x15.device.cells : List S_pmem_cell), .row (.int .i64) 3 (x15.device.plan.list : List Int), .box 108 (.agg [vi .i64 x15.blocks.reserve, .agg [.ptr 5 0, .ptr 7 0, .ptr 13 0, .ptr 15 0]]), .box 112 (.agg [vi .i64 x15.blocks.sets.1.size, .sl 6 1 []]), .row (.int .u64) 119 (x15.blocks.sets.1.words : List Int), .box 112 (.agg [vi .i64 x15.blocks.sets.2.1.size, .sl 8 1 []]), .row (.int .u64) 119 (x15.blocks.sets.2.1.words : List Int), .gone, .gone, .gone, .gone, .box 112 (.agg [vi .i64 x15.blocks.sets.2.2.1.size, .sl 14 1 []]), .row (.int .u64) 119 (x15.blocks.sets.2.2.1.words : List Int), .box 112 (.agg [vi .i64 x15.blocks.sets.2.2.2.size, .sl 16 1 []]), .row (.int .u64) 119 (x15.blocks.sets.2.2.2.words : List Int)]⟩) x15 ?_ ?_
   ·skip
    have h17 := h
    have h := j16
    refine t_cond cok ?_
    refine bi h (fun c18 h => ?_) (fun c18 h => ?_)
    ·skip
     refine bk h fun t19 k20 h => ?_
     refine cl3 cok.g (shadow_Store_Drop.sc fu a0 a2.At _ k20) (vi .i64 t19.1) [(0, .box 114 (.agg [.ptr 1 0, .ptr 4 0])), (1, .box 105 (.agg [.sl 2 4 [], .agg [.sl 3 1 [], vi .i64 t19.2.device.plan.at_], vb t19.2.device.off, vb t19.2.device.armed, vi .i64 t19.2.device.left, vi .i64 t19.2.device.steps])), (2, .row (.st .S_pmem_cell) 125 (t19.2.device.cells : List S_pmem_cell)), (3, .row (.int .i64) 3 (t19.2.device.plan.list : List Int)), (4, .box 108 (.agg [vi .i64 t19.2.blocks.reserve, .agg [.ptr 5 0, .ptr 7 0, .ptr 9 0, .ptr 11 0]])), (5, .box 112 (.agg [vi .i64 t19.2.blocks.sets.1.size, .sl 6 1 []])), (6, .row (.int .u64) 119 (t19.2.blocks.sets.1.words : List Int)), (7, .box 112 (.agg [vi .i64 t19.2.blocks.sets.2.1.size, .sl 8 1 []])), (8, .row (.int .u64) 119 (t19.2.blocks.sets.2.1.words : List Int)), (9, .box 112 (.agg [vi .i64 t19.2.blocks.sets.2.2.1.size, .sl 10 1 []])), (10, .row (.int .u64) 119 (t19.2.blocks.sets.2.2.1.words : List Int)), (11, .box 112 (.agg [vi .i64 t19.2.blocks.sets.2.2.2.size, .sl 12 1 []])), (12, .row (.int .u64) 119 (t19.2.blocks.sets.2.2.2.words : List Int))] 27 (by kernel_rfl) (by kernel_rfl) ?_
     exact em h (by kernel_rfl)
    refine bk h fun x21 j22 h => ?_
    refine t_cut cok (fun (x21 : S_shadow_Store) => ⟨[], [.box 114 (.agg [.ptr 1 0, .ptr 4 0]), .box 105 (.agg [.sl 2 4 [], .agg [.sl 3 1 [], vi .i64 x21.device.plan.at_], vb x21.device.off, vb x21.device.armed, vi .i64 x21.device.left, vi .i64 x21.device.steps]), .row (.st .S_pmem_cell) 125 (x21.device.cells : List S_pmem_cell), .row (.int .i64) 3 (x21.device.plan.list : List Int), .box 108 (.agg [vi .i64 x21.blocks.reserve, .agg [.ptr 5 0, .ptr 7 0, .ptr 13 0, .ptr 15 0]]), .box 112 (.agg [vi .i64 x21.blocks.sets.1.size, .sl 6 1 []]), .row (.int .u64) 119 (x21.blocks.sets.1.words : List Int), .box 112 (.agg [vi .i64 x21.blocks.sets.2.1.size, .sl 8 1 []]), .row (.int .u64) 119 (x21.blocks.sets.2.1.words : List Int), .gone, .gone, .gone, .gone, .box 112 (.agg [vi .i64 x21.blocks.sets.2.2.1.size, .sl 14 1 []]), .row (.int .u64) 119 (x21.blocks.sets.2.2.1.words : List Int), .box 112 (.agg [vi .i64 x21.blocks.sets.2.2.2.size, .sl 16 1 []]), .row (.int .u64) 119 (x21.blocks.sets.2.2.2.words : List Int)]⟩) x21 ?_ ?_
    ·skip
     have h23 := h
     have h := j22
     refine t_cond cok ?_
     refine bi h (fun c24 h => ?_) (fun c24 h => ?_)
     ·skip
      refine bk h fun t25 k26 h => ?_
      refine cl3 cok.g (shadow_Store_Sure.sc fu a0 _ k26) (vi .i64 t25.1) [(0, .box 114 (.agg [.ptr 1 0, .ptr 4 0])), (1, .box 105 (.agg [.sl 2 4 [], .agg [.sl 3 1 [], vi .i64 t25.2.device.plan.at_], vb t25.2.device.off, vb t25.2.device.armed, vi .i64 t25.2.device.left, vi .i64 t25.2.device.steps])), (2, .row (.st .S_pmem_cell) 125 (t25.2.device.cells : List S_pmem_cell)), (3, .row (.int .i64) 3 (t25.2.device.plan.list : List Int)), (4, .box 108 (.agg [vi .i64 t25.2.blocks.reserve, .agg [.ptr 5 0, .ptr 7 0, .ptr 9 0, .ptr 11 0]])), (5, .box 112 (.agg [vi .i64 t25.2.blocks.sets.1.size, .sl 6 1 []])), (6, .row (.int .u64) 119 (t25.2.blocks.sets.1.words : List Int)), (7, .box 112 (.agg [vi .i64 t25.2.blocks.sets.2.1.size, .sl 8 1 []])), (8, .row (.int .u64) 119 (t25.2.blocks.sets.2.1.words : List Int)), (9, .box 112 (.agg [vi .i64 t25.2.blocks.sets.2.2.1.size, .sl 10 1 []])), (10, .row (.int .u64) 119 (t25.2.blocks.sets.2.2.1.words : List Int)), (11, .box 112 (.agg [vi .i64 t25.2.blocks.sets.2.2.2.size, .sl 12 1 []])), (12, .row (.int .u64) 119 (t25.2.blocks.sets.2.2.2.words : List Int))] 27 (by kernel_rfl) (by kernel_rfl) ?_
      exact em h (by kernel_rfl)
     refine bk h fun x27 j28 h => ?_
     refine t_cut cok (fun (x27 : S_shadow_Store) => ⟨[], [.box 114 (.agg [.ptr 1 0, .ptr 4 0]), .box 105 (.agg [.sl 2 4 [], .agg [.sl 3 1 [], vi .i64 x27.device.plan.at_], vb x27.device.off, vb x27.device.armed, vi .i64 x27.device.left, vi .i64 x27.device.steps]), .row (.st .S_pmem_cell) 125 (x27.device.cells : List S_pmem_cell), .row (.int .i64) 3 (x27.device.plan.list : List Int), .box 108 (.agg [vi .i64 x27.blocks.reserve, .agg [.ptr 5 0, .ptr 7 0, .ptr 13 0, .ptr 15 0]]), .box 112 (.agg [vi .i64 x27.blocks.sets.1.size, .sl 6 1 []]), .row (.int .u64) 119 (x27.blocks.sets.1.words : List Int), .box 112 (.agg [vi .i64 x27.blocks.sets.2.1.size, .sl 8 1 []]), .row (.int .u64) 119 (x27.blocks.sets.2.1.words : List Int), .gone, .gone, .gone, .gone, .box 112 (.agg [vi .i64 x27.blocks.sets.2.2.1.size, .sl 14 1 []]), .row (.int .u64) 119 (x27.blocks.sets.2.2.1.words : List Int), .box 112 (.agg [vi .i64 x27.blocks.sets.2.2.2.size, .sl 16 1 []]), .row (.int .u64) 119 (x27.blocks.sets.2.2.2.words : List Int)]⟩) x27 ?_ ?_
     ·skip
      have h29 := h
      have h := j28
      refine t_cond cok ?_
      refine bi h (fun c30 h => ?_) (fun c30 h => ?_)
      ·skip
       refine bk h fun t31 k32 h => ?_
       refine cl3 cok.g (alloc_Alloc_Mark.sc fu a0.blocks _ k32) (.tup []) [(4, .box 108 (.agg [vi .i64 t31.reserve, .agg [.ptr 5 0, .ptr 7 0, .ptr 23 0, .ptr 11 0]])), (5, .box 112 (.agg [vi .i64 t31.sets.1.size, .sl 6 1 []])), (6, .row (.int .u64) 119 (t31.sets.1.words : List Int)), (7, .box 112 (.agg [vi .i64 t31.sets.2.1.size, .sl 8 1 []])), (8, .row (.int .u64) 119 (t31.sets.2.1.words : List Int)), (9, .gone), (10, .gone), (11, .box 112 (.agg [vi .i64 t31.sets.2.2.2.size, .sl 12 1 []])), (12, .row (.int .u64) 119 (t31.sets.2.2.2.words : List Int)), (23, .box 112 (.agg [vi .i64 t31.sets.2.2.1.size, .sl 24 1 []])), (24, .row (.int .u64) 119 (t31.sets.2.2.1.words : List Int))] 25 (by kernel_rfl) (by kernel_rfl) ?_
       exact em h (by kernel_rfl)
      refine bk h fun x33 j34 h => ?_
      refine t_cut cok (fun (x33 : S_shadow_Store) => ⟨[], [.box 114 (.agg [.ptr 1 0, .ptr 4 0]), .box 105 (.agg [.sl 2 4 [], .agg [.sl 3 1 [], vi .i64 x33.device.plan.at_], vb x33.device.off, vb x33.device.armed, vi .i64 x33.device.left, vi .i64 x33.device.steps]), .row (.st .S_pmem_cell) 125 (x33.device.cells : List S_pmem_cell), .row (.int .i64) 3 (x33.device.plan.list : List Int), .box 108 (.agg [vi .i64 x33.blocks.reserve, .agg [.ptr 5 0, .ptr 7 0, .ptr 13 0, .ptr 15 0]]), .box 112 (.agg [vi .i64 x33.blocks.sets.1.size, .sl 6 1 []]), .row (.int .u64) 119 (x33.blocks.sets.1.words : List Int), .box 112 (.agg [vi .i64 x33.blocks.sets.2.1.size, .sl 8 1 []]), .row (.int .u64) 119 (x33.blocks.sets.2.1.words : List Int), .gone, .gone, .gone, .gone, .box 112 (.agg [vi .i64 x33.blocks.sets.2.2.1.size, .sl 14 1 []]), .row (.int .u64) 119 (x33.blocks.sets.2.2.1.words : List Int), .box 112 (.agg [vi .i64 x33.blocks.sets.2.2.2.size, .sl 16 1 []]), .row (.int .u64) 119 (x33.blocks.sets.2.2.2.words : List Int)]⟩) x33 ?_ ?_
      ·skip
       have h35 := h
       have h := j34
       refine t_cond cok ?_
       refine bi h (fun c36 h => ?_) (fun c36 h => ?_)
       ·skip
        refine bk h fun t37 k38 h => ?_
        refine cl3 cok.g (alloc_Alloc_Back.sc fu a0.blocks _ k38) (.tup []) [(4, .box 108 (.agg [vi .i64 t37.reserve, .agg [.ptr 5 0, .ptr 7 0, .ptr 9 0, .ptr 23 0]])), (5, .box 112 (.agg [vi .i64 t37.sets.1.size, .sl 6 1 []])), (6, .row (.int .u64) 119 (t37.sets.1.words : List Int)), (7, .box 112 (.agg [vi .i64 t37.sets.2.1.size, .sl 8 1 []])), (8, .row (.int .u64) 119 (t37.sets.2.1.words : List Int)), (9, .box 112 (.agg [vi .i64 t37.sets.2.2.1.size, .sl 10 1 []])), (10, .row (.int .u64) 119 (t37.sets.2.2.1.words : List Int)), (11, .gone), (12, .gone), (23, .box 112 (.agg [vi .i64 t37.sets.2.2.2.size, .sl 24 1 []])), (24, .row (.int .u64) 119 (t37.sets.2.2.2.words : List Int))] 25 (by kernel_rfl) (by kernel_rfl) ?_
        exact em h (by kernel_rfl)
       refine bk h fun x39 j40 h => ?_
       refine t_cut cok (fun (x39 : S_shadow_Store) => ⟨[], [.box 114 (.agg [.ptr 1 0, .ptr 4 0]), .box 105 (.agg [.sl 2 4 [], .agg [.sl 3 1 [], vi .i64 x39.device.plan.at_], vb x39.device.off, vb x39.device.armed, vi .i64 x39.device.left, vi .i64 x39.device.steps]), .row (.st .S_pmem_cell) 125 (x39.device.cells : List S_pmem_cell), .row (.int .i64) 3 (x39.device.plan.list : List Int), .box 108 (.agg [vi .i64 x39.blocks.reserve, .agg [.ptr 5 0, .ptr 7 0, .ptr 13 0, .ptr 15 0]]), .box 112 (.agg [vi .i64 x39.blocks.sets.1.size, .sl 6 1 []]), .row (.int .u64) 119 (x39.blocks.sets.1.words : List Int), .box 112 (.agg [vi .i64 x39.blocks.sets.2.1.size, .sl 8 1 []]), .row (.int .u64) 119 (x39.blocks.sets.2.1.words : List Int), .gone, .gone, .gone, .gone, .box 112 (.agg [vi .i64 x39.blocks.sets.2.2.1.size, .sl 14 1 []]), .row (.int .u64) 119 (x39.blocks.sets.2.2.1.words : List Int), .box 112 (.agg [vi .i64 x39.blocks.sets.2.2.2.size, .sl 16 1 []]), .row (.int .u64) 119 (x39.blocks.sets.2.2.2.words : List Int)]⟩) x39 ?_ ?_
       ·skip
        have h41 := h
        have h := j40
        refine t_cond cok ?_
        refine bi h (fun c42 h => ?_) (fun c42 h => ?_)
        ·skip
         refine bk h fun t43 k44 h => ?_
         refine cl3 cok.g (alloc_Alloc_Abort.sc fu a0.blocks _ k44) (.tup []) [(4, .box 108 (.agg [vi .i64 t43.reserve, .agg [.ptr 5 0, .ptr 7 0, .ptr 23 0, .ptr 25 0]])), (5, .box 112 (.agg [vi .i64 t43.sets.1.size, .sl 6 1 []])), (6, .row (.int .u64) 119 (t43.sets.1.words : List Int)), (7, .box 112 (.agg [vi .i64 t43.sets.2.1.size, .sl 8 1 []])), (8, .row (.int .u64) 119 (t43.sets.2.1.words : List Int)), (9, .gone), (10, .gone), (11, .gone), (12, .gone), (23, .box 112 (.agg [vi .i64 t43.sets.2.2.1.size, .sl 24 1 []])), (24, .row (.int .u64) 119 (t43.sets.2.2.1.words : List Int)), (25, .box 112 (.agg [vi .i64 t43.sets.2.2.2.size, .sl 26 1 []])), (26, .row (.int .u64) 119 (t43.sets.2.2.2.words : List Int))] 27 (by kernel_rfl) (by kernel_rfl) ?_
         exact em h (by kernel_rfl)
        exact em h (by kernel_rfl)
       exact em h (by kernel_rfl)
      exact em h (by kernel_rfl)
     exact em h (by kernel_rfl)
    exact em h (by kernel_rfl)
   exact em h (by kernel_rfl)
  exact em h (by kernel_rfl)
 exact fiN h (by kernel_rfl)
def rickyardlaw19_small.s0 (fu : Nat) (a0 : List S_rickyardlaw19_Act) : Int → Option (Sum (Sum Bool Unit) Int) := fun s2 => (if (decide (s2 < (List.length a0 : Int))) = true then if 0 ≤ s2 ∧ s2 < (List.length a0 : Int) then (if (decide ((List.length ((ix a0 s2).B) : Int) > 200)) = true then some (Sum.inl (Sum.inl (false))) else some (Sum.inr ((IntKind.i64.wrap (s2 + 1))))) else none else some (Sum.inl (Sum.inr ())))
def rickyardlaw19_small.f (fu : Nat) (a0 : List S_rickyardlaw19_Act) (a1 : Int) : Option Bool := (if (decide ((List.length a0 : Int) > a1)) = true then some (false) else ((loopM (rickyardlaw19_small.s0 fu a0) fu (0)).bind fun e3 => match e3 with | Sum.inl p => some p | Sum.inr x5 => some (true)))
theorem rickyardlaw19_small.sc (fu : Nat) (a0 : List S_rickyardlaw19_Act) (a1 : Int) (r : Bool) (h : rickyardlaw19_small.f fu a0 a1 = some r) : SC Tryd.prog CT 22 [.v (.sl (.st .S_rickyardlaw19_Act)) (a0 : List S_rickyardlaw19_Act), vi .i64 a1] [] (vb r) [] := by
 unfold rickyardlaw19_small.f at h
 refine sc_of (r := r) (N := 23) (rs := [.tmp 4]) (V := fun (r : Bool) => vb r) (R' := fun (r : Bool) => []) cok Tryd.func22 rfl rfl rfl (by kernel_rfl) (by kernel_rfl) rfl rfl fun X => ?_
 refine t_cond cok ?_
 refine bi h (fun c1 h => ?_) (fun c1 h => ?_)
 ·skip
  exact fi h (by kernel_rfl)
 refine bk h fun e3 l4 h => ?_
 refine t_cutxS cok 0 (fun (_x : Unit) => ⟨[], []⟩) e3 ?_ (fun x5 hy => ?_)
 ·skip
  have h6 := h
  refine t_loop cok (fun (s2 : Int) => ⟨[(0, .v (.sl (.st .S_rickyardlaw19_Act)) (a0 : List S_rickyardlaw19_Act)), (5, vi .i64 s2)], []⟩) l4 (by kernel_rfl) (fun s2 x7 h => ?_)
  unfold rickyardlaw19_small.s0 at h
  refine t_cond cok ?_
  refine bi h (fun c8 h => ?_) (fun c8 h => ?_)
  ·skip
   refine ag h fun h => ?_
   refine t_cond cok ?_
   refine bi h (fun c9 h => ?_) (fun c9 h => ?_)
   ·skip
    refine lpr h (fun hy => ?_)
    have h := h6
    rw [← hy] at h
    exact fi h (by kernel_rfl)
   exact lpi h (by kernel_rfl)
  exact lpx h (fun hy => ems (sj hy) (by kernel_rfl))
 subst hy
 exact fi h (by kernel_rfl)
def rickyardlaw19_ShadowSafe.s0 (fu : Nat) (a0 : List S_rickyardlaw19_Act) : (Int × S_shadow_Store) → Option (Sum S_shadow_Store (Int × S_shadow_Store)) := fun s35 => (if (decide (s35.1 < (List.length a0 : Int))) = true then if 0 ≤ s35.1 ∧ s35.1 < (List.length a0 : Int) then ((rickyardlaw19_do_a1_1.f fu s35.2 (ix a0 s35.1)).bind fun t41 => some (Sum.inr ((IntKind.i64.wrap (s35.1 + 1)), t41))) else none else some (Sum.inl (s35.2)))
def rickyardlaw19_ShadowSafe.s1 (fu : Nat) (a0 : List S_rickyardlaw19_Act) : (Int × S_shadow_Store) → Option (Sum S_shadow_Store (Int × S_shadow_Store)) := fun s51 => (if (decide (s51.1 < (List.length a0 : Int))) = true then if 0 ≤ (IntKind.i64.wrap ((IntKind.i64.wrap ((List.length a0 : Int) - 1)) - s51.1)) ∧ (IntKind.i64.wrap ((IntKind.i64.wrap ((List.length a0 : Int) - 1)) - s51.1)) < (List.length a0 : Int) then ((rickyardlaw19_do_a1_1.f fu s51.2 (ix a0 (IntKind.i64.wrap ((IntKind.i64.wrap ((List.length a0 : Int) - 1)) - s51.1)))).bind fun t57 => some (Sum.inr ((IntKind.i64.wrap (s51.1 + 1)), t57))) else none else some (Sum.inl (s51.2)))
def rickyardlaw19_ShadowSafe.s2 (fu : Nat) (a1 : List S_rickyardlaw19_Act) : (Int × S_shadow_Store) → Option (Sum S_shadow_Store (Int × S_shadow_Store)) := fun s69 => (if (decide (s69.1 < (List.length a1 : Int))) = true then if 0 ≤ s69.1 ∧ s69.1 < (List.length a1 : Int) then ((rickyardlaw19_do_a1_1.f fu s69.2 (ix a1 s69.1)).bind fun t75 => some (Sum.inr ((IntKind.i64.wrap (s69.1 + 1)), t75))) else none else some (Sum.inl (s69.2)))
def rickyardlaw19_ShadowSafe.s3 (fu : Nat) (t47 : (List Int)) (t63 : (List Int)) (t67 : (List Int)) (t79 : (List Int)) : Int → Option (Sum (Sum Bool Unit) Int) := fun s83 => (if (decide (s83 < (List.length ((([] : List Int) ++ t47) ++ t63) : Int))) = true then if 0 ≤ s83 ∧ s83 < (List.length ((([] : List Int) ++ t47) ++ t63) : Int) then if 0 ≤ s83 ∧ s83 < (List.length ((([] : List Int) ++ t47) ++ t63) : Int) then (if (decide ((ix ((([] : List Int) ++ t47) ++ t63) s83) < 0)) = true then some (Sum.inl (Sum.inl (false))) else if 0 ≤ s83 ∧ s83 < (List.length ((([] : List Int) ++ t47) ++ t63) : Int) then (if (decide ((ix ((([] : List Int) ++ t47) ++ t63) s83) > 15)) = true then some (Sum.inl (Sum.inl (false))) else if (0 : Int) ≤ (IntKind.i64.wrap (64 * (ix ((([] : List Int) ++ t47) ++ t63) s83))) ∧ (IntKind.i64.wrap (64 * (ix ((([] : List Int) ++ t47) ++ t63) s83))) ≤ (IntKind.i64.wrap ((IntKind.i64.wrap (64 * (ix ((([] : List Int) ++ t47) ++ t63) s83))) + 64)) ∧ (IntKind.i64.wrap ((IntKind.i64.wrap (64 * (ix ((([] : List Int) ++ t47) ++ t63) s83))) + 64)) ≤ (List.length t79 : Int) then if (0 : Int) ≤ (IntKind.i64.wrap (64 * (ix ((([] : List Int) ++ t47) ++ t63) s83))) ∧ (IntKind.i64.wrap (64 * (ix ((([] : List Int) ++ t47) ++ t63) s83))) ≤ (IntKind.i64.wrap ((IntKind.i64.wrap (64 * (ix ((([] : List Int) ++ t47) ++ t63) s83))) + 64)) ∧ (IntKind.i64.wrap ((IntKind.i64.wrap (64 * (ix ((([] : List Int) ++ t47) ++ t63) s83))) + 64)) ≤ (List.length t67 : Int) then (if (!decide ((List.map toB (cut t79 (IntKind.i64.wrap (64 * (ix ((([] : List Int) ++ t47) ++ t63) s83))) (IntKind.i64.wrap ((IntKind.i64.wrap (64 * (ix ((([] : List Int) ++ t47) ++ t63) s83))) + 64)))) = (List.map toB (cut t67 (IntKind.i64.wrap (64 * (ix ((([] : List Int) ++ t47) ++ t63) s83))) (IntKind.i64.wrap ((IntKind.i64.wrap (64 * (ix ((([] : List Int) ++ t47) ++ t63) s83))) + 64)))))) = true then some (Sum.inl (Sum.inl (false))) else some (Sum.inr ((IntKind.i64.wrap (s83 + 1))))) else none else none) else none) else none else none else some (Sum.inl (Sum.inr ())))
def rickyardlaw19_ShadowSafe.f (fu : Nat) (a0 : List S_rickyardlaw19_Act) (a1 : List S_rickyardlaw19_Act) (a2 : List Int) : Option Bool := ((rickyardlaw19_awake.f fu).bind fun t1 => (if (!t1) = true then ((rickyardlaw19_awake.f fu).bind fun t4 => some (t4)) else ((rickyardlaw19_small.f fu a0 20).bind fun t6 => (if (!t6) = true then ((rickyardlaw19_awake.f fu).bind fun t9 => some (t9)) else ((rickyardlaw19_small.f fu a1 30).bind fun t11 => (if (!t11) = true then ((rickyardlaw19_awake.f fu).bind fun t14 => some (t14)) else (if (decide ((List.length a2 : Int) > 40)) = true then ((rickyardlaw19_awake.f fu).bind fun t17 => some (t17)) else ((rickyardlaw19_Made.f fu 16 1).bind fun t19 => (Option.elim t19.1 ((Option.elim t19.2.1 ((Option.elim t19.2.2 (some (false)) (fun o25 => some (false)))) (fun o23 => (Option.elim t19.2.2 (some (false)) (fun o27 => some (false)))))) (fun o21 => (Option.elim t19.2.1 ((Option.elim t19.2.2 (none) (fun o31 => none))) (fun o29 => (Option.elim t19.2.2 (none) (fun o33 => ((loopM (rickyardlaw19_ShadowSafe.s0 fu a0) fu (0, (⟨o29, o33⟩ : S_shadow_Store))).bind fun e36 => ((shadow_Store_Sure.f fu e36).bind fun t43 => ((alloc_Alloc_Works.f fu t43.2.blocks).bind fun t45 => ((bits_Set_List.f fu t45).bind fun t47 => ((alloc_Alloc_Commit.f fu t43.2.blocks).bind fun t49 => ((loopM (rickyardlaw19_ShadowSafe.s1 fu a0) fu (0, (⟨t43.2.device, t49⟩ : S_shadow_Store))).bind fun e52 => ((shadow_Store_Sure.f fu e52).bind fun t59 => ((alloc_Alloc_Works.f fu t59.2.blocks).bind fun t61 => ((bits_Set_List.f fu t61).bind fun t63 => ((alloc_Alloc_Commit.f fu t59.2.blocks).bind fun t65 => ((pmem_Device_Image.f fu t59.2.device).bind fun t67 => ((loopM (rickyardlaw19_ShadowSafe.s2 fu a1) fu (0, (⟨t59.2.device, t65⟩ : S_shadow_Store))).bind fun e70 => ((pmem_Device_Crash.f fu e70.device a2).bind fun t77 => ((pmem_Device_Image.f fu t77).bind fun t79 => (if (!decide ((List.length t67 : Int) = 1024)) = true then some (false) else (if (!decide ((List.length t79 : Int) = 1024)) = true then some (false) else if List.length ([] : List Int) + List.length t47 ≤ LIM then if List.length (([] : List Int) ++ t47) + List.length t63 ≤ LIM then ((loopM (rickyardlaw19_ShadowSafe.s3 fu t47 t63 t67 t79) fu (0)).bind fun e84 => match e84 with | Sum.inl p => some p | Sum.inr x86 => some (true)) else none else none))))))))))))))))))))))))))))))
theorem rickyardlaw19_ShadowSafe.sc (fu : Nat) (a0 : List S_rickyardlaw19_Act) (a1 : List S_rickyardlaw19_Act) (a2 : List Int) (r : Bool) (h : rickyardlaw19_ShadowSafe.f fu a0 a1 a2 = some r) : SC Tryd.prog CT 6 [.v (.sl (.st .S_rickyardlaw19_Act)) (a0 : List S_rickyardlaw19_Act), .v (.sl (.st .S_rickyardlaw19_Act)) (a1 : List S_rickyardlaw19_Act), .v (.sl (.int .i64)) (a2 : List Int)] [] (vb r) [] := by
 unfold rickyardlaw19_ShadowSafe.f at h
 refine sc_of (r := r) (N := 168) (rs := [.tmp 6]) (V := fun (r : Bool) => vb r) (R' := fun (r : Bool) => []) cok Tryd.func6 rfl rfl rfl (by kernel_rfl) (by kernel_rfl) rfl rfl fun X => ?_
 refine t_reg cok ?_
 refine bk h fun t1 k2 h => ?_
 refine cl3 cok.g (rickyardlaw19_awake.sc fu _ k2) (vb t1) [] 0 (by kernel_rfl) (by kernel_rfl) ?_
 refine bi h (fun c3 h => ?_) (fun c3 h => ?_)
 ·skip
  refine t_cond cok ?_
  refine bk h fun t4 k5 h => ?_
  refine cl3 cok.g (rickyardlaw19_awake.sc fu _ k5) (vb t4) [] 0 (by kernel_rfl) (by kernel_rfl) ?_
  exact fi h (by kernel_rfl)
 refine bk h fun t6 k7 h => ?_
 refine cl3 cok.g (rickyardlaw19_small.sc fu a0 20 _ k7) (vb t6) [] 0 (by kernel_rfl) (by kernel_rfl) ?_
 refine bi h (fun c8 h => ?_) (fun c8 h => ?_)
 ·skip
  refine t_cond cok ?_
  refine bk h fun t9 k10 h => ?_
  refine cl3 cok.g (rickyardlaw19_awake.sc fu _ k10) (vb t9) [] 0 (by kernel_rfl) (by kernel_rfl) ?_
  exact fi h (by kernel_rfl)
 refine bk h fun t11 k12 h => ?_
 refine cl3 cok.g (rickyardlaw19_small.sc fu a1 30 _ k12) (vb t11) [] 0 (by kernel_rfl) (by kernel_rfl) ?_
 refine bi h (fun c13 h => ?_) (fun c13 h => ?_)
 ·skip
  refine t_cond cok ?_
  refine bk h fun t14 k15 h => ?_
  refine cl3 cok.g (rickyardlaw19_awake.sc fu _ k15) (vb t14) [] 0 (by kernel_rfl) (by kernel_rfl) ?_
  exact fi h (by kernel_rfl)
 refine t_cond cok ?_
 refine bi h (fun c16 h => ?_) (fun c16 h => ?_)
 ·skip
  refine bk h fun t17 k18 h => ?_
  refine cl3 cok.g (rickyardlaw19_awake.sc fu _ k18) (vb t17) [] 0 (by kernel_rfl) (by kernel_rfl) ?_
  exact fi h (by kernel_rfl)
 refine bk h fun t19 k20 h => ?_
 refine oe (x := t19.1) h (fun q22 h => ?_) (fun o21 q22 h => ?_)
 ·skip
  refine oe (x := t19.2.1) h (fun q24 h => ?_) (fun o23 q24 h => ?_)
  ·skip
   refine oe (x := t19.2.2) h (fun q26 h => ?_) (fun o25 q26 h => ?_)
   ·skip
    refine cl3 cok.g (rickyardlaw19_Made.scnnn fu 16 1 _ k20 q22 q24 q26) (.tup [.nilp, .nilp, .nilp]) [] 0 (by kernel_rfl) (by kernel_rfl) ?_
    refine t_reg cok ?_
    refine t_cond cok ?_
    exact fi h (by kernel_rfl)
   refine cl3 cok.g (rickyardlaw19_Made.scnns fu 16 1 _ k20 q22 q24 o25 q26) (.tup [.nilp, .nilp, .ptr 0 0]) [(0, .box 108 (.agg [vi .i64 o25.reserve, .agg [.ptr 1 0, .ptr 3 0, .ptr 5 0, .ptr 7 0]])), (1, .box 112 (.agg [vi .i64 o25.sets.1.size, .sl 2 1 []])), (2, .row (.int .u64) 119 (o25.sets.1.words : List Int)), (3, .box 112 (.agg [vi .i64 o25.sets.2.1.size, .sl 4 1 []])), (4, .row (.int .u64) 119 (o25.sets.2.1.words : List Int)), (5, .box 112 (.agg [vi .i64 o25.sets.2.2.1.size, .sl 6 1 []])), (6, .row (.int .u64) 119 (o25.sets.2.2.1.words : List Int)), (7, .box 112 (.agg [vi .i64 o25.sets.2.2.2.size, .sl 8 1 []])), (8, .row (.int .u64) 119 (o25.sets.2.2.2.words : List Int))] 9 (by kernel_rfl) (by kernel_rfl) ?_
   refine t_reg cok ?_
   refine t_cond cok ?_
   exact fi h (by kernel_rfl)
  refine oe (x := t19.2.2) h (fun q28 h => ?_) (fun o27 q28 h => ?_)
  ·skip
   refine cl3 cok.g (rickyardlaw19_Made.scnsn fu 16 1 _ k20 q22 o23 q24 q28) (.tup [.nilp, .ptr 0 0, .nilp]) [(0, .box 105 (.agg [.sl 1 4 [], .agg [.sl 2 1 [], vi .i64 o23.plan.at_], vb o23.off, vb o23.armed, vi .i64 o23.left, vi .i64 o23.steps])), (1, .row (.st .S_pmem_cell) 125 (o23.cells : List S_pmem_cell)), (2, .row (.int .i64) 3 (o23.plan.list : List Int))] 3 (by kernel_rfl) (by kernel_rfl) ?_
   refine t_reg cok ?_
   refine t_cond cok ?_
   exact fi h (by kernel_rfl)
  refine cl3 cok.g (rickyardlaw19_Made.scnss fu 16 1 _ k20 q22 o23 q24 o27 q28) (.tup [.nilp, .ptr 0 0, .ptr 3 0]) [(0, .box 105 (.agg [.sl 1 4 [], .agg [.sl 2 1 [], vi .i64 o23.plan.at_], vb o23.off, vb o23.armed, vi .i64 o23.left, vi .i64 o23.steps])), (1, .row (.st .S_pmem_cell) 125 (o23.cells : List S_pmem_cell)), (2, .row (.int .i64) 3 (o23.plan.list : List Int)), (3, .box 108 (.agg [vi .i64 o27.reserve, .agg [.ptr 4 0, .ptr 6 0, .ptr 8 0, .ptr 10 0]])), (4, .box 112 (.agg [vi .i64 o27.sets.1.size, .sl 5 1 []])), (5, .row (.int .u64) 119 (o27.sets.1.words : List Int)), (6, .box 112 (.agg [vi .i64 o27.sets.2.1.size, .sl 7 1 []])), (7, .row (.int .u64) 119 (o27.sets.2.1.words : List Int)), (8, .box 112 (.agg [vi .i64 o27.sets.2.2.1.size, .sl 9 1 []])), (9, .row (.int .u64) 119 (o27.sets.2.2.1.words : List Int)), (10, .box 112 (.agg [vi .i64 o27.sets.2.2.2.size, .sl 11 1 []])), (11, .row (.int .u64) 119 (o27.sets.2.2.2.words : List Int))] 12 (by kernel_rfl) (by kernel_rfl) ?_
  refine t_reg cok ?_
  refine t_cond cok ?_
  exact fi h (by kernel_rfl)
 refine oe (x := t19.2.1) h (fun q30 h => ?_) (fun o29 q30 h => ?_)
 ·skip
  refine oe (x := t19.2.2) h (fun q32 h => ?_) (fun o31 q32 h => ?_)
  ·skip
   cases h
  cases h
 refine oe (x := t19.2.2) h (fun q34 h => ?_) (fun o33 q34 h => ?_)
 ·skip
  cases h
 refine cl3 cok.g (rickyardlaw19_Made.scsss fu 16 1 _ k20 o21 q22 o29 q30 o33 q34) (.tup [.ptr 12 0, .ptr 0 0, .ptr 3 0]) [(0, .box 105 (.agg [.sl 1 4 [], .agg [.sl 2 1 [], vi .i64 o29.plan.at_], vb o29.off, vb o29.armed, vi .i64 o29.left, vi .i64 o29.steps])), (1, .row (.st .S_pmem_cell) 125 (o29.cells : List S_pmem_cell)), (2, .row (.int .i64) 3 (o29.plan.list : List Int)), (3, .box 108 (.agg [vi .i64 o33.reserve, .agg [.ptr 4 0, .ptr 6 0, .ptr 8 0, .ptr 10 0]])), (4, .box 112 (.agg [vi .i64 o33.sets.1.size, .sl 5 1 []])), (5, .row (.int .u64) 119 (o33.sets.1.words : List Int)), (6, .box 112 (.agg [vi .i64 o33.sets.2.1.size, .sl 7 1 []])), (7, .row (.int .u64) 119 (o33.sets.2.1.words : List Int)), (8, .box 112 (.agg [vi .i64 o33.sets.2.2.1.size, .sl 9 1 []])), (9, .row (.int .u64) 119 (o33.sets.2.2.1.words : List Int)), (10, .box 112 (.agg [vi .i64 o33.sets.2.2.2.size, .sl 11 1 []])), (11, .row (.int .u64) 119 (o33.sets.2.2.2.words : List Int)), (12, .box 114 (.agg [.ptr 0 0, .ptr 3 0]))] 13 (by kernel_rfl) (by kernel_rfl) ?_
 refine t_reg cok ?_
 refine t_cond cok ?_
 refine bk h fun e36 l37 h => ?_
 refine t_cutx cok 0 (fun (e36 : S_shadow_Store) => ⟨[(0, .v (.sl (.st .S_rickyardlaw19_Act)) (a0 : List S_rickyardlaw19_Act)), (1, .v (.sl (.st .S_rickyardlaw19_Act)) (a1 : List S_rickyardlaw19_Act)), (2, .v (.sl (.int .i64)) (a2 : List Int)), (7, .ptr 0 0), (8, .ptr 1 0), (9, .ptr 4 0)], [.box 114 (.agg [.ptr 1 0, .ptr 4 0]), .box 105 (.agg [.sl 2 4 [], .agg [.sl 3 1 [], vi .i64 e36.device.plan.at_], vb e36.device.off, vb e36.device.armed, vi .i64 e36.device.left, vi .i64 e36.device.steps]), .row (.st .S_pmem_cell) 125 (e36.device.cells : List S_pmem_cell), .row (.int .i64) 3 (e36.device.plan.list : List Int), .box 108 (.agg [vi .i64 e36.blocks.reserve, .agg [.ptr 5 0, .ptr 7 0, .ptr 9 0, .ptr 11 0]]), .box 112 (.agg [vi .i64 e36.blocks.sets.1.size, .sl 6 1 []]), .row (.int .u64) 119 (e36.blocks.sets.1.words : List Int), .box 112 (.agg [vi .i64 e36.blocks.sets.2.1.size, .sl 8 1 []]), .row (.int .u64) 119 (e36.blocks.sets.2.1.words : List Int), .box 112 (.agg [vi .i64 e36.blocks.sets.2.2.1.size, .sl 10 1 []]), .row (.int .u64) 119 (e36.blocks.sets.2.2.1.words : List Int), .box 112 (.agg [vi .i64 e36.blocks.sets.2.2.2.size, .sl 12 1 []]), .row (.int .u64) 119 (e36.blocks.sets.2.2.2.words : List Int)]⟩) e36 ?_ ?_
 ·skip
  have h38 := h
  refine t_loop cok (fun (s35 : Int × S_shadow_Store) => ⟨[(0, .v (.sl (.st .S_rickyardlaw19_Act)) (a0 : List S_rickyardlaw19_Act)), (1, .v (.sl (.st .S_rickyardlaw19_Act)) (a1 : List S_rickyardlaw19_Act)), (2, .v (.sl (.int .i64)) (a2 : List Int)), (7, .ptr 0 0), (8, .ptr 1 0), (9, .ptr 4 0), (10, vi .i64 s35.1)], [.box 114 (.agg [.ptr 1 0, .ptr 4 0]), .box 105 (.agg [.sl 2 4 [], .agg [.sl 3 1 [], vi .i64 s35.2.device.plan.at_], vb s35.2.device.off, vb s35.2.device.armed, vi .i64 s35.2.device.left, vi .i64 s35.2.device.steps]), .row (.st .S_pmem_cell) 125 (s35.2.device.cells : List S_pmem_cell), .row (.int .i64) 3 (s35.2.device.plan.list : List Int), .box 108 (.agg [vi .i64 s35.2.blocks.reserve, .agg [.ptr 5 0, .ptr 7 0, .ptr 9 0, .ptr 11 0]]), .box 112 (.agg [vi .i64 s35.2.blocks.sets.1.size, .sl 6 1 []]), .row (.int .u64) 119 (s35.2.blocks.sets.1.words : List Int), .box 112 (.agg [vi .i64 s35.2.blocks.sets.2.1.size, .sl 8 1 []]), .row (.int .u64) 119 (s35.2.blocks.sets.2.1.words : List Int), .box 112 (.agg [vi .i64 s35.2.blocks.sets.2.2.1.size, .sl 10 1 []]), .row (.int .u64) 119 (s35.2.blocks.sets.2.2.1.words : List Int), .box 112 (.agg [vi .i64 s35.2.blocks.sets.2.2.2.size, .sl 12 1 []]), .row (.int .u64) 119 (s35.2.blocks.sets.2.2.2.words : List Int)]⟩) l37 (by kernel_rfl) (fun s35 x39 h => ?_)
  unfold rickyardlaw19_ShadowSafe.s0 at h
  refine t_cond cok ?_
  refine bi h (fun c40 h => ?_) (fun c40 h => ?_)
  ·skip
   refine ag h fun h => ?_
   refine bk h fun t41 k42 h => ?_
   refine cl3 cok.g (rickyardlaw19_do_a1_1.sc fu s35.2 (ix a0 s35.1) _ k42) (.tup []) [(0, .box 114 (.agg [.ptr 1 0, .ptr 4 0])), (1, .box 105 (.agg [.sl 2 4 [], .agg [.sl 3 1 [], vi .i64 t41.device.plan.at_], vb t41.device.off, vb t41.device.armed, vi .i64 t41.device.left, vi .i64 t41.device.steps])), (2, .row (.st .S_pmem_cell) 125 (t41.device.cells : List S_pmem_cell)), (3, .row (.int .i64) 3 (t41.device.plan.list : List Int)), (4, .box 108 (.agg [vi .i64 t41.blocks.reserve, .agg [.ptr 5 0, .ptr 7 0, .ptr 26 0, .ptr 28 0]])), (5, .box 112 (.agg [vi .i64 t41.blocks.sets.1.size, .sl 6 1 []])), (6, .row (.int .u64) 119 (t41.blocks.sets.1.words : List Int)), (7, .box 112 (.agg [vi .i64 t41.blocks.sets.2.1.size, .sl 8 1 []])), (8, .row (.int .u64) 119 (t41.blocks.sets.2.1.words : List Int)), (9, .gone), (10, .gone), (11, .gone), (12, .gone), (26, .box 112 (.agg [vi .i64 t41.blocks.sets.2.2.1.size, .sl 27 1 []])), (27, .row (.int .u64) 119 (t41.blocks.sets.2.2.1.words : List Int)), (28, .box 112 (.agg [vi .i64 t41.blocks.sets.2.2.2.size, .sl 29 1 []])), (29, .row (.int .u64) 119 (t41.blocks.sets.2.2.2.words : List Int))] 30 (by kernel_rfl) (by kernel_rfl) ?_
   exact lpi h (by kernel_rfl)
  exact lpx h (fun hy => em (sj hy) (by kernel_rfl))
 refine bk h fun t43 k44 h => ?_
 refine cl3 cok.g (shadow_Store_Sure.sc fu e36 _ k44) (vi .i64 t43.1) [(0, .box 114 (.agg [.ptr 1 0, .ptr 4 0])), (1, .box 105 (.agg [.sl 2 4 [], .agg [.sl 3 1 [], vi .i64 t43.2.device.plan.at_], vb t43.2.device.off, vb t43.2.device.armed, vi .i64 t43.2.device.left, vi .i64 t43.2.device.steps])), (2, .row (.st .S_pmem_cell) 125 (t43.2.device.cells : List S_pmem_cell)), (3, .row (.int .i64) 3 (t43.2.device.plan.list : List Int)), (4, .box 108 (.agg [vi .i64 t43.2.blocks.reserve, .agg [.ptr 5 0, .ptr 7 0, .ptr 9 0, .ptr 11 0]])), (5, .box 112 (.agg [vi .i64 t43.2.blocks.sets.1.size, .sl 6 1 []])), (6, .row (.int .u64) 119 (t43.2.blocks.sets.1.words : List Int)), (7, .box 112 (.agg [vi .i64 t43.2.blocks.sets.2.1.size, .sl 8 1 []])), (8, .row (.int .u64) 119 (t43.2.blocks.sets.2.1.words : List Int)), (9, .box 112 (.agg [vi .i64 t43.2.blocks.sets.2.2.1.size, .sl 10 1 []])), (10, .row (.int .u64) 119 (t43.2.blocks.sets.2.2.1.words : List Int)), (11, .box 112 (.agg [vi .i64 t43.2.blocks.sets.2.2.2.size, .sl 12 1 []])), (12, .row (.int .u64) 119 (t43.2.blocks.sets.2.2.2.words : List Int))] 26 (by kernel_rfl) (by kernel_rfl) ?_
 refine bk h fun t45 k46 h => ?_
 refine cl3 cok.g (alloc_Alloc_Works.sc fu t43.2.blocks _ k46) (.ptr 35 0) [(4, .box 108 (.agg [vi .i64 t43.2.blocks.reserve, .agg [.ptr 5 0, .ptr 7 0, .ptr 9 0, .ptr 11 0]])), (5, .box 112 (.agg [vi .i64 t43.2.blocks.sets.1.size, .sl 6 1 []])), (6, .row (.int .u64) 119 (t43.2.blocks.sets.1.words : List Int)), (7, .box 112 (.agg [vi .i64 t43.2.blocks.sets.2.1.size, .sl 8 1 []])), (8, .row (.int .u64) 119 (t43.2.blocks.sets.2.1.words : List Int)), (9, .box 112 (.agg [vi .i64 t43.2.blocks.sets.2.2.1.size, .sl 10 1 []])), (10, .row (.int .u64) 119 (t43.2.blocks.sets.2.2.1.words : List Int)), (11, .box 112 (.agg [vi .i64 t43.2.blocks.sets.2.2.2.size, .sl 12 1 []])), (12, .row (.int .u64) 119 (t43.2.blocks.sets.2.2.2.words : List Int)), (35, .box 112 (.agg [vi .i64 t45.size, .sl 36 1 []])), (36, .row (.int .u64) 119 (t45.words : List Int))] 37 (by kernel_rfl) (by kernel_rfl) ?_
 refine bk h fun t47 k48 h => ?_
 refine cl3 cok.g (bits_Set_List.sc fu t45 _ k48) (.sl 39 1 []) [(35, .box 112 (.agg [vi .i64 t45.size, .sl 36 1 []])), (36, .row (.int .u64) 119 (t45.words : List Int)), (39, .row (.int .i64) 3 (t47 : List Int))] 40 (by kernel_rfl) (by kernel_rfl) ?_
 refine bk h fun t49 k50 h => ?_
 refine cl3 cok.g (alloc_Alloc_Commit.sc fu t43.2.blocks _ k50) (.tup []) [(4, .box 108 (.agg [vi .i64 t49.reserve, .agg [.ptr 49 0, .ptr 51 0, .ptr 53 0, .ptr 11 0]])), (5, .gone), (6, .gone), (7, .gone), (8, .gone), (9, .gone), (10, .gone), (11, .box 112 (.agg [vi .i64 t49.sets.2.2.2.size, .sl 12 1 []])), (12, .row (.int .u64) 119 (t49.sets.2.2.2.words : List Int)), (49, .box 112 (.agg [vi .i64 t49.sets.1.size, .sl 50 1 []])), (50, .row (.int .u64) 119 (t49.sets.1.words : List Int)), (51, .box 112 (.agg [vi .i64 t49.sets.2.1.size, .sl 52 1 []])), (52, .row (.int .u64) 119 (t49.sets.2.1.words : List Int)), (53, .box 112 (.agg [vi .i64 t49.sets.2.2.1.size, .sl 54 1 []])), (54, .row (.int .u64) 119 (t49.sets.2.2.1.words : List Int))] 55 (by kernel_rfl) (by kernel_rfl) ?_
 refine bk h fun e52 l53 h => ?_
 refine t_cutx cok 2 (fun (e52 : S_shadow_Store) => ⟨[(1, .v (.sl (.st .S_rickyardlaw19_Act)) (a1 : List S_rickyardlaw19_Act)), (2, .v (.sl (.int .i64)) (a2 : List Int)), (7, .ptr 0 0), (8, .ptr 1 0), (9, .ptr 4 0), (11, .sl 13 1 [])], [.box 114 (.agg [.ptr 1 0, .ptr 4 0]), .box 105 (.agg [.sl 2 4 [], .agg [.sl 3 1 [], vi .i64 e52.device.plan.at_], vb e52.device.off, vb e52.device.armed, vi .i64 e52.device.left, vi .i64 e52.device.steps]), .row (.st .S_pmem_cell) 125 (e52.device.cells : List S_pmem_cell), .row (.int .i64) 3 (e52.device.plan.list : List Int), .box 108 (.agg [vi .i64 e52.blocks.reserve, .agg [.ptr 5 0, .ptr 7 0, .ptr 9 0, .ptr 11 0]]), .box 112 (.agg [vi .i64 e52.blocks.sets.1.size, .sl 6 1 []]), .row (.int .u64) 119 (e52.blocks.sets.1.words : List Int), .box 112 (.agg [vi .i64 e52.blocks.sets.2.1.size, .sl 8 1 []]), .row (.int .u64) 119 (e52.blocks.sets.2.1.words : List Int), .box 112 (.agg [vi .i64 e52.blocks.sets.2.2.1.size, .sl 10 1 []]), .row (.int .u64) 119 (e52.blocks.sets.2.2.1.words : List Int), .box 112 (.agg [vi .i64 e52.blocks.sets.2.2.2.size, .sl 12 1 []]), .row (.int .u64) 119 (e52.blocks.sets.2.2.2.words : List Int), .row (.int .i64) 3 (t47 : List Int)]⟩) e52 ?_ ?_
 ·skip
  have h54 := h
  refine t_loop cok (fun (s51 : Int × S_shadow_Store) => ⟨[(0, .v (.sl (.st .S_rickyardlaw19_Act)) (a0 : List S_rickyardlaw19_Act)), (1, .v (.sl (.st .S_rickyardlaw19_Act)) (a1 : List S_rickyardlaw19_Act)), (2, .v (.sl (.int .i64)) (a2 : List Int)), (7, .ptr 0 0), (8, .ptr 1 0), (9, .ptr 4 0), (11, .sl 13 1 []), (12, vi .i64 s51.1)], [.box 114 (.agg [.ptr 1 0, .ptr 4 0]), .box 105 (.agg [.sl 2 4 [], .agg [.sl 3 1 [], vi .i64 s51.2.device.plan.at_], vb s51.2.device.off, vb s51.2.device.armed, vi .i64 s51.2.device.left, vi .i64 s51.2.device.steps]), .row (.st .S_pmem_cell) 125 (s51.2.device.cells : List S_pmem_cell), .row (.int .i64) 3 (s51.2.device.plan.list : List Int), .box 108 (.agg [vi .i64 s51.2.blocks.reserve, .agg [.ptr 5 0, .ptr 7 0, .ptr 9 0, .ptr 11 0]]), .box 112 (.agg [vi .i64 s51.2.blocks.sets.1.size, .sl 6 1 []]), .row (.int .u64) 119 (s51.2.blocks.sets.1.words : List Int), .box 112 (.agg [vi .i64 s51.2.blocks.sets.2.1.size, .sl 8 1 []]), .row (.int .u64) 119 (s51.2.blocks.sets.2.1.words : List Int), .box 112 (.agg [vi .i64 s51.2.blocks.sets.2.2.1.size, .sl 10 1 []]), .row (.int .u64) 119 (s51.2.blocks.sets.2.2.1.words : List Int), .box 112 (.agg [vi .i64 s51.2.blocks.sets.2.2.2.size, .sl 12 1 []]), .row (.int .u64) 119 (s51.2.blocks.sets.2.2.2.words : List Int), .row (.int .i64) 3 (t47 : List Int)]⟩) l53 (by kernel_rfl) (fun s51 x55 h => ?_)
  unfold rickyardlaw19_ShadowSafe.s1 at h
  refine t_cond cok ?_
  refine bi h (fun c56 h => ?_) (fun c56 h => ?_)
  ·skip
   refine ag h fun h => ?_
   refine bk h fun t57 k58 h => ?_
   refine cl3 cok.g (rickyardlaw19_do_a1_1.sc fu s51.2 (ix a0 (IntKind.i64.wrap ((IntKind.i64.wrap ((List.length a0 : Int) - 1)) - s51.1))) _ k58) (.tup []) [(0, .box 114 (.agg [.ptr 1 0, .ptr 4 0])), (1, .box 105 (.agg [.sl 2 4 [], .agg [.sl 3 1 [], vi .i64 t57.device.plan.at_], vb t57.device.off, vb t57.device.armed, vi .i64 t57.device.left, vi .i64 t57.device.steps])), (2, .row (.st .S_pmem_cell) 125 (t57.device.cells : List S_pmem_cell)), (3, .row (.int .i64) 3 (t57.device.plan.list : List Int)), (4, .box 108 (.agg [vi .i64 t57.blocks.reserve, .agg [.ptr 5 0, .ptr 7 0, .ptr 27 0, .ptr 29 0]])), (5, .box 112 (.agg [vi .i64 t57.blocks.sets.1.size, .sl 6 1 []])), (6, .row (.int .u64) 119 (t57.blocks.sets.1.words : List Int)), (7, .box 112 (.agg [vi .i64 t57.blocks.sets.2.1.size, .sl 8 1 []])), (8, .row (.int .u64) 119 (t57.blocks.sets.2.1.words : List Int)), (9, .gone), (10, .gone), (11, .gone), (12, .gone), (27, .box 112 (.agg [vi .i64 t57.blocks.sets.2.2.1.size, .sl 28 1 []])), (28, .row (.int .u64) 119 (t57.blocks.sets.2.2.1.words : List Int)), (29, .box 112 (.agg [vi .i64 t57.blocks.sets.2.2.2.size, .sl 30 1 []])), (30, .row (.int .u64) 119 (t57.blocks.sets.2.2.2.words : List Int))] 31 (by kernel_rfl) (by kernel_rfl) ?_
   exact lpi h (by kernel_rfl)
  exact lpx h (fun hy => em (sj hy) (by kernel_rfl))
 refine bk h fun t59 k60 h => ?_
 refine cl3 cok.g (shadow_Store_Sure.sc fu e52 _ k60) (vi .i64 t59.1) [(0, .box 114 (.agg [.ptr 1 0, .ptr 4 0])), (1, .box 105 (.agg [.sl 2 4 [], .agg [.sl 3 1 [], vi .i64 t59.2.device.plan.at_], vb t59.2.device.off, vb t59.2.device.armed, vi .i64 t59.2.device.left, vi .i64 t59.2.device.steps])), (2, .row (.st .S_pmem_cell) 125 (t59.2.device.cells : List S_pmem_cell)), (3, .row (.int .i64) 3 (t59.2.device.plan.list : List Int)), (4, .box 108 (.agg [vi .i64 t59.2.blocks.reserve, .agg [.ptr 5 0, .ptr 7 0, .ptr 9 0, .ptr 11 0]])), (5, .box 112 (.agg [vi .i64 t59.2.blocks.sets.1.size, .sl 6 1 []])), (6, .row (.int .u64) 119 (t59.2.blocks.sets.1.words : List Int)), (7, .box 112 (.agg [vi .i64 t59.2.blocks.sets.2.1.size, .sl 8 1 []])), (8, .row (.int .u64) 119 (t59.2.blocks.sets.2.1.words : List Int)), (9, .box 112 (.agg [vi .i64 t59.2.blocks.sets.2.2.1.size, .sl 10 1 []])), (10, .row (.int .u64) 119 (t59.2.blocks.sets.2.2.1.words : List Int)), (11, .box 112 (.agg [vi .i64 t59.2.blocks.sets.2.2.2.size, .sl 12 1 []])), (12, .row (.int .u64) 119 (t59.2.blocks.sets.2.2.2.words : List Int))] 27 (by kernel_rfl) (by kernel_rfl) ?_
 refine bk h fun t61 k62 h => ?_
 refine cl3 cok.g (alloc_Alloc_Works.sc fu t59.2.blocks _ k62) (.ptr 36 0) [(4, .box 108 (.agg [vi .i64 t59.2.blocks.reserve, .agg [.ptr 5 0, .ptr 7 0, .ptr 9 0, .ptr 11 0]])), (5, .box 112 (.agg [vi .i64 t59.2.blocks.sets.1.size, .sl 6 1 []])), (6, .row (.int .u64) 119 (t59.2.blocks.sets.1.words : List Int)), (7, .box 112 (.agg [vi .i64 t59.2.blocks.sets.2.1.size, .sl 8 1 []])), (8, .row (.int .u64) 119 (t59.2.blocks.sets.2.1.words : List Int)), (9, .box 112 (.agg [vi .i64 t59.2.blocks.sets.2.2.1.size, .sl 10 1 []])), (10, .row (.int .u64) 119 (t59.2.blocks.sets.2.2.1.words : List Int)), (11, .box 112 (.agg [vi .i64 t59.2.blocks.sets.2.2.2.size, .sl 12 1 []])), (12, .row (.int .u64) 119 (t59.2.blocks.sets.2.2.2.words : List Int)), (36, .box 112 (.agg [vi .i64 t61.size, .sl 37 1 []])), (37, .row (.int .u64) 119 (t61.words : List Int))] 38 (by kernel_rfl) (by kernel_rfl) ?_
 refine bk h fun t63 k64 h => ?_
 refine cl3 cok.g (bits_Set_List.sc fu t61 _ k64) (.sl 40 1 []) [(36, .box 112 (.agg [vi .i64 t61.size, .sl 37 1 []])), (37, .row (.int .u64) 119 (t61.words : List Int)), (40, .row (.int .i64) 3 (t63 : List Int))] 41 (by kernel_rfl) (by kernel_rfl) ?_
 refine bk h fun t65 k66 h => ?_
 refine cl3 cok.g (alloc_Alloc_Commit.sc fu t59.2.blocks _ k66) (.tup []) [(4, .box 108 (.agg [vi .i64 t65.reserve, .agg [.ptr 50 0, .ptr 52 0, .ptr 54 0, .ptr 11 0]])), (5, .gone), (6, .gone), (7, .gone), (8, .gone), (9, .gone), (10, .gone), (11, .box 112 (.agg [vi .i64 t65.sets.2.2.2.size, .sl 12 1 []])), (12, .row (.int .u64) 119 (t65.sets.2.2.2.words : List Int)), (50, .box 112 (.agg [vi .i64 t65.sets.1.size, .sl 51 1 []])), (51, .row (.int .u64) 119 (t65.sets.1.words : List Int)), (52, .box 112 (.agg [vi .i64 t65.sets.2.1.size, .sl 53 1 []])), (53, .row (.int .u64) 119 (t65.sets.2.1.words : List Int)), (54, .box 112 (.agg [vi .i64 t65.sets.2.2.1.size, .sl 55 1 []])), (55, .row (.int .u64) 119 (t65.sets.2.2.1.words : List Int))] 56 (by kernel_rfl) (by kernel_rfl) ?_
 refine bk h fun t67 k68 h => ?_
 refine cl3 cok.g (pmem_Device_Image.sc fu t59.2.device _ k68) (.sl 59 1 []) [(1, .box 105 (.agg [.sl 2 4 [], .agg [.sl 3 1 [], vi .i64 t59.2.device.plan.at_], vb t59.2.device.off, vb t59.2.device.armed, vi .i64 t59.2.device.left, vi .i64 t59.2.device.steps])), (2, .row (.st .S_pmem_cell) 125 (t59.2.device.cells : List S_pmem_cell)), (3, .row (.int .i64) 3 (t59.2.device.plan.list : List Int)), (59, .row (.int .u8) 5 (t67 : List Int))] 60 (by kernel_rfl) (by kernel_rfl) ?_
 refine bk h fun e70 l71 h => ?_
 refine t_cutx cok 4 (fun (e70 : S_shadow_Store) => ⟨[(2, .v (.sl (.int .i64)) (a2 : List Int)), (8, .ptr 0 0), (11, .sl 3 1 []), (13, .sl 4 1 []), (14, .sl 5 1 [])], [.box 105 (.agg [.sl 1 4 [], .agg [.sl 2 1 [], vi .i64 e70.device.plan.at_], vb e70.device.off, vb e70.device.armed, vi .i64 e70.device.left, vi .i64 e70.device.steps]), .row (.st .S_pmem_cell) 125 (e70.device.cells : List S_pmem_cell), .row (.int .i64) 3 (e70.device.plan.list : List Int), .row (.int .i64) 3 (t47 : List Int), .row (.int .i64) 3 (t63 : List Int), .row (.int .u8) 5 (t67 : List Int)]⟩) e70 ?_ ?_
 ·skip
  have h72 := h
  refine t_loop cok (fun (s69 : Int × S_shadow_Store) => ⟨[(1, .v (.sl (.st .S_rickyardlaw19_Act)) (a1 : List S_rickyardlaw19_Act)), (2, .v (.sl (.int .i64)) (a2 : List Int)), (7, .ptr 0 0), (8, .ptr 1 0), (9, .ptr 4 0), (11, .sl 13 1 []), (13, .sl 14 1 []), (14, .sl 15 1 []), (15, vi .i64 s69.1)], [.box 114 (.agg [.ptr 1 0, .ptr 4 0]), .box 105 (.agg [.sl 2 4 [], .agg [.sl 3 1 [], vi .i64 s69.2.device.plan.at_], vb s69.2.device.off, vb s69.2.device.armed, vi .i64 s69.2.device.left, vi .i64 s69.2.device.steps]), .row (.st .S_pmem_cell) 125 (s69.2.device.cells : List S_pmem_cell), .row (.int .i64) 3 (s69.2.device.plan.list : List Int), .box 108 (.agg [vi .i64 s69.2.blocks.reserve, .agg [.ptr 5 0, .ptr 7 0, .ptr 9 0, .ptr 11 0]]), .box 112 (.agg [vi .i64 s69.2.blocks.sets.1.size, .sl 6 1 []]), .row (.int .u64) 119 (s69.2.blocks.sets.1.words : List Int), .box 112 (.agg [vi .i64 s69.2.blocks.sets.2.1.size, .sl 8 1 []]), .row (.int .u64) 119 (s69.2.blocks.sets.2.1.words : List Int), .box 112 (.agg [vi .i64 s69.2.blocks.sets.2.2.1.size, .sl 10 1 []]), .row (.int .u64) 119 (s69.2.blocks.sets.2.2.1.words : List Int), .box 112 (.agg [vi .i64 s69.2.blocks.sets.2.2.2.size, .sl 12 1 []]), .row (.int .u64) 119 (s69.2.blocks.sets.2.2.2.words : List Int), .row (.int .i64) 3 (t47 : List Int), .row (.int .i64) 3 (t63 : List Int), .row (.int .u8) 5 (t67 : List Int)]⟩) l71 (by kernel_rfl) (fun s69 x73 h => ?_)
  unfold rickyardlaw19_ShadowSafe.s2 at h
  refine t_cond cok ?_
  refine bi h (fun c74 h => ?_) (fun c74 h => ?_)
  ·skip
   refine ag h fun h => ?_
   refine bk h fun t75 k76 h => ?_
   refine cl3 cok.g (rickyardlaw19_do_a1_1.sc fu s69.2 (ix a1 s69.1) _ k76) (.tup []) [(0, .box 114 (.agg [.ptr 1 0, .ptr 4 0])), (1, .box 105 (.agg [.sl 2 4 [], .agg [.sl 3 1 [], vi .i64 t75.device.plan.at_], vb t75.device.off, vb t75.device.armed, vi .i64 t75.device.left, vi .i64 t75.device.steps])), (2, .row (.st .S_pmem_cell) 125 (t75.device.cells : List S_pmem_cell)), (3, .row (.int .i64) 3 (t75.device.plan.list : List Int)), (4, .box 108 (.agg [vi .i64 t75.blocks.reserve, .agg [.ptr 5 0, .ptr 7 0, .ptr 29 0, .ptr 31 0]])), (5, .box 112 (.agg [vi .i64 t75.blocks.sets.1.size, .sl 6 1 []])), (6, .row (.int .u64) 119 (t75.blocks.sets.1.words : List Int)), (7, .box 112 (.agg [vi .i64 t75.blocks.sets.2.1.size, .sl 8 1 []])), (8, .row (.int .u64) 119 (t75.blocks.sets.2.1.words : List Int)), (9, .gone), (10, .gone), (11, .gone), (12, .gone), (29, .box 112 (.agg [vi .i64 t75.blocks.sets.2.2.1.size, .sl 30 1 []])), (30, .row (.int .u64) 119 (t75.blocks.sets.2.2.1.words : List Int)), (31, .box 112 (.agg [vi .i64 t75.blocks.sets.2.2.2.size, .sl 32 1 []])), (32, .row (.int .u64) 119 (t75.blocks.sets.2.2.2.words : List Int))] 33 (by kernel_rfl) (by kernel_rfl) ?_
   exact lpi h (by kernel_rfl)
  exact lpx h (fun hy => em (sj hy) (by kernel_rfl))
 refine bk h fun t77 k78 h => ?_
 refine cl3 cok.g (pmem_Device_Crash.sc fu e70.device a2 _ k78) (.tup []) [(0, .box 105 (.agg [.sl 1 4 [], .agg [.sl 9 1 [], vi .i64 t77.plan.at_], vb t77.off, vb t77.armed, vi .i64 t77.left, vi .i64 t77.steps])), (1, .row (.st .S_pmem_cell) 125 (t77.cells : List S_pmem_cell)), (2, .gone), (9, .row (.int .i64) 3 (t77.plan.list : List Int))] 10 (by kernel_rfl) (by kernel_rfl) ?_
 refine bk h fun t79 k80 h => ?_
 refine cl3 cok.g (pmem_Device_Image.sc fu t77 _ k80) (.sl 13 1 []) [(0, .box 105 (.agg [.sl 1 4 [], .agg [.sl 9 1 [], vi .i64 t77.plan.at_], vb t77.off, vb t77.armed, vi .i64 t77.left, vi .i64 t77.steps])), (1, .row (.st .S_pmem_cell) 125 (t77.cells : List S_pmem_cell)), (9, .row (.int .i64) 3 (t77.plan.list : List Int)), (13, .row (.int .u8) 5 (t79 : List Int))] 14 (by kernel_rfl) (by kernel_rfl) ?_
 refine t_reg cok ?_
 refine bi h (fun c81 h => ?_) (fun c81 h => ?_)
 ·skip
  refine t_cond cok ?_
  exact fi h (by kernel_rfl)
 refine t_cond cok ?_
 refine bi h (fun c82 h => ?_) (fun c82 h => ?_)
 ·skip
  exact fi h (by kernel_rfl)
 refine ag h fun h => ?_
 refine ag h fun h => ?_
 refine bk h fun e84 l85 h => ?_
 refine t_cutxS cok 6 (fun (_x : Unit) => ⟨[], []⟩) e84 ?_ (fun x86 hy => ?_)
 ·skip
  have h87 := h
  refine t_loop cok (fun (s83 : Int) => ⟨[(14, .sl 0 1 []), (16, .sl 1 1 []), (17, .sl 2 1 []), (18, vi .i64 s83)], [.row (.int .u8) 5 (t67 : List Int), .row (.int .u8) 5 (t79 : List Int), .row (.int .i64) 3 (((([] : List Int) ++ t47) ++ t63) : List Int)]⟩) l85 (by kernel_rfl) (fun s83 x88 h => ?_)
  unfold rickyardlaw19_ShadowSafe.s3 at h
  refine t_cond cok ?_
  refine bi h (fun c89 h => ?_) (fun c89 h => ?_)
  ·skip
   refine ag h fun h => ?_
   refine t_draw cok mo [⟨0, false, [17], [], 0, []⟩, ⟨1, false, [18], [], 0, []⟩, ⟨2, false, [141, 142], [2], 0, [0, 1]⟩, ⟨3, false, [143], [2], 0, [0, 1, 2]⟩, ⟨4, false, [144], [], 0, [0, 1, 2, 3]⟩, ⟨5, false, [145], [], 0, [0, 1, 2, 3, 4]⟩, ⟨6, false, [17, 146], [], 0, [0, 1, 2, 3, 4, 5]⟩, ⟨7, false, [18, 146], [], 0, [0, 1, 2, 3, 4, 5]⟩, ⟨8, false, [146, 147, 148], [2], 0, [0, 1, 2, 3, 4, 5, 6, 7]⟩, ⟨9, false, [146, 149], [2], 0, [0, 1, 2, 3, 4, 5, 6, 7, 8]⟩, ⟨10, false, [146, 150], [], 0, [0, 1, 2, 3, 4, 5, 6, 7, 8, 9]⟩, ⟨11, true, [146, 151], [], 0, [0, 1, 2, 3, 4, 5, 6, 7, 8, 9, 10]⟩, ⟨12, false, [152], [], 0, [0, 1, 2, 3, 4, 5, 6, 7, 8, 9, 10, 11]⟩, ⟨13, false, [16, 153], [], 0, [0, 1, 2, 3, 4, 5, 6, 7, 8, 9, 10, 11, 12]⟩, ⟨14, false, [19, 153], [], 0, [0, 1, 2, 3, 4, 5, 6, 7, 8, 9, 10, 11, 12]⟩, ⟨15, false, [19, 153], [], 0, [0, 1, 2, 3, 4, 5, 6, 7, 8, 9, 10, 11, 12]⟩, ⟨16, false, [153, 156], [], 0, [0, 1, 2, 3, 4, 5, 6, 7, 8, 9, 10, 11, 12, 15]⟩, ⟨17, false, [153, 154, 155, 157], [1], 0, [0, 1, 2, 3, 4, 5, 6, 7, 8, 9, 10, 11, 12, 13, 14, 15, 16]⟩, ⟨18, false, [153, 158], [1], 0, [0, 1, 2, 3, 4, 5, 6, 7, 8, 9, 10, 11, 12, 13, 14, 15, 16, 17]⟩, ⟨19, false, [14, 153], [], 0, [0, 1, 2, 3, 4, 5, 6, 7, 8, 9, 10, 11, 12]⟩, ⟨20, false, [19, 153], [], 0, [0, 1, 2, 3, 4, 5, 6, 7, 8, 9, 10, 11, 12]⟩, ⟨21, false, [19, 153], [], 0, [0, 1, 2, 3, 4, 5, 6, 7, 8, 9, 10, 11, 12]⟩, ⟨22, false, [153, 162], [], 0, [0, 1, 2, 3, 4, 5, 6, 7, 8, 9, 10, 11, 12, 21]⟩, ⟨23, false, [153, 160, 161, 163], [0], 0, [0, 1, 2, 3, 4, 5, 6, 7, 8, 9, 10, 11, 12, 19, 20, 21, 22]⟩, ⟨24, false, [153, 164], [0], 0, [0, 1, 2, 3, 4, 5, 6, 7, 8, 9, 10, 11, 12, 19, 20, 21, 22, 23]⟩, ⟨25, false, [153, 159, 165], [], 0, [0, 1, 2, 3, 4, 5, 6, 7, 8, 9, 10, 11, 12, 13, 14, 15, 16, 17, 18, 19, 20, 21, 22, 23, 24]⟩, ⟨26, true, [153, 166], [], 0, [0, 1, 2, 3, 4, 5, 6, 7, 8, 9, 10, 11, 12, 13, 14, 15, 16, 17, 18, 19, 20, 21, 22, 23, 24, 25]⟩] (by kernel_rfl) ?_
   refine ag h fun h => ?_
   refine bi h (fun c90 h => ?_) (fun c90 h => ?_)
   ·skip
    refine t_cond cok ?_
    refine lpr h (fun hy => ?_)
    have h := h87
    rw [← hy] at h
    exact fi h (by kernel_rfl)
   refine ag h fun h => ?_
   refine bi h (fun c91 h => ?_) (fun c91 h => ?_)
   ·skip
    refine t_cond cok ?_
    refine lpr h (fun hy => ?_)
    have h := h87
    rw [← hy] at h
    exact fi h (by kernel_rfl)
   refine ag h fun h => ?_
   refine ag h fun h => ?_
   refine t_cond cok ?_
   refine bi h (fun c92 h => ?_) (fun c92 h => ?_)
   ·skip
    refine lpr h (fun hy => ?_)
    have h := h87
    rw [← hy] at h
    exact fi h (by kernel_rfl)
   exact lpi h (by kernel_rfl)
  exact lpx h (fun hy => ems (sj hy) (by kernel_rfl))
 subst hy
 exact fi h (by kernel_rfl)
end Go.Proofs.YtdifnahlheogdaaDoor
namespace Go.Proofs.YtdifnahlheogdaaDoor.Pure
open Go Go.Xw Go.Yw
def Bytes (l : List Int) : Prop := ∀ x ∈ l, 0 ≤ x ∧ x ≤ 255
theorem ix_nat {α : Type} [Inhabited α] {l : List α} {j : Nat} (h : j < l.length) : ix l (j : Int) = l[j] := by
  simp [ix, List.getD_eq_getElem?_getD, List.getElem?_eq_getElem h]
theorem take_next {α : Type} {l : List α} {j : Nat} (h : j < l.length) : l.take (j + 1) = l.take j ++ [l[j]] := by
  rw [List.take_add_one, List.getElem?_eq_getElem h]
  rfl
theorem loopM_inv {σ ε : Type} {step : σ → Option (Sum ε σ)} (P : Nat → σ → Prop) (n : Nat) (Q : ε → Prop) (h : ∀ j s, j < n → P j s → ∃ s', step s = some (.inr s') ∧ P (j + 1) s') (he : ∀ s, P n s → ∃ e, step s = some (.inl e) ∧ Q e) : ∀ {k j : Nat} {s : σ}, P j s → j ≤ n → n - j < k → ∃ e, loopM step k s = some e ∧ Q e
  | 0, j, s, _, _, hk => by omega
  | k + 1, j, s, hp, hj, hk => by
    unfold loopM
    by_cases e1 : j = n
    · subst e1
      obtain ⟨e, h1, h2⟩ := he s hp
      rw [h1]
      exact ⟨e, rfl, h2⟩
    · obtain ⟨s', h1, h2⟩ := h j s (by omega) hp
      rw [h1]
      exact loopM_inv P n Q h he h2 (by omega) (by omega)
theorem next64 {j n : Nat} (h : j < n) (hn : n ≤ 100000) : IntKind.i64.wrap ((j : Int) + 1) = ((j + 1 : Nat) : Int) := by rw [w64 (by omega) (by omega)]; omega
theorem loopM_term {σ ε : Type} {step : σ → Option (Sum ε σ)} (S : Nat → σ) (n : Nat) (h : ∀ j, j < n → (∃ e, step (S j) = some (.inl e)) ∨ step (S j) = some (.inr (S (j + 1)))) (he : ∃ e, step (S n) = some (.inl e)) : ∀ {k j : Nat}, j ≤ n → n - j < k → ∃ e, loopM step k (S j) = some e
  | 0, j, _, hk => by omega
  | k + 1, j, hj, hk => by
    unfold loopM
    by_cases e1 : j = n
    · subst e1
      obtain ⟨e, h1⟩ := he
      rw [h1]
      exact ⟨e, rfl⟩
    · rcases h j (by omega) with ⟨e, h1⟩ | h1
      · rw [h1]
        exact ⟨e, rfl⟩
      · rw [h1]
        exact loopM_term S n h he (by omega) (by omega)
def wdR (g : Nat → Bool) : Nat → Nat
  | 0 => 0
  | k + 1 => 2 ^ k * (if g k = true then 1 else 0) + wdR g k
theorem wdR_lt (g : Nat → Bool) : ∀ n, wdR g n < 2 ^ n
  | 0 => by simp [wdR]
  | n + 1 => by
    have := wdR_lt g n
    unfold wdR
    rw [Nat.pow_succ]
    split <;> omega
theorem wdR_bit (g : Nat → Bool) (k : Nat) : ∀ n, (wdR g n).testBit k = (decide (k < n) && g k)
  | 0 => by simp [wdR]
  | n + 1 => by
    unfold wdR
    rw [Nat.testBit_two_pow_mul_add _ (wdR_lt g n)]
    by_cases h : k < n
    · rw [if_pos h, wdR_bit g k n]
      simp [h, show k < n + 1 by omega]
    · rw [if_neg h]
      by_cases e : k = n
      · subst e
        cases hg : g k <;> simp [hg]
      · have e2 : ¬ k < n + 1 := by omega
        obtain ⟨m, hm⟩ : ∃ m, k - n = m + 1 := ⟨k - n - 1, by omega⟩
        rw [hm]
        simp only [e2, decide_false, Bool.false_and]
        split <;> simp [Nat.testBit_succ]
theorem wd_ex (g : Nat → Bool) (n : Nat) : ∃ x, x < 2 ^ n ∧ ∀ k, x.testBit k = (decide (k < n) && g k) := ⟨wdR g n, wdR_lt g n, fun k => wdR_bit g k n⟩
noncomputable def wdN (g : Nat → Bool) (n : Nat) : Nat := Classical.choose (wd_ex g n)
theorem wdN_lt (g : Nat → Bool) (n : Nat) : wdN g n < 2 ^ n := (Classical.choose_spec (wd_ex g n)).1
theorem wdN_bit (g : Nat → Bool) (k n : Nat) : (wdN g n).testBit k = (decide (k < n) && g k) := (Classical.choose_spec (wd_ex g n)).2 k
theorem wdN_congr {f g : Nat → Bool} {n : Nat} (h : ∀ k, k < n → f k = g k) : wdN f n = wdN g n := by
  apply Nat.eq_of_testBit_eq
  intro i
  rw [wdN_bit, wdN_bit]
  by_cases e : i < n
  · rw [h i e]
  · simp [e]
theorem p64 : (2 : Nat) ^ 64 = 18446744073709551616 := by decide
theorem wrap_nat {x : Nat} (h : x < 2 ^ 64) : IntKind.u64.wrap (x : Int) = (x : Int) := by
  rw [p64] at h
  exact wu64 (by omega) (by omega)
theorem ofInt_nat (x : Nat) : BitVec.ofInt 64 (x : Int) = BitVec.ofNat 64 x := by rw [BitVec.ofInt_natCast]
theorem and64 {x y : Nat} (hx : x < 2 ^ 64) (hy : y < 2 ^ 64) : bAnd .u64 (x : Int) (y : Int) = ((x &&& y : Nat) : Int) := by
  unfold bAnd
  show IntKind.u64.wrap (((BitVec.ofInt 64 (x : Int) &&& BitVec.ofInt 64 (y : Int)).toNat : Nat) : Int) = _
  rw [ofInt_nat, ofInt_nat, BitVec.toNat_and, BitVec.toNat_ofNat, BitVec.toNat_ofNat, Nat.mod_eq_of_lt hx, Nat.mod_eq_of_lt hy]
  exact wrap_nat (Nat.lt_of_le_of_lt Nat.and_le_left hx)
theorem or64 {x y : Nat} (hx : x < 2 ^ 64) (hy : y < 2 ^ 64) : bOr .u64 (x : Int) (y : Int) = ((x ||| y : Nat) : Int) := by
  unfold bOr
  show IntKind.u64.wrap (((BitVec.ofInt 64 (x : Int) ||| BitVec.ofInt 64 (y : Int)).toNat : Nat) : Int) = _
  rw [ofInt_nat, ofInt_nat, BitVec.toNat_or, BitVec.toNat_ofNat, BitVec.toNat_ofNat, Nat.mod_eq_of_lt hx, Nat.mod_eq_of_lt hy]
  exact wrap_nat (Nat.or_lt_two_pow hx hy)
theorem not64 {x y : Nat} (hx : x < 2 ^ 64) (hy : y < 2 ^ 64) : bNot .u64 (x : Int) (y : Int) = ((wdN (fun k => x.testBit k && !y.testBit k) 64 : Nat) : Int) := by
  unfold bNot
  show IntKind.u64.wrap (((BitVec.ofInt 64 (x : Int) &&& ~~~ BitVec.ofInt 64 (y : Int)).toNat : Nat) : Int) = _
  rw [wrap_nat (BitVec.isLt _), ofInt_nat, ofInt_nat]
  refine congrArg (fun n : Nat => (n : Int)) ?_
  apply Nat.eq_of_testBit_eq
  intro i
  rw [wdN_bit, BitVec.testBit_toNat, BitVec.getLsbD_and, BitVec.getLsbD_not, BitVec.getLsbD_ofNat, BitVec.getLsbD_ofNat]
  by_cases h : i < 64 <;> simp [h]
theorem shr64n {x k : Nat} (hk : k ≤ 64) : shR .u64 (x : Int) (k : Int) = ((x / 2 ^ k : Nat) : Int) := by
  unfold shR
  show Int.fdiv (x : Int) (2 ^ min ((k : Int).toNat) 64) = _
  rw [Int.toNat_natCast, Nat.min_eq_left hk, Int.fdiv_eq_ediv_of_nonneg _ (Int.le_of_lt (Int.pow_pos (by decide)))]
  simp
theorem shl64 {k : Nat} (hk : k < 64) : shL .u64 1 (k : Int) = ((2 ^ k : Nat) : Int) := by
  unfold shL
  show IntKind.u64.wrap (1 * 2 ^ min ((k : Int).toNat) 64) = _
  rw [Int.toNat_natCast, Nat.min_eq_left (Nat.le_of_lt hk), Int.one_mul]
  have : ((2 : Int) ^ k) = ((2 ^ k : Nat) : Int) := by simp
  rw [this]
  exact wrap_nat (Nat.pow_lt_pow_right (by decide) hk)
theorem pow_lt64 {k : Nat} (hk : k < 64) : 2 ^ k < 2 ^ 64 := Nat.pow_lt_pow_right (by decide) hk
theorem or_wd {g : Nat → Bool} {r : Nat} (hr : r < 64) : bOr .u64 ((wdN g 64 : Nat) : Int) (shL .u64 1 (r : Int)) = ((wdN (fun k => g k || decide (k = r)) 64 : Nat) : Int) := by
  rw [shl64 hr, or64 (wdN_lt g 64) (pow_lt64 hr)]
  refine congrArg (fun n : Nat => (n : Int)) ?_
  apply Nat.eq_of_testBit_eq
  intro i
  rw [Nat.testBit_or, wdN_bit, wdN_bit, Nat.testBit_two_pow]
  by_cases h : i < 64
  · by_cases e : r = i <;> simp [h, e, eq_comm]
  · simp [h, show ¬ r = i by omega]
theorem not_wd {g : Nat → Bool} {r : Nat} (hr : r < 64) : bNot .u64 ((wdN g 64 : Nat) : Int) (shL .u64 1 (r : Int)) = ((wdN (fun k => g k && !decide (k = r)) 64 : Nat) : Int) := by
  rw [shl64 hr, not64 (wdN_lt g 64) (pow_lt64 hr)]
  refine congrArg (fun n : Nat => (n : Int)) ?_
  refine wdN_congr fun k hk => ?_
  rw [wdN_bit, Nat.testBit_two_pow]
  by_cases e : r = k <;> simp [hk, e, eq_comm]
theorem has_wd {g : Nat → Bool} {r : Nat} (hr : r < 64) : decide (bAnd .u64 (shR .u64 ((wdN g 64 : Nat) : Int) (r : Int)) 1 = 1) = g r := by
  have hb := wdN_bit g r 64
  rw [shr64n (by omega), show (1 : Int) = ((1 : Nat) : Int) from rfl, and64 (Nat.lt_of_le_of_lt (Nat.div_le_self _ _) (wdN_lt g 64)) (by decide)]
  simp only [hr, decide_true, Bool.true_and] at hb
  rw [← hb, Nat.testBit_eq_decide_div_mod_eq, Nat.and_one_is_mod]
  congr 1
  apply propext
  omega
theorem low_split {x : Nat} (h : x ≠ 0) : ∃ k q, x = 2 ^ k * (2 * q + 1) := by
  induction x using Nat.strongRecOn with
  | _ x ih =>
    by_cases e : x % 2 = 1
    · exact ⟨0, x / 2, by omega⟩
    · obtain ⟨k, q, hk⟩ := ih (x / 2) (by omega) (by omega)
      exact ⟨k + 1, q, by rw [Nat.pow_succ, Nat.mul_comm (2 ^ k) 2, Nat.mul_assoc, ← hk]; omega⟩
theorem tb0 (k a j : Nat) : (2 ^ k * a).testBit j = if j < k then false else a.testBit (j - k) := by
  have := Nat.testBit_two_pow_mul_add a (show 0 < 2 ^ k from Nat.pow_pos (by decide)) j
  simpa using this
theorem low_and (k q : Nat) : (2 ^ k * (2 * q + 1)) &&& (2 ^ k * (2 * q + 1) - 1) = 2 ^ k * (2 * q) := by
  have hp : 0 < 2 ^ k := Nat.pow_pos (by decide)
  have e2 : 2 ^ k * (2 * q + 1) - 1 = 2 ^ k * (2 * q) + (2 ^ k - 1) := by rw [Nat.mul_add]; omega
  apply Nat.eq_of_testBit_eq
  intro j
  rw [Nat.testBit_and, e2, Nat.testBit_two_pow_mul_add _ (by omega : 2 ^ k - 1 < 2 ^ k), tb0, tb0]
  by_cases h : j < k
  · simp [h]
  · rw [if_neg h, if_neg h, if_neg h]
    cases hm : j - k with
    | zero => simp [Nat.testBit_zero]
    | succ m =>
      rw [Nat.testBit_succ, Nat.testBit_succ, show (2 * q + 1) / 2 = q by omega, show 2 * q / 2 = q by omega, Bool.and_self]
theorem low_neg {k q : Nat} (h : 2 ^ k * (2 * q + 1) < 2 ^ 64) : k < 64 ∧ (2 ^ k * (2 * q + 1)) &&& (2 ^ 64 - 2 ^ k * (2 * q + 1)) = 2 ^ k := by
  have hk : k < 64 := by
    by_cases hk : k < 64
    · exact hk
    · have : 2 ^ 64 ≤ 2 ^ k := Nat.pow_le_pow_right (by decide) (by omega)
      have h2 : 2 ^ k * 1 ≤ 2 ^ k * (2 * q + 1) := Nat.mul_le_mul_left _ (by omega)
      omega
  refine ⟨hk, ?_⟩
  have hp : 0 < 2 ^ k := Nat.pow_pos (by decide)
  have es : 2 ^ 64 = 2 ^ k * 2 ^ (64 - k) := by rw [← Nat.pow_add]; congr 1; omega
  have hq : 2 * q + 1 < 2 ^ (64 - k) := by
    rw [es] at h
    exact Nat.lt_of_mul_lt_mul_left h
  have e2 : 2 ^ 64 - 2 ^ k * (2 * q + 1) = 2 ^ k * (2 ^ (64 - k) - (2 * q + 1)) := by rw [es, Nat.mul_sub]
  apply Nat.eq_of_testBit_eq
  intro j
  rw [Nat.testBit_and, e2, tb0, tb0, Nat.testBit_two_pow]
  by_cases hj : j < k
  · simp [hj, show ¬ k = j by omega]
  · rw [if_neg hj, if_neg hj, Nat.testBit_two_pow_sub_succ (by omega : 2 * q < 2 ^ (64 - k))]
    cases hm : j - k with
    | zero => simp [Nat.testBit_zero, show k = j by omega, show 0 < 64 - j by omega]
    | succ m =>
      rw [Nat.testBit_succ, Nat.testBit_succ, show (2 * q + 1) / 2 = q by omega, show 2 * q / 2 = q by omega]
      have : ¬ k = j := by omega
      cases q.testBit m <;> simp [this]
theorem tz_tab : ∀ k : Fin 64, shR .u64 (IntKind.u64.wrap (((2 ^ (k : Nat) : Nat) : Int) * 285870213051353865)) 58 = (((2 ^ (k : Nat) * 285870213051353865) % 2 ^ 64 / 2 ^ 58 : Nat) : Int) ∧ (2 ^ (k : Nat) * 285870213051353865) % 2 ^ 64 / 2 ^ 58 < 64 ∧ Arr.get tabG0 (((2 ^ (k : Nat) * 285870213051353865) % 2 ^ 64 / 2 ^ 58 : Nat) : Int) = ((k : Nat) : Int) := by decide +kernel
theorem tz_eq {fu k q : Nat} (h : 2 ^ k * (2 * q + 1) < 2 ^ 64) : bits_TrailingZeros64.f fu ((2 ^ k * (2 * q + 1) : Nat) : Int) = some (k : Int) := by
  unfold bits_TrailingZeros64.f
  obtain ⟨hk, ha⟩ := low_neg h
  have hp : 0 < 2 ^ k := Nat.pow_pos (by decide)
  have h0 : ¬ ((2 ^ k * (2 * q + 1) : Nat) : Int) = 0 := by
    intro e
    have : 2 ^ k * (2 * q + 1) = 0 := by exact_mod_cast e
    have h2 : 2 ^ k * 1 ≤ 2 ^ k * (2 * q + 1) := Nat.mul_le_mul_left _ (by omega)
    omega
  have hw : IntKind.u64.wrap (-((2 ^ k * (2 * q + 1) : Nat) : Int)) = ((2 ^ 64 - 2 ^ k * (2 * q + 1) : Nat) : Int) := by
    generalize 2 ^ k * (2 * q + 1) = x at *
    have hx : 0 < x := by omega
    rw [p64] at *
    unfold IntKind.wrap
    simp only [IntKind.signed, IntKind.bits]
    simp
    omega
  rw [decide_eq_false h0, if_neg (by decide), hw, and64 h (by rw [p64] at *; have : 2 ^ k * 1 ≤ 2 ^ k * (2 * q + 1) := Nat.mul_le_mul_left _ (by omega); omega), ha]
  obtain ⟨t1, t2, t3⟩ := tz_tab ⟨k, hk⟩
  simp only at t1 t2 t3
  rw [t1, t3, if_pos ⟨by omega, by omega⟩, w64 (by omega) (by omega)]
def mm (c : Nat) : Nat → Nat
  | 0 => 0
  | n + 1 => 256 * mm c n + c
def f1 (n x : Nat) : Nat := ((x / 2) &&& mm 85 n) + (x &&& mm 85 n)
def f2 (n x : Nat) : Nat := ((x / 4) &&& mm 51 n) + (x &&& mm 51 n)
def f3 (n x : Nat) : Nat := (x / 16 + x) &&& mm 15 n
def pc (b : Nat) : Nat := ((List.range 8).filter fun k => b.testBit k).length
def tn : Nat → Nat → Nat
  | 0, _ => 0
  | n + 1, x => 256 * tn n (x / 256) + pc (x % 256)
theorem and256 {y b M c : Nat} (hb : b < 256) (hc : c < 256) : (256 * y + b) &&& (256 * M + c) = 256 * (y &&& M) + (b &&& c) := by
  have e : 256 = 2 ^ 8 := by decide
  have hbc : b &&& c < 2 ^ 8 := Nat.lt_of_le_of_lt Nat.and_le_left (by omega)
  apply Nat.eq_of_testBit_eq
  intro j
  rw [Nat.testBit_and, e, Nat.testBit_two_pow_mul_add _ (by omega : b < 2 ^ 8), Nat.testBit_two_pow_mul_add _ (by omega : c < 2 ^ 8), Nat.testBit_two_pow_mul_add _ hbc]
  by_cases h : j < 8
  · rw [if_pos h, if_pos h, if_pos h, Nat.testBit_and]
  · rw [if_neg h, if_neg h, if_neg h, Nat.testBit_and]
theorem t85 : ∀ (b : Fin 256) (r : Fin 2), (128 * (r : Nat) + (b : Nat) / 2) &&& 85 = ((b : Nat) / 2) &&& 85 := by decide +kernel
theorem t51 : ∀ (b : Fin 256) (r : Fin 4), (64 * (r : Nat) + (b : Nat) / 4) &&& 51 = ((b : Nat) / 4) &&& 51 := by decide +kernel
theorem t15 : ∀ (b : Fin 69) (r : Fin 5), (16 * (r : Nat) + (b : Nat) / 16 + (b : Nat)) &&& 15 = ((b : Nat) / 16 + (b : Nat)) &&& 15 := by decide +kernel
theorem tb : ∀ b : Fin 256, f1 1 b < 256 ∧ f2 1 (f1 1 b) < 69 ∧ f2 1 (f1 1 b) % 16 ≤ 4 ∧ f3 1 (f2 1 (f1 1 b)) = pc b ∧ pc b ≤ 8 := by decide +kernel
theorem tb2 : ∀ b : Fin 256, ((b : Nat) / 2 &&& 85) + ((b : Nat) &&& 85) = f1 1 b ∧ ((b : Nat) / 4 &&& 51) + ((b : Nat) &&& 51) = f2 1 b ∧ ((b : Nat) / 16 + b) &&& 15 = f3 1 b := by decide +kernel
theorem f1_succ {n y b : Nat} (hb : b < 256) : f1 (n + 1) (256 * y + b) = 256 * f1 n y + f1 1 b := by
  have e1 : (256 * y + b) / 2 = 256 * (y / 2) + (128 * (y % 2) + b / 2) := by omega
  unfold f1
  show (((256 * y + b) / 2) &&& (256 * mm 85 n + 85)) + ((256 * y + b) &&& (256 * mm 85 n + 85)) = _
  rw [e1, and256 (by omega) (by decide), and256 hb (by decide)]
  have h1 := t85 ⟨b, hb⟩ ⟨y % 2, by omega⟩
  have h2 := (tb2 ⟨b, hb⟩).1
  simp only at h1 h2
  unfold f1 at h2
  rw [h1, ← h2]
  omega
theorem f2_succ {n y b : Nat} (hb : b < 256) : f2 (n + 1) (256 * y + b) = 256 * f2 n y + f2 1 b := by
  have e1 : (256 * y + b) / 4 = 256 * (y / 4) + (64 * (y % 4) + b / 4) := by omega
  unfold f2
  show (((256 * y + b) / 4) &&& (256 * mm 51 n + 51)) + ((256 * y + b) &&& (256 * mm 51 n + 51)) = _
  rw [e1, and256 (by omega) (by decide), and256 hb (by decide)]
  have h1 := t51 ⟨b, hb⟩ ⟨y % 4, by omega⟩
  have h2 := (tb2 ⟨b, hb⟩).2.1
  simp only at h1 h2
  unfold f2 at h2
  rw [h1, ← h2]
  omega
theorem f3_succ {n y b : Nat} (hb : b < 69) (hy : y % 16 ≤ 4) : f3 (n + 1) (256 * y + b) = 256 * f3 n y + f3 1 b := by
  have e1 : (256 * y + b) / 16 + (256 * y + b) = 256 * (y / 16 + y) + (16 * (y % 16) + b / 16 + b) := by omega
  unfold f3
  show ((256 * y + b) / 16 + (256 * y + b)) &&& (256 * mm 15 n + 15) = _
  rw [e1, and256 (by omega) (by decide)]
  have h1 := t15 ⟨b, hb⟩ ⟨y % 16, by omega⟩
  have h2 := (tb2 ⟨b, by omega⟩).2.2
  simp only at h1 h2
  unfold f3 at h2
  rw [h1, ← h2]
theorem f_all : ∀ (n x : Nat), f1 n x < 256 ^ n ∧ f2 n (f1 n x) ≤ mm 68 n ∧ f2 n (f1 n x) % 16 ≤ 4 ∧ f3 n (f2 n (f1 n x)) = tn n x
  | 0, x => by simp [f1, f2, f3, mm, tn]
  | n + 1, x => by
    obtain ⟨h1, h2, h3, h4⟩ := f_all n (x / 256)
    have hx : x = 256 * (x / 256) + x % 256 := by omega
    have hb : x % 256 < 256 := by omega
    obtain ⟨b1, b2, b3, b4, _⟩ := tb ⟨x % 256, hb⟩
    simp only at b1 b2 b3 b4
    have e1 : f1 (n + 1) x = 256 * f1 n (x / 256) + f1 1 (x % 256) := by
      conv => lhs; rw [hx]
      exact f1_succ hb
    have e2 := f2_succ (n := n) (y := f1 n (x / 256)) b1
    have e3 := f3_succ (n := n) (y := f2 n (f1 n (x / 256))) b2 h3
    rw [e1, e2, e3, h4, b4]
    refine ⟨?_, ?_, by omega, rfl⟩
    · rw [Nat.pow_succ]
      omega
    · unfold mm
      omega
theorem tn8 (x : Nat) : ∃ s0 s1 s2 s3 s4 s5 s6 s7 : Nat, tn 8 x = s0 + 256 * s1 + 65536 * s2 + 16777216 * s3 + 4294967296 * s4 + 1099511627776 * s5 + 281474976710656 * s6 + 72057594037927936 * s7 ∧ (s0 ≤ 8 ∧ s1 ≤ 8 ∧ s2 ≤ 8 ∧ s3 ≤ 8 ∧ s4 ≤ 8 ∧ s5 ≤ 8 ∧ s6 ≤ 8 ∧ s7 ≤ 8) ∧ s0 = pc (x % 256) ∧ s1 = pc (x / 256 % 256) ∧ s2 = pc (x / 256 / 256 % 256) ∧ s3 = pc (x / 256 / 256 / 256 % 256) ∧ s4 = pc (x / 256 / 256 / 256 / 256 % 256) ∧ s5 = pc (x / 256 / 256 / 256 / 256 / 256 % 256) ∧ s6 = pc (x / 256 / 256 / 256 / 256 / 256 / 256 % 256) ∧ s7 = pc (x / 256 / 256 / 256 / 256 / 256 / 256 / 256 % 256) := by
  have hp : ∀ y, pc (y % 256) ≤ 8 := fun y => (tb ⟨y % 256, by omega⟩).2.2.2.2
  refine ⟨_, _, _, _, _, _, _, _, ?_, ⟨hp _, hp _, hp _, hp _, hp _, hp _, hp _, hp _⟩, rfl, rfl, rfl, rfl, rfl, rfl, rfl, rfl⟩
  simp only [tn]
  omega
def cnt (g : Nat → Bool) (n : Nat) : Nat := ((List.range n).filter g).length
theorem cnt_add (g : Nat → Bool) (m n : Nat) : cnt g (m + n) = cnt g m + cnt (fun k => g (m + k)) n := by
  unfold cnt
  rw [List.range_add, List.filter_append, List.length_append, List.filter_map, List.length_map]
  rfl
theorem cnt_congr {f g : Nat → Bool} {n : Nat} (h : ∀ k, k < n → f k = g k) : cnt f n = cnt g n := by
  unfold cnt
  rw [List.filter_congr fun k hk => h k (List.mem_range.1 hk)]
theorem div_bit (x k : Nat) : (x / 256).testBit k = x.testBit (k + 8) := by
  rw [show (256 : Nat) = 2 ^ 8 from by decide, Nat.testBit_div_two_pow]
theorem pc_low (x : Nat) : pc (x % 256) = cnt (fun k => x.testBit k) 8 := by
  refine cnt_congr fun k hk => ?_
  rw [show (256 : Nat) = 2 ^ 8 from by decide, Nat.testBit_mod_two_pow]
  simp [hk]
theorem cnt8 (x n : Nat) : cnt (fun k => x.testBit k) (8 + n) = pc (x % 256) + cnt (fun k => (x / 256).testBit k) n := by
  rw [cnt_add, pc_low]
  congr 1
  refine cnt_congr fun k _ => ?_
  rw [div_bit, Nat.add_comm]
theorem and127 {x : Nat} (h : x < 9223372036854775808) : bAnd .i64 (IntKind.i64.wrap (x : Int)) 127 = ((x % 128 : Nat) : Int) := by
  rw [w64 (by omega) (by omega)]
  unfold bAnd
  show IntKind.i64.wrap (((BitVec.ofInt 64 (x : Int) &&& BitVec.ofInt 64 127).toNat : Nat) : Int) = _
  rw [show (127 : Int) = ((127 : Nat) : Int) from rfl, ofInt_nat, ofInt_nat, BitVec.toNat_and, BitVec.toNat_ofNat, BitVec.toNat_ofNat, Nat.mod_eq_of_lt (by omega), Nat.mod_eq_of_lt (by decide), show (127 : Nat) = 2 ^ 7 - 1 from rfl, Nat.and_two_pow_sub_one_eq_mod]
  rw [w64 (by omega) (by omega)]
theorem shr_of {x : Nat} {k : Int} {m : Nat} (hk : k = (m : Int)) (hm : m ≤ 64) : shR .u64 (x : Int) k = ((x / 2 ^ m : Nat) : Int) := by rw [hk]; exact shr64n hm
theorem dv {X A r m : Nat} (h : X = m * A + r) (hr : r < m) : X / m = A := by
  rw [h, Nat.mul_add_div (by omega), Nat.div_eq_of_lt hr, Nat.add_zero]
def fd (x : Nat) : Nat := x + x / 256
def fe (x : Nat) : Nat := x + x / 65536
def fg (x : Nat) : Nat := (x + x / 4294967296) % 128
theorem fold8 {s0 s1 s2 s3 s4 s5 s6 s7 : Nat} (hs : s0 ≤ 8 ∧ s1 ≤ 8 ∧ s2 ≤ 8 ∧ s3 ≤ 8 ∧ s4 ≤ 8 ∧ s5 ≤ 8 ∧ s6 ≤ 8 ∧ s7 ≤ 8) : fg (fe (fd (s0 + 256 * s1 + 65536 * s2 + 16777216 * s3 + 4294967296 * s4 + 1099511627776 * s5 + 281474976710656 * s6 + 72057594037927936 * s7))) = s0 + (s1 + (s2 + (s3 + (s4 + (s5 + (s6 + s7)))))) := by
  have d1 : fd (s0 + 256 * s1 + 65536 * s2 + 16777216 * s3 + 4294967296 * s4 + 1099511627776 * s5 + 281474976710656 * s6 + 72057594037927936 * s7) = (s0 + s1) + 256 * (s1 + s2) + 65536 * (s2 + s3) + 16777216 * (s3 + s4) + 4294967296 * (s4 + s5) + 1099511627776 * (s5 + s6) + 281474976710656 * (s6 + s7) + 72057594037927936 * s7 := by
    unfold fd
    rw [dv (X := (s0 + 256 * s1 + 65536 * s2 + 16777216 * s3 + 4294967296 * s4 + 1099511627776 * s5 + 281474976710656 * s6 + 72057594037927936 * s7)) (A := s1 + 256 * s2 + 65536 * s3 + 16777216 * s4 + 4294967296 * s5 + 1099511627776 * s6 + 281474976710656 * s7) (r := s0) (m := 256) (by omega) (by omega)]
    omega
  rw [d1]
  have d2 : fe ((s0 + s1) + 256 * (s1 + s2) + 65536 * (s2 + s3) + 16777216 * (s3 + s4) + 4294967296 * (s4 + s5) + 1099511627776 * (s5 + s6) + 281474976710656 * (s6 + s7) + 72057594037927936 * s7) = (s0 + s1 + s2 + s3) + 256 * (s1 + s2 + s3 + s4) + 65536 * (s2 + s3 + s4 + s5) + 16777216 * (s3 + s4 + s5 + s6) + 4294967296 * (s4 + s5 + s6 + s7) + 1099511627776 * (s5 + s6 + s7) + 281474976710656 * (s6 + s7) + 72057594037927936 * s7 := by
    unfold fe
    rw [dv (A := (s2 + s3) + 256 * (s3 + s4) + 65536 * (s4 + s5) + 16777216 * (s5 + s6) + 4294967296 * (s6 + s7) + 1099511627776 * s7) (r := (s0 + s1) + 256 * (s1 + s2)) (m := 65536) (by omega) (by omega)]
    omega
  rw [d2]
  unfold fg
  rw [dv (A := (s4 + s5 + s6 + s7) + 256 * (s5 + s6 + s7) + 65536 * (s6 + s7) + 16777216 * s7) (r := (s0 + s1 + s2 + s3) + 256 * (s1 + s2 + s3 + s4) + 65536 * (s2 + s3 + s4 + s5) + 16777216 * (s3 + s4 + s5 + s6)) (m := 4294967296) (by omega) (by omega)]
  omega
theorem ones_eq {fu x : Nat} (h : x < 2 ^ 64) : bits_OnesCount64.f fu (x : Int) = some ((cnt (fun k => x.testBit k) 64 : Nat) : Int) := by
  obtain ⟨h1, h2, _, h3⟩ := f_all 8 x
  obtain ⟨s0, s1, s2, s3, s4, s5, s6, s7, ht, hs, q0, q1, q2, q3, q4, q5, q6, q7⟩ := tn8 x
  have hm : mm 85 8 = 6148914691236517205 ∧ mm 51 8 = 3689348814741910323 ∧ mm 15 8 = 1085102592571150095 ∧ mm 68 8 = 4919131752989213764 := by decide
  have hc : cnt (fun k => x.testBit k) 64 = s0 + (s1 + (s2 + (s3 + (s4 + (s5 + (s6 + s7)))))) := by
    rw [show 64 = 8 + 56 from rfl, cnt8, show 56 = 8 + 48 from rfl, cnt8, show 48 = 8 + 40 from rfl, cnt8, show 40 = 8 + 32 from rfl, cnt8, show 32 = 8 + 24 from rfl, cnt8, show 24 = 8 + 16 from rfl, cnt8, show 16 = 8 + 8 from rfl, cnt8, ← pc_low, q0, q1, q2, q3, q4, q5, q6, q7]
  have a1 : IntKind.u64.wrap (bAnd .u64 (shR .u64 (x : Int) 1) 6148914691236517205 + bAnd .u64 (x : Int) 6148914691236517205) = ((f1 8 x : Nat) : Int) := by
    rw [shr_of (k := 1) (m := 1) rfl (by decide), show (6148914691236517205 : Int) = ((6148914691236517205 : Nat) : Int) from rfl, and64 (by omega) (by decide), and64 h (by decide), ← Int.natCast_add, wrap_nat]
    · unfold f1
      rw [hm.1]
    · have := h1
      unfold f1 at this
      rw [hm.1] at this
      exact Nat.lt_of_lt_of_le this (by decide)
  unfold bits_OnesCount64.f
  rw [a1]
  generalize f1 8 x = y1 at *
  have hy1 : y1 < 2 ^ 64 := Nat.lt_of_lt_of_le h1 (by decide)
  have a2 : IntKind.u64.wrap (bAnd .u64 (shR .u64 (y1 : Int) 2) 3689348814741910323 + bAnd .u64 (y1 : Int) 3689348814741910323) = ((f2 8 y1 : Nat) : Int) := by
    rw [shr_of (k := 2) (m := 2) rfl (by decide), show (3689348814741910323 : Int) = ((3689348814741910323 : Nat) : Int) from rfl, and64 (by omega) (by decide), and64 hy1 (by decide), ← Int.natCast_add, wrap_nat]
    · unfold f2
      rw [hm.2.1]
    · have := h2
      unfold f2 at this
      rw [hm.2.1, hm.2.2.2] at this
      exact Nat.lt_of_le_of_lt this (by decide)
  rw [a2]
  rw [hm.2.2.2] at h2
  generalize f2 8 y1 = y2 at *
  have a3 : bAnd .u64 (IntKind.u64.wrap (shR .u64 (y2 : Int) 4 + (y2 : Int))) 1085102592571150095 = ((tn 8 x : Nat) : Int) := by
    rw [shr_of (k := 4) (m := 4) rfl (by decide), ← Int.natCast_add, wrap_nat (by rw [p64]; omega), show (1085102592571150095 : Int) = ((1085102592571150095 : Nat) : Int) from rfl, and64 (by rw [p64]; omega) (by decide), ← h3]
    unfold f3
    rw [hm.2.2.1]
  rw [a3, ht]
  have sh : ∀ (y m : Nat) (k : Int), k = (m : Int) → m ≤ 64 → y + y / 2 ^ m < 2 ^ 64 → IntKind.u64.wrap ((y : Int) + shR .u64 (y : Int) k) = ((y + y / 2 ^ m : Nat) : Int) := by
    intro y m k hk hm hy
    rw [shr_of hk hm, ← Int.natCast_add, wrap_nat hy]
  rw [sh _ 8 8 rfl (by decide) (by rw [p64]; omega), sh _ 16 16 rfl (by decide) (by rw [p64]; omega), sh _ 32 32 rfl (by decide) (by rw [p64]; omega), and127 (by omega), hc]
  clear a3 a2 a1 hc q0 q1 q2 q3 q4 q5 q6 q7 sh h3 ht hy1 h1 h2 hm h
  refine congrArg (fun n : Nat => some ((n : Nat) : Int)) ?_
  rw [show (2 : Nat) ^ 8 = 256 from by decide, show (2 : Nat) ^ 16 = 65536 from by decide, show (2 : Nat) ^ 32 = 4294967296 from by decide]
  exact fold8 hs
noncomputable def wordAt (f : Nat → Bool) (j : Nat) : Nat := wdN (fun k => f (64 * j + k)) 64
noncomputable def wordsOf (f : Nat → Bool) (m : Nat) : List Int := (List.range m).map fun j => ((wordAt f j : Nat) : Int)
noncomputable def setOf (n : Nat) (f : Nat → Bool) : S_bits_Set := ⟨(n : Int), wordsOf f ((n + 63) / 64)⟩
def els (n : Nat) (f : Nat → Bool) : List Int := ((List.range n).filter f).map fun (k : Nat) => (k : Int)
def Low (n : Nat) (f : Nat → Bool) : Prop := ∀ k, f k = true → k < n
def addF (n : Nat) (f : Nat → Bool) (l : List Int) : Nat → Bool := fun k => f k || (decide (k < n) && decide ((k : Int) ∈ l))
def dropF (f : Nat → Bool) (l : List Int) : Nat → Bool := fun k => f k && !decide ((k : Int) ∈ l)
def hasI (n : Nat) (f : Nat → Bool) (k : Int) : Bool := decide (0 ≤ k) && (decide (k < (n : Int)) && f k.toNat)
theorem words_len (f : Nat → Bool) (m : Nat) : (wordsOf f m).length = m := by simp [wordsOf]
theorem words_ix {f : Nat → Bool} {m j : Nat} (h : j < m) : ix (wordsOf f m) (j : Int) = ((wordAt f j : Nat) : Int) := by
  rw [ix_nat (by rw [words_len]; exact h)]
  simp [wordsOf]
theorem word_congr {f g : Nat → Bool} {j : Nat} (h : ∀ k, k < 64 → f (64 * j + k) = g (64 * j + k)) : wordAt f j = wordAt g j := wdN_congr h
theorem words_congr {f g : Nat → Bool} {m : Nat} (h : ∀ k, k < 64 * m → f k = g k) : wordsOf f m = wordsOf g m := by
  unfold wordsOf
  apply List.map_congr_left
  intro j hj
  have := List.mem_range.1 hj
  rw [word_congr fun k hk => h _ (by omega)]
theorem set_congr {f g : Nat → Bool} {n : Nat} (h : ∀ k, f k = g k) : setOf n f = setOf n g := by
  rw [show f = g from funext h]
theorem words_set {f : Nat → Bool} {m k : Nat} {v : Nat} (hk : k / 64 < m) (g : Nat → Bool) (hv : v = wordAt g (k / 64)) (hg : ∀ i, i / 64 ≠ k / 64 → g i = f i) : (wordsOf f m).set (k / 64) ((v : Nat) : Int) = wordsOf g m := by
  apply List.ext_getElem (by simp [wordsOf])
  intro j h1 h2
  rw [List.getElem_set]
  simp only [wordsOf, List.getElem_map, List.getElem_range]
  by_cases e : k / 64 = j
  · rw [if_pos e, hv, e]
  · rw [if_neg e, word_congr fun i hi => (hg (64 * j + i) (by omega)).symm]
theorem tdiv64 (k : Nat) : Int.tdiv (k : Int) 64 = ((k / 64 : Nat) : Int) := by
  rw [Int.tdiv_eq_ediv_of_nonneg (by omega)]
  omega
theorem tmod64 (k : Nat) : Int.tmod (k : Int) 64 = ((k % 64 : Nat) : Int) := by
  rw [Int.tmod_eq_emod_of_nonneg (by omega)]
  omega
theorem may_b {fu : Nat} {s : S_bits_Set} {k : Int} : bits_Set_may.f fu s k = some (decide (0 ≤ k) && decide (k < s.size)) := by
  unfold bits_Set_may.f
  by_cases h : k ≥ 0
  · have h' : 0 ≤ k := h
    simp [h']
  · have h' : ¬ 0 ≤ k := h
    simp [h']
theorem has_eq {fu n : Nat} {f : Nat → Bool} {k : Int} (hn : n ≤ 100000) : bits_Set_Has.f fu (setOf n f) k = some (hasI n f k) := by
  unfold bits_Set_Has.f hasI
  rw [may_b]
  simp only [Option.bind_some]
  by_cases h : 0 ≤ k ∧ k < (n : Int)
  · obtain ⟨j, rfl⟩ : ∃ j : Nat, k = (j : Int) := ⟨k.toNat, by omega⟩
    have hj : j / 64 < (n + 63) / 64 := by omega
    rw [show (setOf n f).size = (n : Int) from rfl, decide_eq_true h.1, decide_eq_true h.2, Bool.true_and, if_pos rfl, tdiv64, tmod64, w64 (by omega) (by omega), show (setOf n f).words = wordsOf f ((n + 63) / 64) from rfl, words_ix hj, if_pos ⟨by omega, by rw [words_len]; omega⟩, if_pos (by omega)]
    have := has_wd (g := fun r => f (64 * (j / 64) + r)) (r := j % 64) (by omega)
    unfold wordAt
    rw [this]
    simp only [Bool.true_and, Int.toNat_natCast]
    rw [show 64 * (j / 64) + j % 64 = j by omega]
  · rw [show (setOf n f).size = (n : Int) from rfl]
    by_cases h0 : 0 ≤ k
    · rw [decide_eq_true h0, decide_eq_false (fun q => h ⟨h0, q⟩)]
      rfl
    · rw [decide_eq_false h0]
      rfl
theorem one_eq {n : Nat} {f : Nat → Bool} {x : Int} {fu : Nat} (hn : n ≤ 100000) (op : Int → Int → Int) (g : Bool → Bool → Bool) (hop : ∀ (g' : Nat → Bool) (r : Nat), r < 64 → op ((wdN g' 64 : Nat) : Int) (shL .u64 1 (r : Int)) = ((wdN (fun k => g (g' k) (decide (k = r))) 64 : Nat) : Int)) (hg : ∀ b, g b false = b) :
    ((if (decide (0 ≤ x) && decide (x < (n : Int))) = true then if 0 ≤ (IntKind.i64.wrap (Int.tdiv x 64)) ∧ (IntKind.i64.wrap (Int.tdiv x 64)) < (List.length (wordsOf f ((n + 63) / 64)) : Int) then if 0 ≤ (Int.tmod x 64) then if 0 ≤ (IntKind.i64.wrap (Int.tdiv x 64)) ∧ (IntKind.i64.wrap (Int.tdiv x 64)) < (List.length (wordsOf f ((n + 63) / 64)) : Int) then some ((List.set (wordsOf f ((n + 63) / 64)) (Int.toNat (IntKind.i64.wrap (Int.tdiv x 64))) (op (ix (wordsOf f ((n + 63) / 64)) (IntKind.i64.wrap (Int.tdiv x 64))) (shL .u64 1 (Int.tmod x 64))))) else none else none else none else some (wordsOf f ((n + 63) / 64))) : Option (List Int)) =
      some (wordsOf (fun k => g (f k) (decide (k < n) && decide ((k : Int) = x))) ((n + 63) / 64)) := by
  by_cases h : 0 ≤ x ∧ x < (n : Int)
  · obtain ⟨j, rfl⟩ : ∃ j : Nat, x = (j : Int) := ⟨x.toNat, by omega⟩
    have hj : j / 64 < (n + 63) / 64 := by omega
    rw [decide_eq_true h.1, decide_eq_true h.2, Bool.true_and, if_pos rfl, tdiv64, tmod64, w64 (by omega) (by omega), if_pos ⟨by omega, by rw [words_len]; omega⟩, if_pos (by omega), if_pos ⟨by omega, by rw [words_len]; omega⟩, words_ix hj, Int.toNat_natCast]
    unfold wordAt
    rw [hop _ _ (by omega)]
    refine congrArg some (words_set hj _ ?_ ?_)
    rotate_left
    · intro i hi
      have : ¬ ((i : Int) = (j : Int)) := by omega
      simp [this, hg]
    · unfold wordAt
      refine wdN_congr fun k hk => ?_
      congr 1
      by_cases e : k = j % 64
      · have e1 : 64 * (j / 64) + k = j := by omega
        have e2 : j < n := by omega
        rw [e1, decide_eq_true e2, decide_eq_true e, decide_eq_true (rfl : (j : Int) = (j : Int))]
        rfl
      · have e1 : ¬ ((64 * (j / 64) + k : Nat) : Int) = (j : Int) := by omega
        simp only [e, e1, decide_false, Bool.and_false]
  · have hb : (decide (0 ≤ x) && decide (x < (n : Int))) = false := by
      by_cases h0 : 0 ≤ x
      · rw [decide_eq_false (fun q => h ⟨h0, q⟩), Bool.and_false]
      · rw [decide_eq_false h0, Bool.false_and]
    rw [hb, if_neg (by decide)]
    refine congrArg some (words_congr fun k _ => ?_)
    have : (decide (k < n) && decide ((k : Int) = x)) = false := by
      by_cases e : (k : Int) = x
      · have : ¬ k < n := by omega
        simp [this]
      · simp [e]
    rw [this, hg]
theorem add_eq {fu n : Nat} {f : Nat → Bool} {l : List Int} (hn : n ≤ 100000) (hl : l.length ≤ 100000) (hf : l.length < fu) : bits_Set_Add.f fu (setOf n f) l = some (setOf n (addF n f l)) := by
  unfold bits_Set_Add.f
  have : loopM (bits_Set_Add.s0 fu (setOf n f) l) fu (0, (setOf n f).words) = some (wordsOf (addF n f l) ((n + 63) / 64)) := by
    refine loopM_run (S := fun j => ((j : Int), wordsOf (addF n f (l.take j)) ((n + 63) / 64))) l.length ?_ ?_ ?_ hf
    · simp only [show wordsOf (addF n f (l.take 0)) ((n + 63) / 64) = wordsOf f ((n + 63) / 64) from words_congr fun k _ => by simp [addF]]
      rfl
    · intro j hj
      unfold bits_Set_Add.s0
      have c1 : 0 ≤ (j : Int) ∧ (j : Int) < (l.length : Int) := by omega
      simp only
      rw [decide_eq_true c1.2, if_pos rfl, if_pos c1, ix_nat hj, may_b, next64 hj (by omega)]
      simp only [Option.bind_some]
      rw [show (setOf n f).size = (n : Int) from rfl, one_eq (fu := fu) hn (bOr .u64) (fun a b => a || b) (fun g r hr => or_wd hr) (by simp)]
      simp only [Option.bind_some]
      rw [words_congr fun k _ => show _ = addF n f (l.take (j + 1)) k from ?_]
      simp only [addF, take_next hj, List.mem_append, List.mem_singleton]
      cases f k <;> cases decide (k < n) <;> simp
    · unfold bits_Set_Add.s0
      rw [decide_eq_false (show ¬ ((l.length : Int) < (l.length : Int)) by omega), if_neg (by decide), List.take_length]
  rw [this]
  rfl
theorem dropp_eq {fu n : Nat} {f : Nat → Bool} {l : List Int} (hn : n ≤ 100000) (hl : l.length ≤ 100000) (hf : l.length < fu) (hlow : Low n f) : bits_Set_Drop.f fu (setOf n f) l = some (setOf n (dropF f l)) := by
  unfold bits_Set_Drop.f
  have : loopM (bits_Set_Drop.s0 fu (setOf n f) l) fu (0, (setOf n f).words) = some (wordsOf (dropF f l) ((n + 63) / 64)) := by
    refine loopM_run (S := fun j => ((j : Int), wordsOf (dropF f (l.take j)) ((n + 63) / 64))) l.length ?_ ?_ ?_ hf
    · simp only [show wordsOf (dropF f (l.take 0)) ((n + 63) / 64) = wordsOf f ((n + 63) / 64) from words_congr fun k _ => by simp [dropF]]
      rfl
    · intro j hj
      unfold bits_Set_Drop.s0
      have c1 : 0 ≤ (j : Int) ∧ (j : Int) < (l.length : Int) := by omega
      simp only
      rw [decide_eq_true c1.2, if_pos rfl, if_pos c1, ix_nat hj, may_b, next64 hj (by omega)]
      simp only [Option.bind_some]
      rw [show (setOf n f).size = (n : Int) from rfl, one_eq (fu := fu) hn (bNot .u64) (fun a b => a && !b) (fun g r hr => not_wd hr) (by simp)]
      simp only [Option.bind_some]
      rw [words_congr fun k _ => show _ = dropF f (l.take (j + 1)) k from ?_]
      simp only [dropF, take_next hj, List.mem_append, List.mem_singleton]
      by_cases hk : k < n
      · cases f k <;> simp [hk]
      · have : f k = false := by
          cases e : f k
          · rfl
          · exact absurd (hlow k e) hk
        simp [this]
    · unfold bits_Set_Drop.s0
      rw [decide_eq_false (show ¬ ((l.length : Int) < (l.length : Int)) by omega), if_neg (by decide), List.take_length]
  rw [this]
  rfl
theorem cnt_low {f : Nat → Bool} {n m : Nat} (h : Low n f) (hm : n ≤ m) : cnt f m = cnt f n := by
  obtain ⟨k, rfl⟩ : ∃ k, m = n + k := ⟨m - n, by omega⟩
  rw [cnt_add]
  have : cnt (fun k => f (n + k)) k = 0 := by
    unfold cnt
    rw [List.length_eq_zero_iff, List.filter_eq_nil_iff]
    intro i _ hi
    have := h _ hi
    omega
  omega
theorem count_eq {fu n : Nat} {f : Nat → Bool} (hn : n ≤ 100000) (hf : n < fu) (hlow : Low n f) : bits_Set_Count.f fu (setOf n f) = some ((cnt f n : Nat) : Int) := by
  unfold bits_Set_Count.f
  have hle : ∀ j, cnt f (64 * j) ≤ 64 * j := fun j => by
    unfold cnt
    exact Nat.le_trans (List.length_filter_le _ _) (by simp)
  have : loopM (bits_Set_Count.s0 fu (setOf n f)) fu (0, 0) = some ((cnt f (64 * ((n + 63) / 64)) : Nat) : Int) := by
    refine loopM_run (S := fun j => (((cnt f (64 * j) : Nat) : Int), (j : Int))) ((n + 63) / 64) (by simp [cnt]) ?_ ?_ (by omega)
    · intro j hj
      unfold bits_Set_Count.s0
      have hw : (setOf n f).words = wordsOf f ((n + 63) / 64) := rfl
      have c1 : 0 ≤ (j : Int) ∧ (j : Int) < ((wordsOf f ((n + 63) / 64)).length : Int) := by rw [words_len]; omega
      simp only [hw]
      rw [decide_eq_true c1.2, if_pos rfl, if_pos c1, words_ix hj, show bits_OnesCount64.f fu ((wordAt f j : Nat) : Int) = _ from ones_eq (wdN_lt _ 64), next64 hj (by omega)]
      simp only [Option.bind_some]
      have hc : cnt (fun k => (wordAt f j).testBit k) 64 = cnt (fun k => f (64 * j + k)) 64 := by
        refine cnt_congr fun k hk => ?_
        unfold wordAt
        rw [wdN_bit]
        simp [hk]
      have h1 := hle j
      have h2 := hle (j + 1)
      rw [hc, ← Int.natCast_add, ← cnt_add, show 64 * j + 64 = 64 * (j + 1) by omega, w64 (by omega) (by omega)]
    · unfold bits_Set_Count.s0
      have hw : (setOf n f).words = wordsOf f ((n + 63) / 64) := rfl
      simp only [hw]
      rw [words_len, decide_eq_false (by omega), if_neg (by decide)]
  rw [this, cnt_low hlow (by omega)]
  rfl
theorem filter_first {p q : Nat → Bool} {k n : Nat} (hk : k < n) (h1 : ∀ j, j < k → p j = false) (h2 : p k = true) (h3 : ∀ j, k < j → p j = q j) (h4 : ∀ j, j ≤ k → q j = false) : (List.range n).filter p = k :: (List.range n).filter q := by
  obtain ⟨m, rfl⟩ : ∃ m, n = k + 1 + m := ⟨n - (k + 1), by omega⟩
  have e1 : (List.range k).filter p = [] := by
    rw [List.filter_eq_nil_iff]
    intro j hj
    rw [h1 j (List.mem_range.1 hj)]
    decide
  have e2 : (List.range (k + 1)).filter q = [] := by
    rw [List.filter_eq_nil_iff]
    intro j hj
    rw [h4 j (by have := List.mem_range.1 hj; omega)]
    decide
  rw [List.range_add, List.filter_append, List.filter_append, e2, List.range_succ, List.filter_append, e1]
  simp only [List.filter_cons, h2, if_true, List.filter_nil, List.nil_append, List.cons_append, List.cons.injEq, true_and]
  apply List.filter_congr
  intro j hj
  obtain ⟨i, _, rfl⟩ := List.mem_map.1 hj
  exact h3 _ (by omega)
theorem low_bits {k q : Nat} (h : 2 ^ k * (2 * q + 1) < 2 ^ 64) : (List.range 64).filter (fun r => (2 ^ k * (2 * q + 1)).testBit r) = k :: (List.range 64).filter (fun r => (2 ^ k * (2 * q)).testBit r) := by
  refine filter_first (low_neg h).1 (fun j hj => ?_) ?_ (fun j hj => ?_) (fun j hj => ?_)
  · rw [tb0, if_pos hj]
  · rw [tb0, if_neg (by omega), Nat.sub_self, Nat.testBit_zero]
    simp
  · rw [tb0, tb0, if_neg (by omega), if_neg (by omega)]
    obtain ⟨m, hm⟩ : ∃ m, j - k = m + 1 := ⟨j - k - 1, by omega⟩
    rw [hm, Nat.testBit_succ, Nat.testBit_succ, show (2 * q + 1) / 2 = q by omega, show 2 * q / 2 = q by omega]
  · rw [tb0]
    split
    · rfl
    · rw [show j - k = 0 by omega, Nat.testBit_zero]
      simp
theorem list_in {fu i : Nat} {s : List Int × Int} (hs : s.2 = (i : Int)) (hi : i ≤ 100000) : ∀ (c x k : Nat) (acc : List Int), x < 2 ^ 64 → ((List.range 64).filter fun r => x.testBit r).length = c → c < k → acc.length + c ≤ 1000000 →
    loopM (bits_Set_List.s1 fu s) k (acc, (x : Int)) = some (acc ++ ((List.range 64).filter fun r => x.testBit r).map fun r => ((64 * i + r : Nat) : Int))
  | c, x, 0, acc, hx, hc, hk, ha => by omega
  | c, x, k + 1, acc, hx, hc, hk, ha => by
    unfold loopM
    by_cases e : x = 0
    · subst e
      have : bits_Set_List.s1 fu s (acc, ((0 : Nat) : Int)) = some (.inl acc) := by
        unfold bits_Set_List.s1
        rfl
      rw [this]
      simp
    · obtain ⟨t, q, hx'⟩ := low_split e
      rw [hx'] at hx hc ⊢
      have hl := low_bits hx
      have ht := (low_neg hx).1
      have h0 : ¬ ((2 ^ t * (2 * q + 1) : Nat) : Int) = 0 := by
        intro z
        rw [← hx'] at z
        omega
      have hpos : 0 < 2 ^ t * (2 * q + 1) := by omega
      have hlt : 2 ^ t * (2 * q) < 2 ^ 64 := Nat.lt_of_le_of_lt (Nat.mul_le_mul_left _ (by omega)) hx
      have hw : IntKind.u64.wrap (((2 ^ t * (2 * q + 1) : Nat) : Int) - 1) = ((2 ^ t * (2 * q + 1) - 1 : Nat) : Int) := by
        have : ((2 ^ t * (2 * q + 1) : Nat) : Int) - 1 = ((2 ^ t * (2 * q + 1) - 1 : Nat) : Int) := by omega
        rw [this]
        exact wrap_nat (by omega)
      have hst : bits_Set_List.s1 fu s (acc, ((2 ^ t * (2 * q + 1) : Nat) : Int)) = some (.inr (acc ++ [((64 * i + t : Nat) : Int)], ((2 ^ t * (2 * q) : Nat) : Int))) := by
        unfold bits_Set_List.s1
        simp only
        rw [decide_eq_false h0, Bool.not_false, if_pos rfl, tz_eq hx]
        simp only [Option.bind_some]
        rw [hs, w64 (n := (i : Int) * 64) (by omega) (by omega), w64 (by omega) (by omega), hw, and64 hx (by omega), low_and, show (i : Int) * 64 + (t : Int) = ((64 * i + t : Nat) : Int) by omega]
        rw [if_pos (Nat.le_trans (by simp only [List.length_cons, List.length_nil]; omega : _ ≤ 1000001) (by decide))]
      rw [hst, hl]
      rw [hl, List.length_cons] at hc
      have ih := list_in (fu := fu) hs hi (c - 1) (2 ^ t * (2 * q)) k (acc ++ [((64 * i + t : Nat) : Int)]) hlt (by omega) (by omega) (by simp only [List.length_append, List.length_cons, List.length_nil]; omega)
      simp only
      rw [ih]
      simp
theorem els_add (f : Nat → Bool) (m n : Nat) : els (m + n) f = els m f ++ ((List.range n).filter fun k => f (m + k)).map fun k => ((m + k : Nat) : Int) := by
  unfold els
  rw [List.range_add, List.filter_append, List.map_append, List.filter_map, List.map_map]
  rfl
theorem els_len (n : Nat) (f : Nat → Bool) : (els n f).length = cnt f n := by simp [els, cnt]
theorem els_low {f : Nat → Bool} {n m : Nat} (h : Low n f) (hm : n ≤ m) : els m f = els n f := by
  obtain ⟨k, rfl⟩ : ∃ k, m = n + k := ⟨m - n, by omega⟩
  rw [els_add]
  have : (List.range k).filter (fun k => f (n + k)) = [] := by
    rw [List.filter_eq_nil_iff]
    intro i _ hi
    have := h _ hi
    omega
  rw [this]
  simp
theorem cnt_le (f : Nat → Bool) (n : Nat) : cnt f n ≤ n := by
  unfold cnt
  exact Nat.le_trans (List.length_filter_le _ _) (by simp)
theorem list_eq {fu n : Nat} {f : Nat → Bool} (hn : n ≤ 100000) (hf : n + 64 < fu) (hlow : Low n f) : bits_Set_List.f fu (setOf n f) = some (els n f) := by
  unfold bits_Set_List.f
  have : loopM (bits_Set_List.s0 fu (setOf n f)) fu ([], 0) = some (els (64 * ((n + 63) / 64)) f) := by
    refine loopM_run (S := fun j => (els (64 * j) f, (j : Int))) ((n + 63) / 64) (by simp [els]) ?_ ?_ (by omega)
    · intro j hj
      unfold bits_Set_List.s0
      have hw : (setOf n f).words = wordsOf f ((n + 63) / 64) := rfl
      have c1 : 0 ≤ (j : Int) ∧ (j : Int) < ((wordsOf f ((n + 63) / 64)).length : Int) := by rw [words_len]; omega
      simp only [hw]
      have hb : ((List.range 64).filter fun r => (wordAt f j).testBit r) = (List.range 64).filter fun r => f (64 * j + r) := by
        apply List.filter_congr
        intro r hr
        unfold wordAt
        rw [wdN_bit]
        simp [List.mem_range.1 hr]
      have hle : ((List.range 64).filter fun r => (wordAt f j).testBit r).length ≤ 64 := Nat.le_trans (List.length_filter_le _ _) (by simp)
      have hel : (els (64 * j) f).length ≤ 64 * j := by rw [els_len]; exact cnt_le _ _
      rw [decide_eq_true c1.2, if_pos rfl, if_pos c1, words_ix hj, list_in (fu := fu) (i := j) (s := (els (64 * j) f, (j : Int))) rfl (by omega) _ (wordAt f j) fu (els (64 * j) f) (wdN_lt _ 64) rfl (by omega) (by omega), next64 hj (by omega)]
      simp only [Option.bind_some]
      rw [hb, ← els_add, show 64 * j + 64 = 64 * (j + 1) by omega]
    · unfold bits_Set_List.s0
      have hw : (setOf n f).words = wordsOf f ((n + 63) / 64) := rfl
      simp only [hw]
      rw [words_len, decide_eq_false (by omega), if_neg (by decide)]
  rw [this, els_low hlow (by omega)]
  rfl
theorem mem_els {n k : Nat} {f : Nat → Bool} : (k : Int) ∈ els n f ↔ k < n ∧ f k = true := by
  unfold els
  rw [List.mem_map]
  constructor
  · rintro ⟨i, hi, e⟩
    have : i = k := by omega
    subst this
    obtain ⟨h1, h2⟩ := List.mem_filter.1 hi
    exact ⟨List.mem_range.1 h1, h2⟩
  · rintro ⟨h1, h2⟩
    exact ⟨k, List.mem_filter.2 ⟨List.mem_range.2 h1, h2⟩, rfl⟩
theorem clone_eq {fu n : Nat} {f : Nat → Bool} (hn : n ≤ 100000) : bits_Set_clone.f fu (setOf n f) = some (setOf n f) := by
  unfold bits_Set_clone.f slices_Clone.f
  rw [show (setOf n f).words = wordsOf f ((n + 63) / 64) from rfl, words_len, if_pos (Nat.le_trans (by omega : _ ≤ 1000000) (by decide))]
  rfl
theorem with_eq {fu n : Nat} {f g : Nat → Bool} (hn : n ≤ 90000) (hf : n + 64 < fu) (hg : Low n g) : bits_Set_With.f fu (setOf n f) (setOf n g) = some (setOf n fun k => f k || g k) := by
  unfold bits_Set_With.f
  have hl := cnt_le g n
  rw [clone_eq (by omega), list_eq (by omega) hf hg]
  simp only [Option.bind_some]
  rw [add_eq (by omega) (by rw [els_len]; omega) (by rw [els_len]; omega)]
  refine congrArg some (set_congr fun k => ?_)
  unfold addF
  congr 1
  rw [Bool.eq_iff_iff]
  simp only [Bool.and_eq_true, decide_eq_true_eq, mem_els]
  exact ⟨fun h => h.2.2, fun h => ⟨hg k h, hg k h, h⟩⟩
theorem with1_eq {fu n : Nat} {f : Nat → Bool} (hn : n ≤ 90000) (hf : n + 64 < fu) (hg : Low n f) : bits_Set_With_a1.f fu (setOf n f) = some (setOf n f) := by
  have h := with_eq (fu := fu) (f := f) hn hf hg
  unfold bits_Set_With.f at h
  unfold bits_Set_With_a1.f
  rw [h]
  refine congrArg some (set_congr fun k => ?_)
  simp
theorem gap_eq {fu n k : Nat} {f : Nat → Bool} (hn : n ≤ 100000) (hf : n < fu) (hk : k < n) (h0 : f k = false) (h1 : ∀ i, i < k → f i = true) : bits_Set_Gap.f fu (setOf n f) 0 = some (k : Int) := by
  unfold bits_Set_Gap.f
  have : loopM (bits_Set_Gap.s0 fu (setOf n f)) fu (mxI 0 0) = some (.inl (k : Int)) := by
    refine loopM_run (S := fun j => ((j : Nat) : Int)) k (by rfl) ?_ ?_ (by omega)
    · intro j hj
      unfold bits_Set_Gap.s0
      rw [show (setOf n f).size = (n : Int) from rfl, decide_eq_true (by omega), if_pos rfl, has_eq hn, next64 (n := n) (by omega) hn]
      have : hasI n f (j : Int) = true := by
        unfold hasI
        rw [decide_eq_true (by omega), decide_eq_true (by omega), Int.toNat_natCast, h1 j hj]
        rfl
      simp [this]
    · unfold bits_Set_Gap.s0
      rw [show (setOf n f).size = (n : Int) from rfl, decide_eq_true (by omega), if_pos rfl, has_eq hn]
      have : hasI n f (k : Int) = false := by
        unfold hasI
        rw [Int.toNat_natCast, h0]
        simp
      simp [this]
  rw [this]
  rfl
theorem of_eq {fu n : Nat} {l : List Int} (hn : n ≤ 3072) (hl : l.length ≤ 100000) (hf : l.length < fu) : bits_Of.f fu (n : Int) l = some (setOf n (addF n (fun _ => false) l)) := by
  unfold bits_Of.f
  have e1 : mnI (mxI (n : Int) 0) 3072 = (n : Int) := by
    unfold mxI mnI
    rw [if_neg (by omega)]
    split <;> omega
  have e2 : IntKind.i64.wrap (Int.tdiv (IntKind.i64.wrap ((IntKind.i64.wrap ((n : Int) + 64)) - 1)) 64) = (((n + 63) / 64 : Nat) : Int) := by
    rw [w64 (n := (n : Int) + 64) (by omega) (by omega), w64 (n := (n : Int) + 64 - 1) (by omega) (by omega), show (n : Int) + 64 - 1 = ((n + 63 : Nat) : Int) by omega, tdiv64, w64 (by omega) (by omega)]
  rw [e1, e2, if_pos ⟨by omega, Nat.le_trans (by omega : _ ≤ 100000) (by decide)⟩, Int.toNat_natCast]
  have e3 : (⟨(n : Int), List.replicate ((n + 63) / 64) (0 : Int)⟩ : S_bits_Set) = setOf n fun _ => false := by
    unfold setOf
    congr 1
    apply List.ext_getElem (by simp [wordsOf])
    intro i h1 h2
    have : wordAt (fun _ => false) i = 0 := by
      apply Nat.eq_of_testBit_eq
      intro k
      unfold wordAt
      rw [wdN_bit]
      simp
    simp [wordsOf, this]
  rw [e3, add_eq (by omega) hl hf]
  rfl
structure AA where
  r : Int
  c : Nat → Bool
  e : Nat → Bool
  m : Nat → Bool
  w : Nat → Bool
noncomputable def AA.of (n : Nat) (a : AA) : S_alloc_Alloc := ⟨a.r, (setOf n a.c, setOf n a.e, setOf n a.m, setOf n a.w)⟩
structure AOk (n : Nat) (a : AA) : Prop where
  c : Low n a.c
  e : Low n a.e
  m : Low n a.m
  w : Low n a.w
  r : 0 ≤ a.r ∧ a.r ≤ 1000
def AA.held (a : AA) : Nat → Bool := fun k => ((a.w k || a.c k) || a.e k) || a.m k
def AA.free (n : Nat) (a : AA) : List Nat := (List.range n).filter fun k => !a.held k
def AA.least (n : Nat) (a : AA) : Nat := (a.free n).headD 0
def AA.setW (a : AA) (w : Nat → Bool) : AA := ⟨a.r, a.c, a.e, a.m, w⟩
def AA.put (n : Nat) (a : AA) (k : Nat) : AA := a.setW (addF n a.w [(k : Int)])
def AA.cut (a : AA) (k : Int) : AA := a.setW (dropF a.w [k])
def AA.mark (a : AA) : AA := ⟨a.r, a.c, a.e, a.w, a.w⟩
def AA.back (a : AA) : AA := ⟨a.r, a.c, a.e, a.m, a.m⟩
def AA.commit (a : AA) : AA := ⟨a.r, a.w, a.c, a.w, a.w⟩
def AA.abort (a : AA) : AA := ⟨a.r, a.c, a.e, a.c, a.c⟩
def AA.give (n : Nat) (a : AA) (k : Int) : Int × AA := if hasI n a.w k = true then (0, a.cut k) else (2, a)
def AA.own (n : Nat) (a : AA) (k : Int) : Bool := hasI n a.w k && !hasI n a.m k
def AA.take (n : Nat) (a : AA) : Int × Int × AA := if ((a.free n).length : Int) ≤ a.r then (0, 10, a) else ((a.least n : Int), 0, a.put n (a.least n))
theorem copied_eq {fu n : Nat} {f : Nat → Bool} (hn : n ≤ 90000) (hf : n + 64 < fu) (h : Low n f) : alloc_copied.f fu (setOf n f) = some (setOf n f) := by
  unfold alloc_copied.f
  rw [with1_eq hn hf h]
  rfl
theorem Low.or {n : Nat} {f g : Nat → Bool} (hf : Low n f) (hg : Low n g) : Low n (fun k => f k || g k) := by
  intro k h
  rcases Bool.or_eq_true_iff.1 h with h | h
  · exact hf k h
  · exact hg k h
theorem addF_low {n : Nat} {f : Nat → Bool} {l : List Int} (h : Low n f) : Low n (addF n f l) := by
  intro k hk
  unfold addF at hk
  rcases Bool.or_eq_true_iff.1 hk with h' | h'
  · exact h k h'
  · exact of_decide_eq_true (Bool.and_eq_true_iff.1 h').1
theorem dropF_low {n : Nat} {f : Nat → Bool} {l : List Int} (h : Low n f) : Low n (dropF f l) := fun k hk => h k (Bool.and_eq_true_iff.1 hk).1
theorem held_low {n : Nat} {a : AA} (h : AOk n a) : Low n a.held := ((h.w.or h.c).or h.e).or h.m
theorem held_eq {fu n : Nat} {a : AA} (hn : n ≤ 90000) (hf : n + 64 < fu) (h : AOk n a) : alloc_Alloc_held.f fu (a.of n) = some (setOf n a.held) := by
  unfold alloc_Alloc_held.f AA.of
  simp only
  rw [copied_eq hn hf h.w]
  simp only [Option.bind_some]
  rw [with_eq hn hf h.c]
  simp only [Option.bind_some]
  rw [with_eq hn hf h.e]
  simp only [Option.bind_some]
  rw [with_eq hn hf h.m]
  rfl
theorem cnt_not (f : Nat → Bool) : ∀ n, cnt f n + ((List.range n).filter fun k => !f k).length = n
  | 0 => rfl
  | n + 1 => by
    have := cnt_not f n
    unfold cnt at *
    rw [List.range_succ, List.filter_append, List.filter_append, List.length_append, List.length_append]
    cases h : f n <;> simp [h] <;> omega
theorem free_len (n : Nat) (a : AA) : ((a.free n).length : Int) = (n : Int) - ((cnt a.held n : Nat) : Int) := by
  have := cnt_not a.held n
  unfold AA.free
  omega
theorem filter_head {p : Nat → Bool} : ∀ {n : Nat}, ((List.range n).filter p).length ≠ 0 → ((List.range n).filter p).headD 0 < n ∧ p (((List.range n).filter p).headD 0) = true ∧ ∀ i, i < ((List.range n).filter p).headD 0 → p i = false
  | 0, h => absurd rfl h
  | n + 1, h => by
    rw [List.range_succ, List.filter_append] at h ⊢
    cases e : (List.range n).filter p with
    | nil =>
      rw [e] at h
      have hn : ∀ i, i < n → p i = false := by
        intro i hi
        have := List.filter_eq_nil_iff.1 e i (List.mem_range.2 hi)
        simpa using this
      cases hp : p n
      · simp [hp] at h
      · have e2 : [n].filter p = [n] := by simp [hp]
        rw [e2]
        exact ⟨by simp, hp, hn⟩
    | cons x l =>
      have := filter_head (p := p) (n := n) (by rw [e]; simp)
      rw [e] at this
      simp only [List.headD_cons, List.cons_append] at this ⊢
      exact ⟨by omega, this.2⟩
theorem least_ok {n : Nat} {a : AA} (h : (a.free n).length ≠ 0) : a.least n < n ∧ a.held (a.least n) = false ∧ ∀ i, i < a.least n → a.held i = true := by
  have := filter_head (p := fun k => !a.held k) (n := n) h
  simpa [AA.least, AA.free] using this
theorem take_eq {fu n : Nat} {a : AA} (hn : n ≤ 90000) (hf : n + 64 < fu) (h : AOk n a) : alloc_Alloc_Take.f fu (a.of n) = some ((a.take n).1, (a.take n).2.1, (a.take n).2.2.of n) := by
  have hr := h.r
  have hc := cnt_le a.held n
  have hfl := free_len n a
  unfold alloc_Alloc_Take.f alloc_Alloc_take.f
  rw [held_eq hn hf h]
  simp only [Option.bind_some, bits_Set_Size.f]
  rw [count_eq (by omega) (by omega) (held_low h)]
  simp only [Option.bind_some]
  rw [show (setOf n a.held).size = (n : Int) from rfl, w64 (by omega) (by omega), ← hfl, show (a.of n).reserve = a.r from rfl]
  unfold AA.take
  by_cases e : ((a.free n).length : Int) ≤ a.r
  · rw [decide_eq_true e, if_pos rfl, if_pos e]
    rfl
  · rw [decide_eq_false e, if_neg (by decide), if_neg e]
    obtain ⟨h1, h2, h3⟩ := least_ok (n := n) (a := a) (by omega)
    rw [gap_eq (by omega) (by omega) h1 h2 h3]
    simp only [Option.bind_some]
    rw [show (a.of n).sets.2.2.2 = setOf n a.w from rfl, add_eq (by omega) (by simp) (by simp; omega)]
    rfl
theorem give_eq {fu n : Nat} {a : AA} {k : Int} (hn : n ≤ 90000) (hf : n + 64 < fu) (h : AOk n a) : alloc_Alloc_Give.f fu (a.of n) k = some ((a.give n k).1, (a.give n k).2.of n) := by
  unfold alloc_Alloc_Give.f AA.give
  rw [show (a.of n).sets.2.2.2 = setOf n a.w from rfl, has_eq (by omega)]
  simp only [Option.bind_some]
  cases hasI n a.w k
  · rfl
  · rw [if_neg (by decide), if_pos rfl, dropp_eq (by omega) (by simp) (by simp; omega) h.w]
    rfl
theorem own_eq {fu n : Nat} {a : AA} {k : Int} (hn : n ≤ 90000) : alloc_Alloc_Own.f fu (a.of n) k = some (a.own n k) := by
  unfold alloc_Alloc_Own.f AA.own
  rw [show (a.of n).sets.2.2.2 = setOf n a.w from rfl, show (a.of n).sets.2.2.1 = setOf n a.m from rfl, has_eq (by omega)]
  simp only [Option.bind_some]
  cases hasI n a.w k
  · rfl
  · rw [if_pos rfl, has_eq (by omega)]
    rfl
theorem mark_eq {fu n : Nat} {a : AA} (hn : n ≤ 90000) (hf : n + 64 < fu) (h : AOk n a) : alloc_Alloc_Mark.f fu (a.of n) = some (a.mark.of n) := by
  unfold alloc_Alloc_Mark.f alloc_Alloc_become_c2_c3.f
  rw [show (a.of n).sets.2.2.2 = setOf n a.w from rfl, copied_eq hn hf h.w]
  rfl
theorem back_eq {fu n : Nat} {a : AA} (hn : n ≤ 90000) (hf : n + 64 < fu) (h : AOk n a) : alloc_Alloc_Back.f fu (a.of n) = some (a.back.of n) := by
  unfold alloc_Alloc_Back.f alloc_Alloc_become_c3_c2.f
  rw [show (a.of n).sets.2.2.1 = setOf n a.m from rfl, copied_eq hn hf h.m]
  rfl
theorem abort_eq {fu n : Nat} {a : AA} (hn : n ≤ 90000) (hf : n + 64 < fu) (h : AOk n a) : alloc_Alloc_Abort.f fu (a.of n) = some (a.abort.of n) := by
  unfold alloc_Alloc_Abort.f alloc_Alloc_become_c3_c0.f
  rw [show (a.of n).sets.1 = setOf n a.c from rfl, copied_eq hn hf h.c]
  simp only [Option.bind_some]
  rw [show (⟨(a.of n).reserve, (setOf n a.c, (a.of n).sets.2.1, (a.of n).sets.2.2.1, setOf n a.c)⟩ : S_alloc_Alloc) = (a.setW a.c).of n from rfl, mark_eq (a := a.setW a.c) hn hf ⟨h.c, h.e, h.m, h.c, h.r⟩]
  rfl
theorem commit_eq {fu n : Nat} {a : AA} (hn : n ≤ 90000) (hf : n + 64 < fu) (h : AOk n a) : alloc_Alloc_Commit.f fu (a.of n) = some (a.commit.of n) := by
  unfold alloc_Alloc_Commit.f alloc_Alloc_become_c1_c0.f alloc_Alloc_become_c0_c3.f
  rw [show (a.of n).sets.1 = setOf n a.c from rfl, copied_eq hn hf h.c]
  simp only [Option.bind_some]
  rw [show (a.of n).sets.2.2.2 = setOf n a.w from rfl, copied_eq hn hf h.w]
  simp only [Option.bind_some]
  rw [show (⟨(a.of n).reserve, (setOf n a.w, setOf n a.c, (a.of n).sets.2.2.1, setOf n a.w)⟩ : S_alloc_Alloc) = (⟨a.r, a.w, a.c, a.m, a.w⟩ : AA).of n from rfl, mark_eq (a := ⟨a.r, a.w, a.c, a.m, a.w⟩) hn hf ⟨h.w, h.c, h.m, h.w, h.r⟩]
  rfl
theorem works_eq {fu n : Nat} {a : AA} (hn : n ≤ 90000) (hf : n + 64 < fu) (h : AOk n a) : alloc_Alloc_Works.f fu (a.of n) = some (setOf n a.w) := by
  unfold alloc_Alloc_Works.f
  rw [show (a.of n).sets.2.2.2 = setOf n a.w from rfl, copied_eq hn hf h.w]
  rfl
theorem anew_eq {fu n : Nat} {f g : Nat → Bool} {r : Int} (hn : n ≤ 90000) (hf : n + 64 < fu) (h1 : Low n f) (h2 : Low n g) (hr : 0 ≤ r) : alloc_New.f fu (setOf n f) (setOf n g) r = some (some ((⟨r, f, g, f, f⟩ : AA).of n), 0) := by
  unfold alloc_New.f bits_Set_Size.f
  simp only [Option.bind_some]
  rw [show (setOf n f).size = (n : Int) from rfl, show (setOf n g).size = (n : Int) from rfl, decide_eq_true (rfl : (n : Int) = (n : Int)), if_neg (by decide), decide_eq_false (show ¬ r < 0 by omega), if_neg (by decide), copied_eq hn hf h2, copied_eq hn hf h1]
  rfl
theorem take_ok {n : Nat} {a : AA} (h : AOk n a) : AOk n (a.take n).2.2 := by
  unfold AA.take
  split
  · exact h
  · exact ⟨h.c, h.e, h.m, addF_low h.w, h.r⟩
theorem give_ok {n : Nat} {a : AA} {k : Int} (h : AOk n a) : AOk n (a.give n k).2 := by
  unfold AA.give
  split
  · exact ⟨h.c, h.e, h.m, dropF_low h.w, h.r⟩
  · exact h
theorem mark_ok {n : Nat} {a : AA} (h : AOk n a) : AOk n a.mark := ⟨h.c, h.e, h.w, h.w, h.r⟩
theorem back_ok {n : Nat} {a : AA} (h : AOk n a) : AOk n a.back := ⟨h.c, h.e, h.m, h.m, h.r⟩
theorem abort_ok {n : Nat} {a : AA} (h : AOk n a) : AOk n a.abort := ⟨h.c, h.e, h.c, h.c, h.r⟩
theorem commit_ok {n : Nat} {a : AA} (h : AOk n a) : AOk n a.commit := ⟨h.w, h.c, h.w, h.w, h.r⟩
end Go.Proofs.YtdifnahlheogdaaDoor.Pure
