/- ShadowActs: texts merged, part 5 of 7. The last part proves that the law ShadowActs holds for every input. -/
import Derived.Test.YtdifnahlheogdaaDoorPkShadowActs4
set_option maxRecDepth 100000
set_option maxHeartbeats 4000000
set_option linter.unusedVariables false
set_option linter.unusedSimpArgs false
namespace Go.Proofs.YtdifnahlheogdaaDoor
open Go Go.Xw Go.Yw
def pmem_Device_step.f (fu : Nat) (a0 : S_pmem_Device) : Option S_pmem_Device := ((pmem_plan_next__i0_1.f fu (⟨a0.cells, a0.plan, a0.off, a0.armed, a0.left, (IntKind.i64.wrap (a0.steps + 1))⟩ : S_pmem_Device)).bind fun t1 => (if (decide (t1.1 ≥ 0)) = true then (((if (decide ((List.length t1.2.cells : Int) > 0)) = true then if (List.length t1.2.cells : Int) ≠ 0 then if 0 ≤ (Int.tmod t1.1 (List.length t1.2.cells : Int)) ∧ (Int.tmod t1.1 (List.length t1.2.cells : Int)) < (List.length t1.2.cells : Int) then ((pmem_cell_keep__i0.f fu t1.2.cells (Int.tmod t1.1 (List.length t1.2.cells : Int)) ((ix t1.2.cells (Int.tmod t1.1 (List.length t1.2.cells : Int))).stored)).bind fun t8 => some (t8)) else none else none else some (t1.2.cells)) : Option (List S_pmem_cell)).bind fun x4 => (((if t1.2.armed = true then some ((decide ((IntKind.i64.wrap (t1.2.left - 1)) = 0)), (IntKind.i64.wrap (t1.2.left - 1))) else some (t1.2.off, t1.2.left)) : Option (Bool × Int)).bind fun x10 => some ((⟨x4, t1.2.plan, x10.1, t1.2.armed, x10.2, t1.2.steps⟩ : S_pmem_Device)))) else (((if t1.2.armed = true then some ((decide ((IntKind.i64.wrap (t1.2.left - 1)) = 0)), (IntKind.i64.wrap (t1.2.left - 1))) else some (t1.2.off, t1.2.left)) : Option (Bool × Int)).bind fun x14 => some ((⟨t1.2.cells, t1.2.plan, x14.1, t1.2.armed, x14.2, t1.2.steps⟩ : S_pmem_Device)))))
theorem pmem_Device_step.sc (fu : Nat) (a0 : S_pmem_Device) (r : S_pmem_Device) (h : pmem_Device_step.f fu a0 = some r) : SC Tryd.prog CT 122 [.ptr 0 0] [.box 105 (.agg [.sl 1 4 [], .agg [.sl 2 1 [], vi .i64 a0.plan.at_], vb a0.off, vb a0.armed, vi .i64 a0.left, vi .i64 a0.steps]), .row (.st .S_pmem_cell) 125 (a0.cells : List S_pmem_cell), .row (.int .i64) 3 (a0.plan.list : List Int)] (.tup []) [.box 105 (.agg [.sl 1 4 [], .agg [.sl 2 1 [], vi .i64 r.plan.at_], vb r.off, vb r.armed, vi .i64 r.left, vi .i64 r.steps]), .row (.st .S_pmem_cell) 125 (r.cells : List S_pmem_cell), .row (.int .i64) 3 (r.plan.list : List Int)] := by
 unfold pmem_Device_step.f at h
 refine sc_of (r := r) (N := 62) (rs := []) (V := fun (r : S_pmem_Device) => .tup []) (R' := fun (r : S_pmem_Device) => [.box 105 (.agg [.sl 1 4 [], .agg [.sl 2 1 [], vi .i64 r.plan.at_], vb r.off, vb r.armed, vi .i64 r.left, vi .i64 r.steps]), .row (.st .S_pmem_cell) 125 (r.cells : List S_pmem_cell), .row (.int .i64) 3 (r.plan.list : List Int)]) cok Tryd.func122 rfl rfl rfl (by kernel_rfl) (by kernel_rfl) rfl rfl fun X => ?_
 refine bk h fun t1 k2 h => ?_
 refine cl3 cok.g (pmem_plan_next__i0_1.sc fu (⟨a0.cells, a0.plan, a0.off, a0.armed, a0.left, (IntKind.i64.wrap (a0.steps + 1))⟩ : S_pmem_Device) _ k2) (vi .i64 t1.1) [(0, .box 105 (.agg [.sl 1 4 [], .agg [.sl 2 1 [], vi .i64 t1.2.plan.at_], vb t1.2.off, vb t1.2.armed, vi .i64 t1.2.left, vi .i64 t1.2.steps])), (1, .row (.st .S_pmem_cell) 125 (t1.2.cells : List S_pmem_cell)), (2, .row (.int .i64) 3 (t1.2.plan.list : List Int))] 6 (by kernel_rfl) (by kernel_rfl) ?_
 refine t_reg cok ?_
 refine bi h (fun c3 h => ?_) (fun c3 h => ?_)
 ·skip
  refine bk h fun x4 j5 h => ?_
  refine t_cut cok (fun (x4 : (List S_pmem_cell)) => ⟨[(0, .ptr 0 0)], [.box 105 (.agg [.sl 1 4 [], .agg [.sl 2 1 [], vi .i64 t1.2.plan.at_], vb t1.2.off, vb t1.2.armed, vi .i64 t1.2.left, vi .i64 t1.2.steps]), .row (.st .S_pmem_cell) 125 (x4 : List S_pmem_cell), .row (.int .i64) 3 (t1.2.plan.list : List Int)]⟩) x4 ?_ ?_
  ·skip
   have h6 := h
   have h := j5
   refine t_cond cok ?_
   refine bi h (fun c7 h => ?_) (fun c7 h => ?_)
   ·skip
    refine t_draw cok mo [⟨0, false, [0], [], 0, []⟩, ⟨1, false, [25], [], 0, [0]⟩, ⟨2, false, [26], [], 0, [0, 1]⟩, ⟨3, false, [27], [0], 0, [0, 1, 2]⟩, ⟨4, false, [2], [], 0, []⟩, ⟨5, false, [0], [], 0, []⟩, ⟨6, false, [30], [], 0, [5]⟩, ⟨7, false, [31], [], 0, [5, 6]⟩, ⟨8, false, [32], [0], 0, [5, 6, 7]⟩, ⟨9, false, [33], [1], 0, [5, 6, 7, 8]⟩, ⟨10, false, [29, 34], [], 0, [4, 5, 6, 7, 8, 9]⟩, ⟨11, false, [28, 35], [1], 0, [0, 1, 2, 3, 4, 5, 6, 7, 8, 9, 10]⟩, ⟨12, false, [36], [], 0, [0, 1, 2, 3, 4, 5, 6, 7, 8, 9, 10, 11]⟩] (by kernel_rfl) ?_
    refine ag h fun h => ?_
    refine ag h fun h => ?_
    refine bk h fun t8 k9 h => ?_
    refine cl3 cok.g (pmem_cell_keep__i0.sc fu t1.2.cells (Int.tmod t1.1 (List.length t1.2.cells : Int)) ((ix t1.2.cells (Int.tmod t1.1 (List.length t1.2.cells : Int))).stored) _ k9) (.tup []) [(1, .row (.st .S_pmem_cell) 125 (t8 : List S_pmem_cell))] 7 (by kernel_rfl) (by kernel_rfl) ?_
    exact em h (by kernel_rfl)
   exact em h (by kernel_rfl)
  refine bk h fun x10 j11 h => ?_
  refine t_cut cok (fun (x10 : Bool × Int) => ⟨[], [.box 105 (.agg [.sl 1 4 [], .agg [.sl 2 1 [], vi .i64 t1.2.plan.at_], vb x10.1, vb t1.2.armed, vi .i64 x10.2, vi .i64 t1.2.steps]), .row (.st .S_pmem_cell) 125 (x4 : List S_pmem_cell), .row (.int .i64) 3 (t1.2.plan.list : List Int)]⟩) x10 ?_ ?_
  ·skip
   have h12 := h
   have h := j11
   refine t_cond cok ?_
   refine bi h (fun c13 h => ?_) (fun c13 h => ?_)
   ·skip
    exact em h (by kernel_rfl)
   exact em h (by kernel_rfl)
  exact fiN h (by kernel_rfl)
 refine t_cond cok ?_
 refine bk h fun x14 j15 h => ?_
 refine t_cut cok (fun (x14 : Bool × Int) => ⟨[], [.box 105 (.agg [.sl 1 4 [], .agg [.sl 2 1 [], vi .i64 t1.2.plan.at_], vb x14.1, vb t1.2.armed, vi .i64 x14.2, vi .i64 t1.2.steps]), .row (.st .S_pmem_cell) 125 (t1.2.cells : List S_pmem_cell), .row (.int .i64) 3 (t1.2.plan.list : List Int)]⟩) x14 ?_ ?_
 ·skip
  have h16 := h
  have h := j15
  refine t_cond cok ?_
  refine bi h (fun c17 h => ?_) (fun c17 h => ?_)
  ·skip
   exact em h (by kernel_rfl)
  exact em h (by kernel_rfl)
 exact fiN h (by kernel_rfl)
def pmem_Device_Flush.s0 (fu : Nat) (a1 : Int) : (Int × (List S_pmem_cell)) → Option (Sum (List S_pmem_cell) (Int × (List S_pmem_cell))) := fun s6 => (if (decide (s6.1 < 8)) = true then if 0 ≤ (IntKind.i64.wrap ((IntKind.i64.wrap (a1 * 8)) + s6.1)) ∧ (IntKind.i64.wrap ((IntKind.i64.wrap (a1 * 8)) + s6.1)) < (List.length s6.2 : Int) then some (Sum.inr ((IntKind.i64.wrap (s6.1 + 1)), (updR (updR s6.2 (IntKind.i64.wrap ((IntKind.i64.wrap (a1 * 8)) + s6.1)) fun w => (⟨w.lasts, w.stored, (ix s6.2 (IntKind.i64.wrap ((IntKind.i64.wrap (a1 * 8)) + s6.1))).stored, w.flushed⟩ : S_pmem_cell)) (IntKind.i64.wrap ((IntKind.i64.wrap (a1 * 8)) + s6.1)) fun w => (⟨w.lasts, w.stored, w.sent, true⟩ : S_pmem_cell)))) else none else some (Sum.inl (s6.2)))
def pmem_Device_Flush.f (fu : Nat) (a0 : S_pmem_Device) (a1 : Int) : Option (Int × S_pmem_Device) := ((pmem_Device_Lines.f fu a0).bind fun t1 => ((pmem_Device_may.f fu a0 a1 t1).bind fun t3 => (if (!decide (t3 = 0)) = true then some (t3, a0) else ((loopM (pmem_Device_Flush.s0 fu a1) fu (0, a0.cells)).bind fun e7 => ((pmem_Device_step.f fu (⟨e7, a0.plan, a0.off, a0.armed, a0.left, a0.steps⟩ : S_pmem_Device)).bind fun t12 => some (0, t12))))))
theorem pmem_Device_Flush.sc (fu : Nat) (a0 : S_pmem_Device) (a1 : Int) (r : Int × S_pmem_Device) (h : pmem_Device_Flush.f fu a0 a1 = some r) : SC Tryd.prog CT 136 [.ptr 0 0, vi .i64 a1] [.box 105 (.agg [.sl 1 4 [], .agg [.sl 2 1 [], vi .i64 a0.plan.at_], vb a0.off, vb a0.armed, vi .i64 a0.left, vi .i64 a0.steps]), .row (.st .S_pmem_cell) 125 (a0.cells : List S_pmem_cell), .row (.int .i64) 3 (a0.plan.list : List Int)] (vi .i64 r.1) [.box 105 (.agg [.sl 1 4 [], .agg [.sl 2 1 [], vi .i64 r.2.plan.at_], vb r.2.off, vb r.2.armed, vi .i64 r.2.left, vi .i64 r.2.steps]), .row (.st .S_pmem_cell) 125 (r.2.cells : List S_pmem_cell), .row (.int .i64) 3 (r.2.plan.list : List Int)] := by
 unfold pmem_Device_Flush.f at h
 refine sc_of (r := r) (N := 41) (rs := [.tmp 4]) (V := fun (r : Int × S_pmem_Device) => vi .i64 r.1) (R' := fun (r : Int × S_pmem_Device) => [.box 105 (.agg [.sl 1 4 [], .agg [.sl 2 1 [], vi .i64 r.2.plan.at_], vb r.2.off, vb r.2.armed, vi .i64 r.2.left, vi .i64 r.2.steps]), .row (.st .S_pmem_cell) 125 (r.2.cells : List S_pmem_cell), .row (.int .i64) 3 (r.2.plan.list : List Int)]) cok Tryd.func136 rfl rfl rfl (by kernel_rfl) (by kernel_rfl) rfl rfl fun X => ?_
 refine bk h fun t1 k2 h => ?_
 refine cl3 cok.g (pmem_Device_Lines.sc fu a0 _ k2) (vi .i64 t1) [(0, .box 105 (.agg [.sl 1 4 [], .agg [.sl 2 1 [], vi .i64 a0.plan.at_], vb a0.off, vb a0.armed, vi .i64 a0.left, vi .i64 a0.steps])), (1, .row (.st .S_pmem_cell) 125 (a0.cells : List S_pmem_cell)), (2, .row (.int .i64) 3 (a0.plan.list : List Int))] 6 (by kernel_rfl) (by kernel_rfl) ?_
 refine bk h fun t3 k4 h => ?_
 refine cl3 cok.g (pmem_Device_may.sc fu a0 a1 t1 _ k4) (vi .i64 t3) [(0, .box 105 (.agg [.sl 1 4 [], .agg [.sl 2 1 [], vi .i64 a0.plan.at_], vb a0.off, vb a0.armed, vi .i64 a0.left, vi .i64 a0.steps])), (1, .row (.st .S_pmem_cell) 125 (a0.cells : List S_pmem_cell)), (2, .row (.int .i64) 3 (a0.plan.list : List Int))] 9 (by kernel_rfl) (by kernel_rfl) ?_
 refine t_cond cok ?_
 refine bi h (fun c5 h => ?_) (fun c5 h => ?_)
 ·skip
  exact fi h (by kernel_rfl)
 refine bk h fun e7 l8 h => ?_
 refine t_cutx cok 0 (fun (e7 : (List S_pmem_cell)) => ⟨[(0, .ptr 0 0)], [.box 105 (.agg [.sl 1 4 [], .agg [.sl 2 1 [], vi .i64 a0.plan.at_], vb a0.off, vb a0.armed, vi .i64 a0.left, vi .i64 a0.steps]), .row (.st .S_pmem_cell) 125 (e7 : List S_pmem_cell), .row (.int .i64) 3 (a0.plan.list : List Int)]⟩) e7 ?_ ?_
 ·skip
  have h9 := h
  refine t_loop cok (fun (s6 : Int × (List S_pmem_cell)) => ⟨[(0, .ptr 0 0), (1, vi .i64 a1), (16, vi .i64 s6.1)], [.box 105 (.agg [.sl 1 4 [], .agg [.sl 2 1 [], vi .i64 a0.plan.at_], vb a0.off, vb a0.armed, vi .i64 a0.left, vi .i64 a0.steps]), .row (.st .S_pmem_cell) 125 (s6.2 : List S_pmem_cell), .row (.int .i64) 3 (a0.plan.list : List Int)]⟩) l8 (by kernel_rfl) (fun s6 x10 h => ?_)
  unfold pmem_Device_Flush.s0 at h
  refine t_cond cok ?_
  refine bi h (fun c11 h => ?_) (fun c11 h => ?_)
  ·skip
   refine ag h fun h => ?_
   exact lpi h (by kernel_rfl)
  exact lpx h (fun hy => em (sj hy) (by kernel_rfl))
 refine bk h fun t12 k13 h => ?_
 refine cl3 cok.g (pmem_Device_step.sc fu (⟨e7, a0.plan, a0.off, a0.armed, a0.left, a0.steps⟩ : S_pmem_Device) _ k13) (.tup []) [(0, .box 105 (.agg [.sl 1 4 [], .agg [.sl 2 1 [], vi .i64 t12.plan.at_], vb t12.off, vb t12.armed, vi .i64 t12.left, vi .i64 t12.steps])), (1, .row (.st .S_pmem_cell) 125 (t12.cells : List S_pmem_cell)), (2, .row (.int .i64) 3 (t12.plan.list : List Int))] 6 (by kernel_rfl) (by kernel_rfl) ?_
 exact fi h (by kernel_rfl)
def pmem_Device_Store.f (fu : Nat) (a0 : S_pmem_Device) (a1 : Int) (a2 : Int) : Option (Int × S_pmem_Device) := ((pmem_Device_may.f fu a0 a1 (List.length a0.cells : Int)).bind fun t1 => (if (!decide (t1 = 0)) = true then some (t1, a0) else if 0 ≤ a1 ∧ a1 < (List.length a0.cells : Int) then ((pmem_Device_step.f fu (⟨(updR a0.cells a1 fun w => (⟨w.lasts, a2, w.sent, w.flushed⟩ : S_pmem_cell)), a0.plan, a0.off, a0.armed, a0.left, a0.steps⟩ : S_pmem_Device)).bind fun t4 => some (0, t4)) else none))
theorem pmem_Device_Store.sc (fu : Nat) (a0 : S_pmem_Device) (a1 : Int) (a2 : Int) (r : Int × S_pmem_Device) (h : pmem_Device_Store.f fu a0 a1 a2 = some r) : SC Tryd.prog CT 135 [.ptr 0 0, vi .i64 a1, vi .u64 a2] [.box 105 (.agg [.sl 1 4 [], .agg [.sl 2 1 [], vi .i64 a0.plan.at_], vb a0.off, vb a0.armed, vi .i64 a0.left, vi .i64 a0.steps]), .row (.st .S_pmem_cell) 125 (a0.cells : List S_pmem_cell), .row (.int .i64) 3 (a0.plan.list : List Int)] (vi .i64 r.1) [.box 105 (.agg [.sl 1 4 [], .agg [.sl 2 1 [], vi .i64 r.2.plan.at_], vb r.2.off, vb r.2.armed, vi .i64 r.2.left, vi .i64 r.2.steps]), .row (.st .S_pmem_cell) 125 (r.2.cells : List S_pmem_cell), .row (.int .i64) 3 (r.2.plan.list : List Int)] := by
 unfold pmem_Device_Store.f at h
 refine sc_of (r := r) (N := 29) (rs := [.tmp 6]) (V := fun (r : Int × S_pmem_Device) => vi .i64 r.1) (R' := fun (r : Int × S_pmem_Device) => [.box 105 (.agg [.sl 1 4 [], .agg [.sl 2 1 [], vi .i64 r.2.plan.at_], vb r.2.off, vb r.2.armed, vi .i64 r.2.left, vi .i64 r.2.steps]), .row (.st .S_pmem_cell) 125 (r.2.cells : List S_pmem_cell), .row (.int .i64) 3 (r.2.plan.list : List Int)]) cok Tryd.func135 rfl rfl rfl (by kernel_rfl) (by kernel_rfl) rfl rfl fun X => ?_
 refine bk h fun t1 k2 h => ?_
 refine cl3 cok.g (pmem_Device_may.sc fu a0 a1 (List.length a0.cells : Int) _ k2) (vi .i64 t1) [(0, .box 105 (.agg [.sl 1 4 [], .agg [.sl 2 1 [], vi .i64 a0.plan.at_], vb a0.off, vb a0.armed, vi .i64 a0.left, vi .i64 a0.steps])), (1, .row (.st .S_pmem_cell) 125 (a0.cells : List S_pmem_cell)), (2, .row (.int .i64) 3 (a0.plan.list : List Int))] 6 (by kernel_rfl) (by kernel_rfl) ?_
 refine t_cond cok ?_
 refine bi h (fun c3 h => ?_) (fun c3 h => ?_)
 ·skip
  exact fi h (by kernel_rfl)
 refine ag h fun h => ?_
 refine bk h fun t4 k5 h => ?_
 refine cl3 cok.g (pmem_Device_step.sc fu (⟨(updR a0.cells a1 fun w => (⟨w.lasts, a2, w.sent, w.flushed⟩ : S_pmem_cell)), a0.plan, a0.off, a0.armed, a0.left, a0.steps⟩ : S_pmem_Device) _ k5) (.tup []) [(0, .box 105 (.agg [.sl 1 4 [], .agg [.sl 2 1 [], vi .i64 t4.plan.at_], vb t4.off, vb t4.armed, vi .i64 t4.left, vi .i64 t4.steps])), (1, .row (.st .S_pmem_cell) 125 (t4.cells : List S_pmem_cell)), (2, .row (.int .i64) 3 (t4.plan.list : List Int))] 9 (by kernel_rfl) (by kernel_rfl) ?_
 exact fi h (by kernel_rfl)
def press_store.s0 (fu : Nat) (a1 : Int) (a2 : Int) (a3 : List Int) : (Int × S_pmem_Device) → Option (Sum (Sum (Int × S_pmem_Device) S_pmem_Device) (Int × S_pmem_Device)) := fun s1 => (if (decide (s1.1 < (List.length a3 : Int))) = true then if 0 ≤ s1.1 ∧ s1.1 < (List.length a3 : Int) then ((pmem_Device_Store.f fu s1.2 (IntKind.i64.wrap ((IntKind.i64.wrap ((IntKind.i64.wrap (a1 * 8)) + a2)) + s1.1)) (ix a3 s1.1)).bind fun t8 => (if (!decide (t8.1 = 0)) = true then some (Sum.inl (Sum.inl (t8.1, t8.2))) else some (Sum.inr ((IntKind.i64.wrap (s1.1 + 1)), t8.2)))) else none else some (Sum.inl (Sum.inr (s1.2))))
def press_store.f (fu : Nat) (a0 : S_pmem_Device) (a1 : Int) (a2 : Int) (a3 : List Int) : Option (Int × S_pmem_Device) := ((loopM (press_store.s0 fu a1 a2 a3) fu (0, a0)).bind fun e2 => match e2 with | Sum.inl p => some p | Sum.inr x4 => ((pmem_Device_Flush.f fu x4 a1).bind fun t11 => some (t11.1, t11.2)))
theorem press_store.sc (fu : Nat) (a0 : S_pmem_Device) (a1 : Int) (a2 : Int) (a3 : List Int) (r : Int × S_pmem_Device) (h : press_store.f fu a0 a1 a2 a3 = some r) : SC Tryd.prog CT 119 [.ptr 0 0, vi .i64 a1, vi .i64 a2, .v (.sl (.int .u64)) (a3 : List Int)] [.box 105 (.agg [.sl 1 4 [], .agg [.sl 2 1 [], vi .i64 a0.plan.at_], vb a0.off, vb a0.armed, vi .i64 a0.left, vi .i64 a0.steps]), .row (.st .S_pmem_cell) 125 (a0.cells : List S_pmem_cell), .row (.int .i64) 3 (a0.plan.list : List Int)] (vi .i64 r.1) [.box 105 (.agg [.sl 1 4 [], .agg [.sl 2 1 [], vi .i64 r.2.plan.at_], vb r.2.off, vb r.2.armed, vi .i64 r.2.left, vi .i64 r.2.steps]), .row (.st .S_pmem_cell) 125 (r.2.cells : List S_pmem_cell), .row (.int .i64) 3 (r.2.plan.list : List Int)] := by
 unfold press_store.f at h
 refine sc_of (r := r) (N := 35) (rs := [.tmp 8]) (V := fun (r : Int × S_pmem_Device) => vi .i64 r.1) (R' := fun (r : Int × S_pmem_Device) => [.box 105 (.agg [.sl 1 4 [], .agg [.sl 2 1 [], vi .i64 r.2.plan.at_], vb r.2.off, vb r.2.armed, vi .i64 r.2.left, vi .i64 r.2.steps]), .row (.st .S_pmem_cell) 125 (r.2.cells : List S_pmem_cell), .row (.int .i64) 3 (r.2.plan.list : List Int)]) cok Tryd.func119 rfl rfl rfl (by kernel_rfl) (by kernel_rfl) rfl rfl fun X => ?_
 refine bk h fun e2 l3 h => ?_
 refine t_cutxS cok 0 (fun (x4 : S_pmem_Device) => ⟨[(0, .ptr 0 0), (1, vi .i64 a1)], [.box 105 (.agg [.sl 1 4 [], .agg [.sl 2 1 [], vi .i64 x4.plan.at_], vb x4.off, vb x4.armed, vi .i64 x4.left, vi .i64 x4.steps]), .row (.st .S_pmem_cell) 125 (x4.cells : List S_pmem_cell), .row (.int .i64) 3 (x4.plan.list : List Int)]⟩) e2 ?_ (fun x4 hy => ?_)
 ·skip
  have h5 := h
  refine t_loop cok (fun (s1 : Int × S_pmem_Device) => ⟨[(0, .ptr 0 0), (1, vi .i64 a1), (2, vi .i64 a2), (12, .v (.sl (.int .u64)) (a3 : List Int)), (13, vi .i64 (List.length a3 : Int)), (14, vi .i64 s1.1)], [.box 105 (.agg [.sl 1 4 [], .agg [.sl 2 1 [], vi .i64 s1.2.plan.at_], vb s1.2.off, vb s1.2.armed, vi .i64 s1.2.left, vi .i64 s1.2.steps]), .row (.st .S_pmem_cell) 125 (s1.2.cells : List S_pmem_cell), .row (.int .i64) 3 (s1.2.plan.list : List Int)]⟩) l3 (by kernel_rfl) (fun s1 x6 h => ?_)
  unfold press_store.s0 at h
  refine t_cond cok ?_
  refine bi h (fun c7 h => ?_) (fun c7 h => ?_)
  ·skip
   refine ag h fun h => ?_
   refine bk h fun t8 k9 h => ?_
   refine cl3 cok.g (pmem_Device_Store.sc fu s1.2 (IntKind.i64.wrap ((IntKind.i64.wrap ((IntKind.i64.wrap (a1 * 8)) + a2)) + s1.1)) (ix a3 s1.1) _ k9) (vi .i64 t8.1) [(0, .box 105 (.agg [.sl 1 4 [], .agg [.sl 2 1 [], vi .i64 t8.2.plan.at_], vb t8.2.off, vb t8.2.armed, vi .i64 t8.2.left, vi .i64 t8.2.steps])), (1, .row (.st .S_pmem_cell) 125 (t8.2.cells : List S_pmem_cell)), (2, .row (.int .i64) 3 (t8.2.plan.list : List Int))] 6 (by kernel_rfl) (by kernel_rfl) ?_
   refine t_cond cok ?_
   refine bi h (fun c10 h => ?_) (fun c10 h => ?_)
   ·skip
    refine lpr h (fun hy => ?_)
    have h := h5
    rw [← hy] at h
    exact fi h (by kernel_rfl)
   exact lpi h (by kernel_rfl)
  exact lpx h (fun hy => ems (sj hy) (by kernel_rfl))
 subst hy
 refine bk h fun t11 k12 h => ?_
 refine cl3 cok.g (pmem_Device_Flush.sc fu x4 a1 _ k12) (vi .i64 t11.1) [(0, .box 105 (.agg [.sl 1 4 [], .agg [.sl 2 1 [], vi .i64 t11.2.plan.at_], vb t11.2.off, vb t11.2.armed, vi .i64 t11.2.left, vi .i64 t11.2.steps])), (1, .row (.st .S_pmem_cell) 125 (t11.2.cells : List S_pmem_cell)), (2, .row (.int .i64) 3 (t11.2.plan.list : List Int))] 6 (by kernel_rfl) (by kernel_rfl) ?_
 exact fi h (by kernel_rfl)
def press_Write.f (fu : Nat) (a0 : S_pmem_Device) (a1 : Int) (a2 : List Int) : Option (Int × S_pmem_Device) := ((press_may.f fu a0 a1).bind fun t1 => (if (!decide (t1 = 0)) = true then some (t1, a0) else (if (!decide ((List.length a2 : Int) = 64)) = true then some (2, a0) else ((octet_Words.f fu a2).bind fun t5 => ((press_store.f fu a0 a1 0 t5).bind fun t7 => some (t7.1, t7.2))))))
theorem press_Write.sc (fu : Nat) (a0 : S_pmem_Device) (a1 : Int) (a2 : List Int) (r : Int × S_pmem_Device) (h : press_Write.f fu a0 a1 a2 = some r) : SC Tryd.prog CT 92 [.ptr 0 0, vi .i64 a1, .v (.sl (.int .u8)) (a2 : List Int)] [.box 105 (.agg [.sl 1 4 [], .agg [.sl 2 1 [], vi .i64 a0.plan.at_], vb a0.off, vb a0.armed, vi .i64 a0.left, vi .i64 a0.steps]), .row (.st .S_pmem_cell) 125 (a0.cells : List S_pmem_cell), .row (.int .i64) 3 (a0.plan.list : List Int)] (vi .i64 r.1) [.box 105 (.agg [.sl 1 4 [], .agg [.sl 2 1 [], vi .i64 r.2.plan.at_], vb r.2.off, vb r.2.armed, vi .i64 r.2.left, vi .i64 r.2.steps]), .row (.st .S_pmem_cell) 125 (r.2.cells : List S_pmem_cell), .row (.int .i64) 3 (r.2.plan.list : List Int)] := by
 unfold press_Write.f at h
 refine sc_of (r := r) (N := 22) (rs := [.tmp 6]) (V := fun (r : Int × S_pmem_Device) => vi .i64 r.1) (R' := fun (r : Int × S_pmem_Device) => [.box 105 (.agg [.sl 1 4 [], .agg [.sl 2 1 [], vi .i64 r.2.plan.at_], vb r.2.off, vb r.2.armed, vi .i64 r.2.left, vi .i64 r.2.steps]), .row (.st .S_pmem_cell) 125 (r.2.cells : List S_pmem_cell), .row (.int .i64) 3 (r.2.plan.list : List Int)]) cok Tryd.func92 rfl rfl rfl (by kernel_rfl) (by kernel_rfl) rfl rfl fun X => ?_
 refine bk h fun t1 k2 h => ?_
 refine cl3 cok.g (press_may.sc fu a0 a1 _ k2) (vi .i64 t1) [(0, .box 105 (.agg [.sl 1 4 [], .agg [.sl 2 1 [], vi .i64 a0.plan.at_], vb a0.off, vb a0.armed, vi .i64 a0.left, vi .i64 a0.steps])), (1, .row (.st .S_pmem_cell) 125 (a0.cells : List S_pmem_cell)), (2, .row (.int .i64) 3 (a0.plan.list : List Int))] 6 (by kernel_rfl) (by kernel_rfl) ?_
 refine t_cond cok ?_
 refine bi h (fun c3 h => ?_) (fun c3 h => ?_)
 ·skip
  exact fi h (by kernel_rfl)
 refine t_cond cok ?_
 refine bi h (fun c4 h => ?_) (fun c4 h => ?_)
 ·skip
  exact fi h (by kernel_rfl)
 refine bk h fun t5 k6 h => ?_
 refine cl3 cok.g (octet_Words.sc fu a2 _ k6) (.sl 6 1 []) [(6, .row (.int .u64) 119 (t5 : List Int))] 7 (by kernel_rfl) (by kernel_rfl) ?_
 refine bk h fun t7 k8 h => ?_
 refine cl3 cok.g (press_store.sc fu a0 a1 0 t5 _ k8) (vi .i64 t7.1) [(0, .box 105 (.agg [.sl 1 4 [], .agg [.sl 2 1 [], vi .i64 t7.2.plan.at_], vb t7.2.off, vb t7.2.armed, vi .i64 t7.2.left, vi .i64 t7.2.steps])), (1, .row (.st .S_pmem_cell) 125 (t7.2.cells : List S_pmem_cell)), (2, .row (.int .i64) 3 (t7.2.plan.list : List Int))] 10 (by kernel_rfl) (by kernel_rfl) ?_
 exact fi h (by kernel_rfl)
def shadow_Store_written.f (fu : Nat) (a0 : S_shadow_Store) (a1 : Int) (a2 : List Int) : Option (Int × Int × S_shadow_Store) := ((press_Write.f fu a0.device a1 a2).bind fun t1 => (if (!decide (t1.1 = 0)) = true then some (0, t1.1, (⟨t1.2, a0.blocks⟩ : S_shadow_Store)) else some (a1, 0, (⟨t1.2, a0.blocks⟩ : S_shadow_Store))))
theorem shadow_Store_written.sc (fu : Nat) (a0 : S_shadow_Store) (a1 : Int) (a2 : List Int) (r : Int × Int × S_shadow_Store) (h : shadow_Store_written.f fu a0 a1 a2 = some r) : SC Tryd.prog CT 58 [.ptr 0 0, vi .i64 a1, .v (.sl (.int .u8)) (a2 : List Int)] [.box 114 (.agg [.ptr 1 0, .ptr 4 0]), .box 105 (.agg [.sl 2 4 [], .agg [.sl 3 1 [], vi .i64 a0.device.plan.at_], vb a0.device.off, vb a0.device.armed, vi .i64 a0.device.left, vi .i64 a0.device.steps]), .row (.st .S_pmem_cell) 125 (a0.device.cells : List S_pmem_cell), .row (.int .i64) 3 (a0.device.plan.list : List Int), .box 108 (.agg [vi .i64 a0.blocks.reserve, .agg [.ptr 5 0, .ptr 7 0, .ptr 9 0, .ptr 11 0]]), .box 112 (.agg [vi .i64 a0.blocks.sets.1.size, .sl 6 1 []]), .row (.int .u64) 119 (a0.blocks.sets.1.words : List Int), .box 112 (.agg [vi .i64 a0.blocks.sets.2.1.size, .sl 8 1 []]), .row (.int .u64) 119 (a0.blocks.sets.2.1.words : List Int), .box 112 (.agg [vi .i64 a0.blocks.sets.2.2.1.size, .sl 10 1 []]), .row (.int .u64) 119 (a0.blocks.sets.2.2.1.words : List Int), .box 112 (.agg [vi .i64 a0.blocks.sets.2.2.2.size, .sl 12 1 []]), .row (.int .u64) 119 (a0.blocks.sets.2.2.2.words : List Int)] (.tup [vi .i64 r.1, vi .i64 r.2.1]) [.box 114 (.agg [.ptr 1 0, .ptr 4 0]), .box 105 (.agg [.sl 2 4 [], .agg [.sl 3 1 [], vi .i64 r.2.2.device.plan.at_], vb r.2.2.device.off, vb r.2.2.device.armed, vi .i64 r.2.2.device.left, vi .i64 r.2.2.device.steps]), .row (.st .S_pmem_cell) 125 (r.2.2.device.cells : List S_pmem_cell), .row (.int .i64) 3 (r.2.2.device.plan.list : List Int), .box 108 (.agg [vi .i64 r.2.2.blocks.reserve, .agg [.ptr 5 0, .ptr 7 0, .ptr 9 0, .ptr 11 0]]), .box 112 (.agg [vi .i64 r.2.2.blocks.sets.1.size, .sl 6 1 []]), .row (.int .u64) 119 (r.2.2.blocks.sets.1.words : List Int), .box 112 (.agg [vi .i64 r.2.2.blocks.sets.2.1.size, .sl 8 1 []]), .row (.int .u64) 119 (r.2.2.blocks.sets.2.1.words : List Int), .box 112 (.agg [vi .i64 r.2.2.blocks.sets.2.2.1.size, .sl 10 1 []]), .row (.int .u64) 119 (r.2.2.blocks.sets.2.2.1.words : List Int), .box 112 (.agg [vi .i64 r.2.2.blocks.sets.2.2.2.size, .sl 12 1 []]), .row (.int .u64) 119 (r.2.2.blocks.sets.2.2.2.words : List Int)] := by
 unfold shadow_Store_written.f at h
 refine sc_of (r := r) (N := 20) (rs := [.tmp 6, .tmp 7]) (V := fun (r : Int × Int × S_shadow_Store) => .tup [vi .i64 r.1, vi .i64 r.2.1]) (R' := fun (r : Int × Int × S_shadow_Store) => [.box 114 (.agg [.ptr 1 0, .ptr 4 0]), .box 105 (.agg [.sl 2 4 [], .agg [.sl 3 1 [], vi .i64 r.2.2.device.plan.at_], vb r.2.2.device.off, vb r.2.2.device.armed, vi .i64 r.2.2.device.left, vi .i64 r.2.2.device.steps]), .row (.st .S_pmem_cell) 125 (r.2.2.device.cells : List S_pmem_cell), .row (.int .i64) 3 (r.2.2.device.plan.list : List Int), .box 108 (.agg [vi .i64 r.2.2.blocks.reserve, .agg [.ptr 5 0, .ptr 7 0, .ptr 9 0, .ptr 11 0]]), .box 112 (.agg [vi .i64 r.2.2.blocks.sets.1.size, .sl 6 1 []]), .row (.int .u64) 119 (r.2.2.blocks.sets.1.words : List Int), .box 112 (.agg [vi .i64 r.2.2.blocks.sets.2.1.size, .sl 8 1 []]), .row (.int .u64) 119 (r.2.2.blocks.sets.2.1.words : List Int), .box 112 (.agg [vi .i64 r.2.2.blocks.sets.2.2.1.size, .sl 10 1 []]), .row (.int .u64) 119 (r.2.2.blocks.sets.2.2.1.words : List Int), .box 112 (.agg [vi .i64 r.2.2.blocks.sets.2.2.2.size, .sl 12 1 []]), .row (.int .u64) 119 (r.2.2.blocks.sets.2.2.2.words : List Int)]) cok Tryd.func58 rfl rfl rfl (by kernel_rfl) (by kernel_rfl) rfl rfl fun X => ?_
 refine bk h fun t1 k2 h => ?_
 refine cl3 cok.g (press_Write.sc fu a0.device a1 a2 _ k2) (vi .i64 t1.1) [(1, .box 105 (.agg [.sl 2 4 [], .agg [.sl 3 1 [], vi .i64 t1.2.plan.at_], vb t1.2.off, vb t1.2.armed, vi .i64 t1.2.left, vi .i64 t1.2.steps])), (2, .row (.st .S_pmem_cell) 125 (t1.2.cells : List S_pmem_cell)), (3, .row (.int .i64) 3 (t1.2.plan.list : List Int))] 16 (by kernel_rfl) (by kernel_rfl) ?_
 refine t_cond cok ?_
 refine bi h (fun c3 h => ?_) (fun c3 h => ?_)
 ·skip
  exact fi h (by kernel_rfl)
 exact fi h (by kernel_rfl)
def shadow_Store_Make.f (fu : Nat) (a0 : S_shadow_Store) (a1 : List Int) : Option (Int × Int × S_shadow_Store) := (if (!decide ((List.length a1 : Int) = 64)) = true then some (0, 2, a0) else ((alloc_Alloc_Take.f fu a0.blocks).bind fun t2 => (if (!decide (t2.2.1 = 0)) = true then some (0, t2.2.1, (⟨a0.device, t2.2.2⟩ : S_shadow_Store)) else ((shadow_Store_written.f fu (⟨a0.device, t2.2.2⟩ : S_shadow_Store) t2.1 a1).bind fun t5 => some (t5.1, t5.2.1, t5.2.2)))))
theorem shadow_Store_Make.sc (fu : Nat) (a0 : S_shadow_Store) (a1 : List Int) (r : Int × Int × S_shadow_Store) (h : shadow_Store_Make.f fu a0 a1 = some r) : SC Tryd.prog CT 17 [.ptr 0 0, .v (.sl (.int .u8)) (a1 : List Int)] [.box 114 (.agg [.ptr 1 0, .ptr 4 0]), .box 105 (.agg [.sl 2 4 [], .agg [.sl 3 1 [], vi .i64 a0.device.plan.at_], vb a0.device.off, vb a0.device.armed, vi .i64 a0.device.left, vi .i64 a0.device.steps]), .row (.st .S_pmem_cell) 125 (a0.device.cells : List S_pmem_cell), .row (.int .i64) 3 (a0.device.plan.list : List Int), .box 108 (.agg [vi .i64 a0.blocks.reserve, .agg [.ptr 5 0, .ptr 7 0, .ptr 9 0, .ptr 11 0]]), .box 112 (.agg [vi .i64 a0.blocks.sets.1.size, .sl 6 1 []]), .row (.int .u64) 119 (a0.blocks.sets.1.words : List Int), .box 112 (.agg [vi .i64 a0.blocks.sets.2.1.size, .sl 8 1 []]), .row (.int .u64) 119 (a0.blocks.sets.2.1.words : List Int), .box 112 (.agg [vi .i64 a0.blocks.sets.2.2.1.size, .sl 10 1 []]), .row (.int .u64) 119 (a0.blocks.sets.2.2.1.words : List Int), .box 112 (.agg [vi .i64 a0.blocks.sets.2.2.2.size, .sl 12 1 []]), .row (.int .u64) 119 (a0.blocks.sets.2.2.2.words : List Int)] (.tup [vi .i64 r.1, vi .i64 r.2.1]) [.box 114 (.agg [.ptr 1 0, .ptr 4 0]), .box 105 (.agg [.sl 2 4 [], .agg [.sl 3 1 [], vi .i64 r.2.2.device.plan.at_], vb r.2.2.device.off, vb r.2.2.device.armed, vi .i64 r.2.2.device.left, vi .i64 r.2.2.device.steps]), .row (.st .S_pmem_cell) 125 (r.2.2.device.cells : List S_pmem_cell), .row (.int .i64) 3 (r.2.2.device.plan.list : List Int), .box 108 (.agg [vi .i64 r.2.2.blocks.reserve, .agg [.ptr 5 0, .ptr 7 0, .ptr 9 0, .ptr 11 0]]), .box 112 (.agg [vi .i64 r.2.2.blocks.sets.1.size, .sl 6 1 []]), .row (.int .u64) 119 (r.2.2.blocks.sets.1.words : List Int), .box 112 (.agg [vi .i64 r.2.2.blocks.sets.2.1.size, .sl 8 1 []]), .row (.int .u64) 119 (r.2.2.blocks.sets.2.1.words : List Int), .box 112 (.agg [vi .i64 r.2.2.blocks.sets.2.2.1.size, .sl 10 1 []]), .row (.int .u64) 119 (r.2.2.blocks.sets.2.2.1.words : List Int), .box 112 (.agg [vi .i64 r.2.2.blocks.sets.2.2.2.size, .sl 12 1 []]), .row (.int .u64) 119 (r.2.2.blocks.sets.2.2.2.words : List Int)] := by
 unfold shadow_Store_Make.f at h
 refine sc_of (r := r) (N := 28) (rs := [.tmp 4, .tmp 5]) (V := fun (r : Int × Int × S_shadow_Store) => .tup [vi .i64 r.1, vi .i64 r.2.1]) (R' := fun (r : Int × Int × S_shadow_Store) => [.box 114 (.agg [.ptr 1 0, .ptr 4 0]), .box 105 (.agg [.sl 2 4 [], .agg [.sl 3 1 [], vi .i64 r.2.2.device.plan.at_], vb r.2.2.device.off, vb r.2.2.device.armed, vi .i64 r.2.2.device.left, vi .i64 r.2.2.device.steps]), .row (.st .S_pmem_cell) 125 (r.2.2.device.cells : List S_pmem_cell), .row (.int .i64) 3 (r.2.2.device.plan.list : List Int), .box 108 (.agg [vi .i64 r.2.2.blocks.reserve, .agg [.ptr 5 0, .ptr 7 0, .ptr 9 0, .ptr 11 0]]), .box 112 (.agg [vi .i64 r.2.2.blocks.sets.1.size, .sl 6 1 []]), .row (.int .u64) 119 (r.2.2.blocks.sets.1.words : List Int), .box 112 (.agg [vi .i64 r.2.2.blocks.sets.2.1.size, .sl 8 1 []]), .row (.int .u64) 119 (r.2.2.blocks.sets.2.1.words : List Int), .box 112 (.agg [vi .i64 r.2.2.blocks.sets.2.2.1.size, .sl 10 1 []]), .row (.int .u64) 119 (r.2.2.blocks.sets.2.2.1.words : List Int), .box 112 (.agg [vi .i64 r.2.2.blocks.sets.2.2.2.size, .sl 12 1 []]), .row (.int .u64) 119 (r.2.2.blocks.sets.2.2.2.words : List Int)]) cok Tryd.func17 rfl rfl rfl (by kernel_rfl) (by kernel_rfl) rfl rfl fun X => ?_
 refine t_cond cok ?_
 refine bi h (fun c1 h => ?_) (fun c1 h => ?_)
 ·skip
  exact fi h (by kernel_rfl)
 refine bk h fun t2 k3 h => ?_
 refine cl3 cok.g (alloc_Alloc_Take.sc fu a0.blocks _ k3) (.tup [vi .i64 t2.1, vi .i64 t2.2.1]) [(4, .box 108 (.agg [vi .i64 t2.2.2.reserve, .agg [.ptr 5 0, .ptr 7 0, .ptr 9 0, .ptr 11 0]])), (5, .box 112 (.agg [vi .i64 t2.2.2.sets.1.size, .sl 6 1 []])), (6, .row (.int .u64) 119 (t2.2.2.sets.1.words : List Int)), (7, .box 112 (.agg [vi .i64 t2.2.2.sets.2.1.size, .sl 8 1 []])), (8, .row (.int .u64) 119 (t2.2.2.sets.2.1.words : List Int)), (9, .box 112 (.agg [vi .i64 t2.2.2.sets.2.2.1.size, .sl 10 1 []])), (10, .row (.int .u64) 119 (t2.2.2.sets.2.2.1.words : List Int)), (11, .box 112 (.agg [vi .i64 t2.2.2.sets.2.2.2.size, .sl 12 1 []])), (12, .row (.int .u64) 119 (t2.2.2.sets.2.2.2.words : List Int))] 22 (by kernel_rfl) (by kernel_rfl) ?_
 refine t_cond cok ?_
 refine bi h (fun c4 h => ?_) (fun c4 h => ?_)
 ·skip
  exact fi h (by kernel_rfl)
 refine bk h fun t5 k6 h => ?_
 refine cl3 cok.g (shadow_Store_written.sc fu (⟨a0.device, t2.2.2⟩ : S_shadow_Store) t2.1 a1 _ k6) (.tup [vi .i64 t5.1, vi .i64 t5.2.1]) [(0, .box 114 (.agg [.ptr 1 0, .ptr 4 0])), (1, .box 105 (.agg [.sl 2 4 [], .agg [.sl 3 1 [], vi .i64 t5.2.2.device.plan.at_], vb t5.2.2.device.off, vb t5.2.2.device.armed, vi .i64 t5.2.2.device.left, vi .i64 t5.2.2.device.steps])), (2, .row (.st .S_pmem_cell) 125 (t5.2.2.device.cells : List S_pmem_cell)), (3, .row (.int .i64) 3 (t5.2.2.device.plan.list : List Int)), (4, .box 108 (.agg [vi .i64 t5.2.2.blocks.reserve, .agg [.ptr 5 0, .ptr 7 0, .ptr 9 0, .ptr 11 0]])), (5, .box 112 (.agg [vi .i64 t5.2.2.blocks.sets.1.size, .sl 6 1 []])), (6, .row (.int .u64) 119 (t5.2.2.blocks.sets.1.words : List Int)), (7, .box 112 (.agg [vi .i64 t5.2.2.blocks.sets.2.1.size, .sl 8 1 []])), (8, .row (.int .u64) 119 (t5.2.2.blocks.sets.2.1.words : List Int)), (9, .box 112 (.agg [vi .i64 t5.2.2.blocks.sets.2.2.1.size, .sl 10 1 []])), (10, .row (.int .u64) 119 (t5.2.2.blocks.sets.2.2.1.words : List Int)), (11, .box 112 (.agg [vi .i64 t5.2.2.blocks.sets.2.2.2.size, .sl 12 1 []])), (12, .row (.int .u64) 119 (t5.2.2.blocks.sets.2.2.2.words : List Int))] 35 (by kernel_rfl) (by kernel_rfl) ?_
 exact fi h (by kernel_rfl)
def bits_Set_Drop.s0 (fu : Nat) (a0 : S_bits_Set) (a1 : List Int) : (Int × (List Int)) → Option (Sum (List Int) (Int × (List Int))) := fun s1 => (if (decide (s1.1 < (List.length a1 : Int))) = true then if 0 ≤ s1.1 ∧ s1.1 < (List.length a1 : Int) then ((bits_Set_may.f fu (⟨a0.size, s1.2⟩ : S_bits_Set) (ix a1 s1.1)).bind fun t7 => (((if t7 = true then if 0 ≤ (IntKind.i64.wrap (Int.tdiv (ix a1 s1.1) 64)) ∧ (IntKind.i64.wrap (Int.tdiv (ix a1 s1.1) 64)) < (List.length s1.2 : Int) then if 0 ≤ (Int.tmod (ix a1 s1.1) 64) then if 0 ≤ (IntKind.i64.wrap (Int.tdiv (ix a1 s1.1) 64)) ∧ (IntKind.i64.wrap (Int.tdiv (ix a1 s1.1) 64)) < (List.length s1.2 : Int) then some ((List.set s1.2 (Int.toNat (IntKind.i64.wrap (Int.tdiv (ix a1 s1.1) 64))) (bNot .u64 (ix s1.2 (IntKind.i64.wrap (Int.tdiv (ix a1 s1.1) 64))) (shL .u64 1 (Int.tmod (ix a1 s1.1) 64))))) else none else none else none else some (s1.2)) : Option (List Int)).bind fun x9 => some (Sum.inr ((IntKind.i64.wrap (s1.1 + 1)), x9)))) else none else some (Sum.inl (s1.2)))
def bits_Set_Drop.f (fu : Nat) (a0 : S_bits_Set) (a1 : List Int) : Option S_bits_Set := ((loopM (bits_Set_Drop.s0 fu a0 a1) fu (0, a0.words)).bind fun e2 => some ((⟨a0.size, e2⟩ : S_bits_Set)))
theorem bits_Set_Drop.sc (fu : Nat) (a0 : S_bits_Set) (a1 : List Int) (r : S_bits_Set) (h : bits_Set_Drop.f fu a0 a1 = some r) : SC Tryd.prog CT 93 [.ptr 0 0, .v (.sl (.int .i64)) (a1 : List Int)] [.box 112 (.agg [vi .i64 a0.size, .sl 1 1 []]), .row (.int .u64) 119 (a0.words : List Int)] (.tup []) [.box 112 (.agg [vi .i64 r.size, .sl 1 1 []]), .row (.int .u64) 119 (r.words : List Int)] := by
 unfold bits_Set_Drop.f at h
 refine sc_of (r := r) (N := 29) (rs := []) (V := fun (r : S_bits_Set) => .tup []) (R' := fun (r : S_bits_Set) => [.box 112 (.agg [vi .i64 r.size, .sl 1 1 []]), .row (.int .u64) 119 (r.words : List Int)]) cok Tryd.func93 rfl rfl rfl (by kernel_rfl) (by kernel_rfl) rfl rfl fun X => ?_
 refine bk h fun e2 l3 h => ?_
 refine t_cutx cok 0 (fun (e2 : (List Int)) => ⟨[], [.box 112 (.agg [vi .i64 a0.size, .sl 1 1 []]), .row (.int .u64) 119 (e2 : List Int)]⟩) e2 ?_ ?_
 ·skip
  have h4 := h
  refine t_loop cok (fun (s1 : Int × (List Int)) => ⟨[(0, .ptr 0 0), (6, .v (.sl (.int .i64)) (a1 : List Int)), (7, vi .i64 (List.length a1 : Int)), (8, vi .i64 s1.1)], [.box 112 (.agg [vi .i64 a0.size, .sl 1 1 []]), .row (.int .u64) 119 (s1.2 : List Int)]⟩) l3 (by kernel_rfl) (fun s1 x5 h => ?_)
  unfold bits_Set_Drop.s0 at h
  refine t_cond cok ?_
  refine bi h (fun c6 h => ?_) (fun c6 h => ?_)
  ·skip
   refine ag h fun h => ?_
   refine bk h fun t7 k8 h => ?_
   refine cl3 cok.g (bits_Set_may.sc fu (⟨a0.size, s1.2⟩ : S_bits_Set) (ix a1 s1.1) _ k8) (vb t7) [(0, .box 112 (.agg [vi .i64 a0.size, .sl 1 1 []])), (1, .row (.int .u64) 119 (s1.2 : List Int))] 4 (by kernel_rfl) (by kernel_rfl) ?_
   refine bk h fun x9 j10 h => ?_
   refine t_cut cok (fun (x9 : (List Int)) => ⟨[(0, .ptr 0 0), (6, .v (.sl (.int .i64)) (a1 : List Int)), (7, vi .i64 (List.length a1 : Int)), (8, vi .i64 s1.1)], [.box 112 (.agg [vi .i64 a0.size, .sl 1 1 []]), .row (.int .u64) 119 (x9 : List Int)]⟩) x9 ?_ ?_
   ·skip
    have h11 := h
    have h := j10
    refine t_cond cok ?_
    refine bi h (fun c12 h => ?_) (fun c12 h => ?_)
    ·skip
     refine t_draw cok mo [⟨0, false, [0], [], 0, []⟩, ⟨1, false, [15], [], 0, [0]⟩, ⟨2, false, [16], [], 0, [0, 1]⟩, ⟨3, false, [17], [0], 0, [0, 1, 2]⟩, ⟨4, false, [5], [], 0, []⟩, ⟨5, false, [19], [], 0, [4]⟩, ⟨6, false, [18, 20], [1], 0, [0, 1, 2, 3, 4, 5]⟩, ⟨7, false, [21], [1], 0, [0, 1, 2, 3, 4, 5, 6]⟩, ⟨8, false, [5], [], 0, []⟩, ⟨9, false, [23], [], 0, [8]⟩, ⟨10, false, [24], [], 0, [8, 9]⟩, ⟨11, false, [22, 25], [], 0, [0, 1, 2, 3, 4, 5, 6, 7, 8, 9, 10]⟩, ⟨12, false, [18, 20], [1], 0, [0, 1, 2, 3, 4, 5, 6, 7, 8, 9, 10, 11]⟩, ⟨13, true, [26, 27], [1], 0, [0, 1, 2, 3, 4, 5, 6, 7, 8, 9, 10, 11, 12]⟩] (by kernel_rfl) ?_
     refine ⟨by decide, ?_⟩
     refine ag h fun h => ?_
     refine ⟨by decide, ?_⟩
     refine ag h fun h => ?_
     refine ag h fun h => ?_
     exact em h (by kernel_rfl)
    exact em h (by kernel_rfl)
   exact lpi h (by kernel_rfl)
  exact lpx h (fun hy => em (sj hy) (by kernel_rfl))
 exact fiN h (by kernel_rfl)
def alloc_Alloc_Give.f (fu : Nat) (a0 : S_alloc_Alloc) (a1 : Int) : Option (Int × S_alloc_Alloc) := ((bits_Set_Has.f fu a0.sets.2.2.2 a1).bind fun t1 => (if (!t1) = true then some (2, a0) else ((bits_Set_Drop.f fu a0.sets.2.2.2 [a1]).bind fun t4 => some (0, (⟨a0.reserve, (a0.sets.1, a0.sets.2.1, a0.sets.2.2.1, t4)⟩ : S_alloc_Alloc)))))
theorem alloc_Alloc_Give.sc (fu : Nat) (a0 : S_alloc_Alloc) (a1 : Int) (r : Int × S_alloc_Alloc) (h : alloc_Alloc_Give.f fu a0 a1 = some r) : SC Tryd.prog CT 62 [.ptr 0 0, vi .i64 a1] [.box 108 (.agg [vi .i64 a0.reserve, .agg [.ptr 1 0, .ptr 3 0, .ptr 5 0, .ptr 7 0]]), .box 112 (.agg [vi .i64 a0.sets.1.size, .sl 2 1 []]), .row (.int .u64) 119 (a0.sets.1.words : List Int), .box 112 (.agg [vi .i64 a0.sets.2.1.size, .sl 4 1 []]), .row (.int .u64) 119 (a0.sets.2.1.words : List Int), .box 112 (.agg [vi .i64 a0.sets.2.2.1.size, .sl 6 1 []]), .row (.int .u64) 119 (a0.sets.2.2.1.words : List Int), .box 112 (.agg [vi .i64 a0.sets.2.2.2.size, .sl 8 1 []]), .row (.int .u64) 119 (a0.sets.2.2.2.words : List Int)] (vi .i64 r.1) [.box 108 (.agg [vi .i64 r.2.reserve, .agg [.ptr 1 0, .ptr 3 0, .ptr 5 0, .ptr 7 0]]), .box 112 (.agg [vi .i64 r.2.sets.1.size, .sl 2 1 []]), .row (.int .u64) 119 (r.2.sets.1.words : List Int), .box 112 (.agg [vi .i64 r.2.sets.2.1.size, .sl 4 1 []]), .row (.int .u64) 119 (r.2.sets.2.1.words : List Int), .box 112 (.agg [vi .i64 r.2.sets.2.2.1.size, .sl 6 1 []]), .row (.int .u64) 119 (r.2.sets.2.2.1.words : List Int), .box 112 (.agg [vi .i64 r.2.sets.2.2.2.size, .sl 8 1 []]), .row (.int .u64) 119 (r.2.sets.2.2.2.words : List Int)] := by
 unfold alloc_Alloc_Give.f at h
 refine sc_of (r := r) (N := 21) (rs := [.tmp 4]) (V := fun (r : Int × S_alloc_Alloc) => vi .i64 r.1) (R' := fun (r : Int × S_alloc_Alloc) => [.box 108 (.agg [vi .i64 r.2.reserve, .agg [.ptr 1 0, .ptr 3 0, .ptr 5 0, .ptr 7 0]]), .box 112 (.agg [vi .i64 r.2.sets.1.size, .sl 2 1 []]), .row (.int .u64) 119 (r.2.sets.1.words : List Int), .box 112 (.agg [vi .i64 r.2.sets.2.1.size, .sl 4 1 []]), .row (.int .u64) 119 (r.2.sets.2.1.words : List Int), .box 112 (.agg [vi .i64 r.2.sets.2.2.1.size, .sl 6 1 []]), .row (.int .u64) 119 (r.2.sets.2.2.1.words : List Int), .box 112 (.agg [vi .i64 r.2.sets.2.2.2.size, .sl 8 1 []]), .row (.int .u64) 119 (r.2.sets.2.2.2.words : List Int)]) cok Tryd.func62 rfl rfl rfl (by kernel_rfl) (by kernel_rfl) rfl rfl fun X => ?_
 refine ⟨by decide, ?_⟩
 refine bk h fun t1 k2 h => ?_
 refine cl3 cok.g (bits_Set_Has.sc fu a0.sets.2.2.2 a1 _ k2) (vb t1) [(7, .box 112 (.agg [vi .i64 a0.sets.2.2.2.size, .sl 8 1 []])), (8, .row (.int .u64) 119 (a0.sets.2.2.2.words : List Int))] 11 (by kernel_rfl) (by kernel_rfl) ?_
 refine t_cond cok ?_
 refine bi h (fun c3 h => ?_) (fun c3 h => ?_)
 ·skip
  exact fi h (by kernel_rfl)
 refine ⟨by decide, ?_⟩
 refine bk h fun t4 k5 h => ?_
 refine cl3 cok.g (bits_Set_Drop.sc fu a0.sets.2.2.2 [a1] _ k5) (.tup []) [(7, .box 112 (.agg [vi .i64 t4.size, .sl 8 1 []])), (8, .row (.int .u64) 119 (t4.words : List Int))] 14 (by kernel_rfl) (by kernel_rfl) ?_
 exact fi h (by kernel_rfl)
def alloc_Alloc_Own.f (fu : Nat) (a0 : S_alloc_Alloc) (a1 : Int) : Option Bool := ((bits_Set_Has.f fu a0.sets.2.2.2 a1).bind fun t1 => (if t1 = true then ((bits_Set_Has.f fu a0.sets.2.2.1 a1).bind fun t4 => some ((!t4))) else some (false)))
theorem alloc_Alloc_Own.sc (fu : Nat) (a0 : S_alloc_Alloc) (a1 : Int) (r : Bool) (h : alloc_Alloc_Own.f fu a0 a1 = some r) : SC Tryd.prog CT 61 [.ptr 0 0, vi .i64 a1] [.box 108 (.agg [vi .i64 a0.reserve, .agg [.ptr 1 0, .ptr 3 0, .ptr 5 0, .ptr 7 0]]), .box 112 (.agg [vi .i64 a0.sets.1.size, .sl 2 1 []]), .row (.int .u64) 119 (a0.sets.1.words : List Int), .box 112 (.agg [vi .i64 a0.sets.2.1.size, .sl 4 1 []]), .row (.int .u64) 119 (a0.sets.2.1.words : List Int), .box 112 (.agg [vi .i64 a0.sets.2.2.1.size, .sl 6 1 []]), .row (.int .u64) 119 (a0.sets.2.2.1.words : List Int), .box 112 (.agg [vi .i64 a0.sets.2.2.2.size, .sl 8 1 []]), .row (.int .u64) 119 (a0.sets.2.2.2.words : List Int)] (vb r) [.box 108 (.agg [vi .i64 a0.reserve, .agg [.ptr 1 0, .ptr 3 0, .ptr 5 0, .ptr 7 0]]), .box 112 (.agg [vi .i64 a0.sets.1.size, .sl 2 1 []]), .row (.int .u64) 119 (a0.sets.1.words : List Int), .box 112 (.agg [vi .i64 a0.sets.2.1.size, .sl 4 1 []]), .row (.int .u64) 119 (a0.sets.2.1.words : List Int), .box 112 (.agg [vi .i64 a0.sets.2.2.1.size, .sl 6 1 []]), .row (.int .u64) 119 (a0.sets.2.2.1.words : List Int), .box 112 (.agg [vi .i64 a0.sets.2.2.2.size, .sl 8 1 []]), .row (.int .u64) 119 (a0.sets.2.2.2.words : List Int)] := by
 unfold alloc_Alloc_Own.f at h
 refine sc_of (r := r) (N := 22) (rs := [.tmp 4]) (V := fun (r : Bool) => vb r) (R' := fun (r : Bool) => [.box 108 (.agg [vi .i64 a0.reserve, .agg [.ptr 1 0, .ptr 3 0, .ptr 5 0, .ptr 7 0]]), .box 112 (.agg [vi .i64 a0.sets.1.size, .sl 2 1 []]), .row (.int .u64) 119 (a0.sets.1.words : List Int), .box 112 (.agg [vi .i64 a0.sets.2.1.size, .sl 4 1 []]), .row (.int .u64) 119 (a0.sets.2.1.words : List Int), .box 112 (.agg [vi .i64 a0.sets.2.2.1.size, .sl 6 1 []]), .row (.int .u64) 119 (a0.sets.2.2.1.words : List Int), .box 112 (.agg [vi .i64 a0.sets.2.2.2.size, .sl 8 1 []]), .row (.int .u64) 119 (a0.sets.2.2.2.words : List Int)]) cok Tryd.func61 rfl rfl rfl (by kernel_rfl) (by kernel_rfl) rfl rfl fun X => ?_
 refine t_reg cok ?_
 refine ⟨by decide, ?_⟩
 refine bk h fun t1 k2 h => ?_
 refine cl3 cok.g (bits_Set_Has.sc fu a0.sets.2.2.2 a1 _ k2) (vb t1) [(7, .box 112 (.agg [vi .i64 a0.sets.2.2.2.size, .sl 8 1 []])), (8, .row (.int .u64) 119 (a0.sets.2.2.2.words : List Int))] 11 (by kernel_rfl) (by kernel_rfl) ?_
 refine bi h (fun c3 h => ?_) (fun c3 h => ?_)
 ·skip
  refine ⟨by decide, ?_⟩
  refine bk h fun t4 k5 h => ?_
  refine cl3 cok.g (bits_Set_Has.sc fu a0.sets.2.2.1 a1 _ k5) (vb t4) [(5, .box 112 (.agg [vi .i64 a0.sets.2.2.1.size, .sl 6 1 []])), (6, .row (.int .u64) 119 (a0.sets.2.2.1.words : List Int))] 13 (by kernel_rfl) (by kernel_rfl) ?_
  exact fi h (by kernel_rfl)
 exact fi h (by kernel_rfl)
def shadow_Store_Turn.f (fu : Nat) (a0 : S_shadow_Store) (a1 : Int) (a2 : List Int) : Option (Int × Int × S_shadow_Store) := (if (!decide ((List.length a2 : Int) = 64)) = true then some (0, 2, a0) else ((alloc_Alloc_Works.f fu a0.blocks).bind fun t2 => ((bits_Set_Has.f fu t2 a1).bind fun t4 => (if (!t4) = true then some (0, 2, a0) else ((alloc_Alloc_Own.f fu a0.blocks a1).bind fun t7 => (if t7 = true then ((shadow_Store_written.f fu a0 a1 a2).bind fun t10 => some (t10.1, t10.2.1, t10.2.2)) else ((shadow_Store_Make.f fu a0 a2).bind fun t12 => (if (!decide (t12.2.1 = 0)) = true then some (0, t12.2.1, t12.2.2) else ((alloc_Alloc_Give.f fu t12.2.2.blocks a1).bind fun t15 => some (t12.1, t15.1, (⟨t12.2.2.device, t15.2⟩ : S_shadow_Store)))))))))))
theorem shadow_Store_Turn.sc (fu : Nat) (a0 : S_shadow_Store) (a1 : Int) (a2 : List Int) (r : Int × Int × S_shadow_Store) (h : shadow_Store_Turn.f fu a0 a1 a2 = some r) : SC Tryd.prog CT 19 [.ptr 0 0, vi .i64 a1, .v (.sl (.int .u8)) (a2 : List Int)] [.box 114 (.agg [.ptr 1 0, .ptr 4 0]), .box 105 (.agg [.sl 2 4 [], .agg [.sl 3 1 [], vi .i64 a0.device.plan.at_], vb a0.device.off, vb a0.device.armed, vi .i64 a0.device.left, vi .i64 a0.device.steps]), .row (.st .S_pmem_cell) 125 (a0.device.cells : List S_pmem_cell), .row (.int .i64) 3 (a0.device.plan.list : List Int), .box 108 (.agg [vi .i64 a0.blocks.reserve, .agg [.ptr 5 0, .ptr 7 0, .ptr 9 0, .ptr 11 0]]), .box 112 (.agg [vi .i64 a0.blocks.sets.1.size, .sl 6 1 []]), .row (.int .u64) 119 (a0.blocks.sets.1.words : List Int), .box 112 (.agg [vi .i64 a0.blocks.sets.2.1.size, .sl 8 1 []]), .row (.int .u64) 119 (a0.blocks.sets.2.1.words : List Int), .box 112 (.agg [vi .i64 a0.blocks.sets.2.2.1.size, .sl 10 1 []]), .row (.int .u64) 119 (a0.blocks.sets.2.2.1.words : List Int), .box 112 (.agg [vi .i64 a0.blocks.sets.2.2.2.size, .sl 12 1 []]), .row (.int .u64) 119 (a0.blocks.sets.2.2.2.words : List Int)] (.tup [vi .i64 r.1, vi .i64 r.2.1]) [.box 114 (.agg [.ptr 1 0, .ptr 4 0]), .box 105 (.agg [.sl 2 4 [], .agg [.sl 3 1 [], vi .i64 r.2.2.device.plan.at_], vb r.2.2.device.off, vb r.2.2.device.armed, vi .i64 r.2.2.device.left, vi .i64 r.2.2.device.steps]), .row (.st .S_pmem_cell) 125 (r.2.2.device.cells : List S_pmem_cell), .row (.int .i64) 3 (r.2.2.device.plan.list : List Int), .box 108 (.agg [vi .i64 r.2.2.blocks.reserve, .agg [.ptr 5 0, .ptr 7 0, .ptr 9 0, .ptr 11 0]]), .box 112 (.agg [vi .i64 r.2.2.blocks.sets.1.size, .sl 6 1 []]), .row (.int .u64) 119 (r.2.2.blocks.sets.1.words : List Int), .box 112 (.agg [vi .i64 r.2.2.blocks.sets.2.1.size, .sl 8 1 []]), .row (.int .u64) 119 (r.2.2.blocks.sets.2.1.words : List Int), .box 112 (.agg [vi .i64 r.2.2.blocks.sets.2.2.1.size, .sl 10 1 []]), .row (.int .u64) 119 (r.2.2.blocks.sets.2.2.1.words : List Int), .box 112 (.agg [vi .i64 r.2.2.blocks.sets.2.2.2.size, .sl 12 1 []]), .row (.int .u64) 119 (r.2.2.blocks.sets.2.2.2.words : List Int)] := by
 unfold shadow_Store_Turn.f at h
 refine sc_of (r := r) (N := 51) (rs := [.tmp 6, .tmp 7]) (V := fun (r : Int × Int × S_shadow_Store) => .tup [vi .i64 r.1, vi .i64 r.2.1]) (R' := fun (r : Int × Int × S_shadow_Store) => [.box 114 (.agg [.ptr 1 0, .ptr 4 0]), .box 105 (.agg [.sl 2 4 [], .agg [.sl 3 1 [], vi .i64 r.2.2.device.plan.at_], vb r.2.2.device.off, vb r.2.2.device.armed, vi .i64 r.2.2.device.left, vi .i64 r.2.2.device.steps]), .row (.st .S_pmem_cell) 125 (r.2.2.device.cells : List S_pmem_cell), .row (.int .i64) 3 (r.2.2.device.plan.list : List Int), .box 108 (.agg [vi .i64 r.2.2.blocks.reserve, .agg [.ptr 5 0, .ptr 7 0, .ptr 9 0, .ptr 11 0]]), .box 112 (.agg [vi .i64 r.2.2.blocks.sets.1.size, .sl 6 1 []]), .row (.int .u64) 119 (r.2.2.blocks.sets.1.words : List Int), .box 112 (.agg [vi .i64 r.2.2.blocks.sets.2.1.size, .sl 8 1 []]), .row (.int .u64) 119 (r.2.2.blocks.sets.2.1.words : List Int), .box 112 (.agg [vi .i64 r.2.2.blocks.sets.2.2.1.size, .sl 10 1 []]), .row (.int .u64) 119 (r.2.2.blocks.sets.2.2.1.words : List Int), .box 112 (.agg [vi .i64 r.2.2.blocks.sets.2.2.2.size, .sl 12 1 []]), .row (.int .u64) 119 (r.2.2.blocks.sets.2.2.2.words : List Int)]) cok Tryd.func19 rfl rfl rfl (by kernel_rfl) (by kernel_rfl) rfl rfl fun X => ?_
 refine t_reg cok ?_
 refine bi h (fun c1 h => ?_) (fun c1 h => ?_)
 ·skip
  refine t_cond cok ?_
  exact fi h (by kernel_rfl)
 refine bk h fun t2 k3 h => ?_
 refine cl3 cok.g (alloc_Alloc_Works.sc fu a0.blocks _ k3) (.ptr 22 0) [(4, .box 108 (.agg [vi .i64 a0.blocks.reserve, .agg [.ptr 5 0, .ptr 7 0, .ptr 9 0, .ptr 11 0]])), (5, .box 112 (.agg [vi .i64 a0.blocks.sets.1.size, .sl 6 1 []])), (6, .row (.int .u64) 119 (a0.blocks.sets.1.words : List Int)), (7, .box 112 (.agg [vi .i64 a0.blocks.sets.2.1.size, .sl 8 1 []])), (8, .row (.int .u64) 119 (a0.blocks.sets.2.1.words : List Int)), (9, .box 112 (.agg [vi .i64 a0.blocks.sets.2.2.1.size, .sl 10 1 []])), (10, .row (.int .u64) 119 (a0.blocks.sets.2.2.1.words : List Int)), (11, .box 112 (.agg [vi .i64 a0.blocks.sets.2.2.2.size, .sl 12 1 []])), (12, .row (.int .u64) 119 (a0.blocks.sets.2.2.2.words : List Int)), (22, .box 112 (.agg [vi .i64 t2.size, .sl 23 1 []])), (23, .row (.int .u64) 119 (t2.words : List Int))] 24 (by kernel_rfl) (by kernel_rfl) ?_
 refine bk h fun t4 k5 h => ?_
 refine cl3 cok.g (bits_Set_Has.sc fu t2 a1 _ k5) (vb t4) [(22, .box 112 (.agg [vi .i64 t2.size, .sl 23 1 []])), (23, .row (.int .u64) 119 (t2.words : List Int))] 26 (by kernel_rfl) (by kernel_rfl) ?_
 refine t_cond cok ?_
 refine bi h (fun c6 h => ?_) (fun c6 h => ?_)
 ·skip
  exact fi h (by kernel_rfl)
 refine bk h fun t7 k8 h => ?_
 refine cl3 cok.g (alloc_Alloc_Own.sc fu a0.blocks a1 _ k8) (vb t7) [(4, .box 108 (.agg [vi .i64 a0.blocks.reserve, .agg [.ptr 5 0, .ptr 7 0, .ptr 9 0, .ptr 11 0]])), (5, .box 112 (.agg [vi .i64 a0.blocks.sets.1.size, .sl 6 1 []])), (6, .row (.int .u64) 119 (a0.blocks.sets.1.words : List Int)), (7, .box 112 (.agg [vi .i64 a0.blocks.sets.2.1.size, .sl 8 1 []])), (8, .row (.int .u64) 119 (a0.blocks.sets.2.1.words : List Int)), (9, .box 112 (.agg [vi .i64 a0.blocks.sets.2.2.1.size, .sl 10 1 []])), (10, .row (.int .u64) 119 (a0.blocks.sets.2.2.1.words : List Int)), (11, .box 112 (.agg [vi .i64 a0.blocks.sets.2.2.2.size, .sl 12 1 []])), (12, .row (.int .u64) 119 (a0.blocks.sets.2.2.2.words : List Int))] 35 (by kernel_rfl) (by kernel_rfl) ?_
 refine t_cond cok ?_
 refine bi h (fun c9 h => ?_) (fun c9 h => ?_)
 ·skip
  refine bk h fun t10 k11 h => ?_
  refine cl3 cok.g (shadow_Store_written.sc fu a0 a1 a2 _ k11) (.tup [vi .i64 t10.1, vi .i64 t10.2.1]) [(0, .box 114 (.agg [.ptr 1 0, .ptr 4 0])), (1, .box 105 (.agg [.sl 2 4 [], .agg [.sl 3 1 [], vi .i64 t10.2.2.device.plan.at_], vb t10.2.2.device.off, vb t10.2.2.device.armed, vi .i64 t10.2.2.device.left, vi .i64 t10.2.2.device.steps])), (2, .row (.st .S_pmem_cell) 125 (t10.2.2.device.cells : List S_pmem_cell)), (3, .row (.int .i64) 3 (t10.2.2.device.plan.list : List Int)), (4, .box 108 (.agg [vi .i64 t10.2.2.blocks.reserve, .agg [.ptr 5 0, .ptr 7 0, .ptr 9 0, .ptr 11 0]])), (5, .box 112 (.agg [vi .i64 t10.2.2.blocks.sets.1.size, .sl 6 1 []])), (6, .row (.int .u64) 119 (t10.2.2.blocks.sets.1.words : List Int)), (7, .box 112 (.agg [vi .i64 t10.2.2.blocks.sets.2.1.size, .sl 8 1 []])), (8, .row (.int .u64) 119 (t10.2.2.blocks.sets.2.1.words : List Int)), (9, .box 112 (.agg [vi .i64 t10.2.2.blocks.sets.2.2.1.size, .sl 10 1 []])), (10, .row (.int .u64) 119 (t10.2.2.blocks.sets.2.2.1.words : List Int)), (11, .box 112 (.agg [vi .i64 t10.2.2.blocks.sets.2.2.2.size, .sl 12 1 []])), (12, .row (.int .u64) 119 (t10.2.2.blocks.sets.2.2.2.words : List Int))] 48 (by kernel_rfl) (by kernel_rfl) ?_
  exact fi h (by kernel_rfl)
 refine bk h fun t12 k13 h => ?_
 refine cl3 cok.g (shadow_Store_Make.sc fu a0 a2 _ k13) (.tup [vi .i64 t12.1, vi .i64 t12.2.1]) [(0, .box 114 (.agg [.ptr 1 0, .ptr 4 0])), (1, .box 105 (.agg [.sl 2 4 [], .agg [.sl 3 1 [], vi .i64 t12.2.2.device.plan.at_], vb t12.2.2.device.off, vb t12.2.2.device.armed, vi .i64 t12.2.2.device.left, vi .i64 t12.2.2.device.steps])), (2, .row (.st .S_pmem_cell) 125 (t12.2.2.device.cells : List S_pmem_cell)), (3, .row (.int .i64) 3 (t12.2.2.device.plan.list : List Int)), (4, .box 108 (.agg [vi .i64 t12.2.2.blocks.reserve, .agg [.ptr 5 0, .ptr 7 0, .ptr 9 0, .ptr 11 0]])), (5, .box 112 (.agg [vi .i64 t12.2.2.blocks.sets.1.size, .sl 6 1 []])), (6, .row (.int .u64) 119 (t12.2.2.blocks.sets.1.words : List Int)), (7, .box 112 (.agg [vi .i64 t12.2.2.blocks.sets.2.1.size, .sl 8 1 []])), (8, .row (.int .u64) 119 (t12.2.2.blocks.sets.2.1.words : List Int)), (9, .box 112 (.agg [vi .i64 t12.2.2.blocks.sets.2.2.1.size, .sl 10 1 []])), (10, .row (.int .u64) 119 (t12.2.2.blocks.sets.2.2.1.words : List Int)), (11, .box 112 (.agg [vi .i64 t12.2.2.blocks.sets.2.2.2.size, .sl 12 1 []])), (12, .row (.int .u64) 119 (t12.2.2.blocks.sets.2.2.2.words : List Int))] 48 (by kernel_rfl) (by kernel_rfl) ?_
 refine t_cond cok ?_
 refine bi h (fun c14 h => ?_) (fun c14 h => ?_)
 ·skip
  exact fi h (by kernel_rfl)
 refine bk h fun t15 k16 h => ?_
 refine cl3 cok.g (alloc_Alloc_Give.sc fu t12.2.2.blocks a1 _ k16) (vi .i64 t15.1) [(4, .box 108 (.agg [vi .i64 t15.2.reserve, .agg [.ptr 5 0, .ptr 7 0, .ptr 9 0, .ptr 11 0]])), (5, .box 112 (.agg [vi .i64 t15.2.sets.1.size, .sl 6 1 []])), (6, .row (.int .u64) 119 (t15.2.sets.1.words : List Int)), (7, .box 112 (.agg [vi .i64 t15.2.sets.2.1.size, .sl 8 1 []])), (8, .row (.int .u64) 119 (t15.2.sets.2.1.words : List Int)), (9, .box 112 (.agg [vi .i64 t15.2.sets.2.2.1.size, .sl 10 1 []])), (10, .row (.int .u64) 119 (t15.2.sets.2.2.1.words : List Int)), (11, .box 112 (.agg [vi .i64 t15.2.sets.2.2.2.size, .sl 12 1 []])), (12, .row (.int .u64) 119 (t15.2.sets.2.2.2.words : List Int))] 57 (by kernel_rfl) (by kernel_rfl) ?_
 exact fi h (by kernel_rfl)
def rickyardlaw19_awake.f (fu : Nat) : Option Bool := ((rickyardlaw19_Made.f fu 9 0).bind fun t1 => (Option.elim t1.1 ((Option.elim t1.2.1 ((Option.elim t1.2.2 (some (false)) (fun o7 => some (false)))) (fun o5 => (Option.elim t1.2.2 (some (false)) (fun o9 => some (false)))))) (fun o3 => (Option.elim t1.2.1 ((Option.elim t1.2.2 (none) (fun o13 => none))) (fun o11 => (Option.elim t1.2.2 (none) (fun o15 => ((rickyardlaw19_whole.f fu 1).bind fun t17 => ((shadow_Store_Make.f fu (⟨o11, o15⟩ : S_shadow_Store) t17).bind fun t19 => ((rickyardlaw19_whole.f fu 2).bind fun t21 => ((shadow_Store_Turn.f fu t19.2.2 t19.1 t21).bind fun t23 => ((alloc_Alloc_Mark.f fu t23.2.2.blocks).bind fun t25 => ((rickyardlaw19_whole.f fu 3).bind fun t27 => ((shadow_Store_Turn.f fu (⟨t23.2.2.device, t25⟩ : S_shadow_Store) t19.1 t27).bind fun t29 => (if (decide (t19.2.1 = 0)) = true then (if (decide (t23.2.1 = 0)) = true then (if (decide (t29.2.1 = 0)) = true then (if (decide (t19.1 = 2)) = true then (if (decide (t23.1 = 2)) = true then some ((decide (t29.1 = 3))) else some (false)) else some (false)) else some (false)) else some (false)) else some (false))))))))))))))))
theorem rickyardlaw19_awake.sc (fu : Nat) (r : Bool) (h : rickyardlaw19_awake.f fu = some r) : SC Tryd.prog CT 10 [] [] (vb r) [] := by
 unfold rickyardlaw19_awake.f at h
 refine sc_of (r := r) (N := 65) (rs := [.tmp 0]) (V := fun (r : Bool) => vb r) (R' := fun (r : Bool) => []) cok Tryd.func10 rfl rfl rfl (by kernel_rfl) (by kernel_rfl) rfl rfl fun X => ?_
 refine bk h fun t1 k2 h => ?_
 refine oe (x := t1.1) h (fun q4 h => ?_) (fun o3 q4 h => ?_)
 ·skip
  refine oe (x := t1.2.1) h (fun q6 h => ?_) (fun o5 q6 h => ?_)
  ·skip
   refine oe (x := t1.2.2) h (fun q8 h => ?_) (fun o7 q8 h => ?_)
   ·skip
    refine cl3 cok.g (rickyardlaw19_Made.scnnn fu 9 0 _ k2 q4 q6 q8) (.tup [.nilp, .nilp, .nilp]) [] 0 (by kernel_rfl) (by kernel_rfl) ?_
    refine t_reg cok ?_
    refine t_cond cok ?_
    exact fi h (by kernel_rfl)
   refine cl3 cok.g (rickyardlaw19_Made.scnns fu 9 0 _ k2 q4 q6 o7 q8) (.tup [.nilp, .nilp, .ptr 0 0]) [(0, .box 108 (.agg [vi .i64 o7.reserve, .agg [.ptr 1 0, .ptr 3 0, .ptr 5 0, .ptr 7 0]])), (1, .box 112 (.agg [vi .i64 o7.sets.1.size, .sl 2 1 []])), (2, .row (.int .u64) 119 (o7.sets.1.words : List Int)), (3, .box 112 (.agg [vi .i64 o7.sets.2.1.size, .sl 4 1 []])), (4, .row (.int .u64) 119 (o7.sets.2.1.words : List Int)), (5, .box 112 (.agg [vi .i64 o7.sets.2.2.1.size, .sl 6 1 []])), (6, .row (.int .u64) 119 (o7.sets.2.2.1.words : List Int)), (7, .box 112 (.agg [vi .i64 o7.sets.2.2.2.size, .sl 8 1 []])), (8, .row (.int .u64) 119 (o7.sets.2.2.2.words : List Int))] 9 (by kernel_rfl) (by kernel_rfl) ?_
   refine t_reg cok ?_
   refine t_cond cok ?_
   exact fi h (by kernel_rfl)
  refine oe (x := t1.2.2) h (fun q10 h => ?_) (fun o9 q10 h => ?_)
  ·skip
   refine cl3 cok.g (rickyardlaw19_Made.scnsn fu 9 0 _ k2 q4 o5 q6 q10) (.tup [.nilp, .ptr 0 0, .nilp]) [(0, .box 105 (.agg [.sl 1 4 [], .agg [.sl 2 1 [], vi .i64 o5.plan.at_], vb o5.off, vb o5.armed, vi .i64 o5.left, vi .i64 o5.steps])), (1, .row (.st .S_pmem_cell) 125 (o5.cells : List S_pmem_cell)), (2, .row (.int .i64) 3 (o5.plan.list : List Int))] 3 (by kernel_rfl) (by kernel_rfl) ?_
   refine t_reg cok ?_
   refine t_cond cok ?_
   exact fi h (by kernel_rfl)
  refine cl3 cok.g (rickyardlaw19_Made.scnss fu 9 0 _ k2 q4 o5 q6 o9 q10) (.tup [.nilp, .ptr 0 0, .ptr 3 0]) [(0, .box 105 (.agg [.sl 1 4 [], .agg [.sl 2 1 [], vi .i64 o5.plan.at_], vb o5.off, vb o5.armed, vi .i64 o5.left, vi .i64 o5.steps])), (1, .row (.st .S_pmem_cell) 125 (o5.cells : List S_pmem_cell)), (2, .row (.int .i64) 3 (o5.plan.list : List Int)), (3, .box 108 (.agg [vi .i64 o9.reserve, .agg [.ptr 4 0, .ptr 6 0, .ptr 8 0, .ptr 10 0]])), (4, .box 112 (.agg [vi .i64 o9.sets.1.size, .sl 5 1 []])), (5, .row (.int .u64) 119 (o9.sets.1.words : List Int)), (6, .box 112 (.agg [vi .i64 o9.sets.2.1.size, .sl 7 1 []])), (7, .row (.int .u64) 119 (o9.sets.2.1.words : List Int)), (8, .box 112 (.agg [vi .i64 o9.sets.2.2.1.size, .sl 9 1 []])), (9, .row (.int .u64) 119 (o9.sets.2.2.1.words : List Int)), (10, .box 112 (.agg [vi .i64 o9.sets.2.2.2.size, .sl 11 1 []])), (11, .row (.int .u64) 119 (o9.sets.2.2.2.words : List Int))] 12 (by kernel_rfl) (by kernel_rfl) ?_
  refine t_reg cok ?_
  refine t_cond cok ?_
  exact fi h (by kernel_rfl)
 refine oe (x := t1.2.1) h (fun q12 h => ?_) (fun o11 q12 h => ?_)
 ·skip
  refine oe (x := t1.2.2) h (fun q14 h => ?_) (fun o13 q14 h => ?_)
  ·skip
   cases h
  cases h
 refine oe (x := t1.2.2) h (fun q16 h => ?_) (fun o15 q16 h => ?_)
 ·skip
  cases h
 refine cl3 cok.g (rickyardlaw19_Made.scsss fu 9 0 _ k2 o3 q4 o11 q12 o15 q16) (.tup [.ptr 12 0, .ptr 0 0, .ptr 3 0]) [(0, .box 105 (.agg [.sl 1 4 [], .agg [.sl 2 1 [], vi .i64 o11.plan.at_], vb o11.off, vb o11.armed, vi .i64 o11.left, vi .i64 o11.steps])), (1, .row (.st .S_pmem_cell) 125 (o11.cells : List S_pmem_cell)), (2, .row (.int .i64) 3 (o11.plan.list : List Int)), (3, .box 108 (.agg [vi .i64 o15.reserve, .agg [.ptr 4 0, .ptr 6 0, .ptr 8 0, .ptr 10 0]])), (4, .box 112 (.agg [vi .i64 o15.sets.1.size, .sl 5 1 []])), (5, .row (.int .u64) 119 (o15.sets.1.words : List Int)), (6, .box 112 (.agg [vi .i64 o15.sets.2.1.size, .sl 7 1 []])), (7, .row (.int .u64) 119 (o15.sets.2.1.words : List Int)), (8, .box 112 (.agg [vi .i64 o15.sets.2.2.1.size, .sl 9 1 []])), (9, .row (.int .u64) 119 (o15.sets.2.2.1.words : List Int)), (10, .box 112 (.agg [vi .i64 o15.sets.2.2.2.size, .sl 11 1 []])), (11, .row (.int .u64) 119 (o15.sets.2.2.2.words : List Int)), (12, .box 114 (.agg [.ptr 0 0, .ptr 3 0]))] 13 (by kernel_rfl) (by kernel_rfl) ?_
 refine t_reg cok ?_
 refine t_cond cok ?_
 refine bk h fun t17 k18 h => ?_
 refine cl3 cok.g (rickyardlaw19_whole.sc fu 1 _ k18) (.sl 13 1 []) [(13, .row (.int .u8) 5 (t17 : List Int))] 14 (by kernel_rfl) (by kernel_rfl) ?_
 refine bk h fun t19 k20 h => ?_
 refine cl3 cok.g (shadow_Store_Make.sc fu (⟨o11, o15⟩ : S_shadow_Store) t17 _ k20) (.tup [vi .i64 t19.1, vi .i64 t19.2.1]) [(12, .box 114 (.agg [.ptr 0 0, .ptr 3 0])), (0, .box 105 (.agg [.sl 1 4 [], .agg [.sl 2 1 [], vi .i64 t19.2.2.device.plan.at_], vb t19.2.2.device.off, vb t19.2.2.device.armed, vi .i64 t19.2.2.device.left, vi .i64 t19.2.2.device.steps])), (1, .row (.st .S_pmem_cell) 125 (t19.2.2.device.cells : List S_pmem_cell)), (2, .row (.int .i64) 3 (t19.2.2.device.plan.list : List Int)), (3, .box 108 (.agg [vi .i64 t19.2.2.blocks.reserve, .agg [.ptr 4 0, .ptr 6 0, .ptr 8 0, .ptr 10 0]])), (4, .box 112 (.agg [vi .i64 t19.2.2.blocks.sets.1.size, .sl 5 1 []])), (5, .row (.int .u64) 119 (t19.2.2.blocks.sets.1.words : List Int)), (6, .box 112 (.agg [vi .i64 t19.2.2.blocks.sets.2.1.size, .sl 7 1 []])), (7, .row (.int .u64) 119 (t19.2.2.blocks.sets.2.1.words : List Int)), (8, .box 112 (.agg [vi .i64 t19.2.2.blocks.sets.2.2.1.size, .sl 9 1 []])), (9, .row (.int .u64) 119 (t19.2.2.blocks.sets.2.2.1.words : List Int)), (10, .box 112 (.agg [vi .i64 t19.2.2.blocks.sets.2.2.2.size, .sl 11 1 []])), (11, .row (.int .u64) 119 (t19.2.2.blocks.sets.2.2.2.words : List Int))] 27 (by kernel_rfl) (by kernel_rfl) ?_
 refine bk h fun t21 k22 h => ?_
 refine cl3 cok.g (rickyardlaw19_whole.sc fu 2 _ k22) (.sl 27 1 []) [(27, .row (.int .u8) 5 (t21 : List Int))] 28 (by kernel_rfl) (by kernel_rfl) ?_
 refine bk h fun t23 k24 h => ?_
 refine cl3 cok.g (shadow_Store_Turn.sc fu t19.2.2 t19.1 t21 _ k24) (.tup [vi .i64 t23.1, vi .i64 t23.2.1]) [(12, .box 114 (.agg [.ptr 0 0, .ptr 3 0])), (0, .box 105 (.agg [.sl 1 4 [], .agg [.sl 2 1 [], vi .i64 t23.2.2.device.plan.at_], vb t23.2.2.device.off, vb t23.2.2.device.armed, vi .i64 t23.2.2.device.left, vi .i64 t23.2.2.device.steps])), (1, .row (.st .S_pmem_cell) 125 (t23.2.2.device.cells : List S_pmem_cell)), (2, .row (.int .i64) 3 (t23.2.2.device.plan.list : List Int)), (3, .box 108 (.agg [vi .i64 t23.2.2.blocks.reserve, .agg [.ptr 4 0, .ptr 6 0, .ptr 8 0, .ptr 10 0]])), (4, .box 112 (.agg [vi .i64 t23.2.2.blocks.sets.1.size, .sl 5 1 []])), (5, .row (.int .u64) 119 (t23.2.2.blocks.sets.1.words : List Int)), (6, .box 112 (.agg [vi .i64 t23.2.2.blocks.sets.2.1.size, .sl 7 1 []])), (7, .row (.int .u64) 119 (t23.2.2.blocks.sets.2.1.words : List Int)), (8, .box 112 (.agg [vi .i64 t23.2.2.blocks.sets.2.2.1.size, .sl 9 1 []])), (9, .row (.int .u64) 119 (t23.2.2.blocks.sets.2.2.1.words : List Int)), (10, .box 112 (.agg [vi .i64 t23.2.2.blocks.sets.2.2.2.size, .sl 11 1 []])), (11, .row (.int .u64) 119 (t23.2.2.blocks.sets.2.2.2.words : List Int))] 41 (by kernel_rfl) (by kernel_rfl) ?_
 refine bk h fun t25 k26 h => ?_
 refine cl3 cok.g (alloc_Alloc_Mark.sc fu t23.2.2.blocks _ k26) (.tup []) [(3, .box 108 (.agg [vi .i64 t25.reserve, .agg [.ptr 4 0, .ptr 6 0, .ptr 50 0, .ptr 10 0]])), (4, .box 112 (.agg [vi .i64 t25.sets.1.size, .sl 5 1 []])), (5, .row (.int .u64) 119 (t25.sets.1.words : List Int)), (6, .box 112 (.agg [vi .i64 t25.sets.2.1.size, .sl 7 1 []])), (7, .row (.int .u64) 119 (t25.sets.2.1.words : List Int)), (8, .gone), (9, .gone), (10, .box 112 (.agg [vi .i64 t25.sets.2.2.2.size, .sl 11 1 []])), (11, .row (.int .u64) 119 (t25.sets.2.2.2.words : List Int)), (50, .box 112 (.agg [vi .i64 t25.sets.2.2.1.size, .sl 51 1 []])), (51, .row (.int .u64) 119 (t25.sets.2.2.1.words : List Int))] 52 (by kernel_rfl) (by kernel_rfl) ?_
 refine bk h fun t27 k28 h => ?_
 refine cl3 cok.g (rickyardlaw19_whole.sc fu 3 _ k28) (.sl 52 1 []) [(52, .row (.int .u8) 5 (t27 : List Int))] 53 (by kernel_rfl) (by kernel_rfl) ?_
 refine bk h fun t29 k30 h => ?_
 refine cl3 cok.g (shadow_Store_Turn.sc fu (⟨t23.2.2.device, t25⟩ : S_shadow_Store) t19.1 t27 _ k30) (.tup [vi .i64 t29.1, vi .i64 t29.2.1]) [(12, .box 114 (.agg [.ptr 0 0, .ptr 3 0])), (0, .box 105 (.agg [.sl 1 4 [], .agg [.sl 2 1 [], vi .i64 t29.2.2.device.plan.at_], vb t29.2.2.device.off, vb t29.2.2.device.armed, vi .i64 t29.2.2.device.left, vi .i64 t29.2.2.device.steps])), (1, .row (.st .S_pmem_cell) 125 (t29.2.2.device.cells : List S_pmem_cell)), (2, .row (.int .i64) 3 (t29.2.2.device.plan.list : List Int)), (3, .box 108 (.agg [vi .i64 t29.2.2.blocks.reserve, .agg [.ptr 4 0, .ptr 6 0, .ptr 50 0, .ptr 10 0]])), (4, .box 112 (.agg [vi .i64 t29.2.2.blocks.sets.1.size, .sl 5 1 []])), (5, .row (.int .u64) 119 (t29.2.2.blocks.sets.1.words : List Int)), (6, .box 112 (.agg [vi .i64 t29.2.2.blocks.sets.2.1.size, .sl 7 1 []])), (7, .row (.int .u64) 119 (t29.2.2.blocks.sets.2.1.words : List Int)), (50, .box 112 (.agg [vi .i64 t29.2.2.blocks.sets.2.2.1.size, .sl 51 1 []])), (51, .row (.int .u64) 119 (t29.2.2.blocks.sets.2.2.1.words : List Int)), (10, .box 112 (.agg [vi .i64 t29.2.2.blocks.sets.2.2.2.size, .sl 11 1 []])), (11, .row (.int .u64) 119 (t29.2.2.blocks.sets.2.2.2.words : List Int))] 66 (by kernel_rfl) (by kernel_rfl) ?_
 refine t_reg cok ?_
 refine bi h (fun c31 h => ?_) (fun c31 h => ?_)
 ·skip
  refine bi h (fun c32 h => ?_) (fun c32 h => ?_)
  ·skip
   refine bi h (fun c33 h => ?_) (fun c33 h => ?_)
   ·skip
    refine bi h (fun c34 h => ?_) (fun c34 h => ?_)
    ·skip
     refine bi h (fun c35 h => ?_) (fun c35 h => ?_)
     ·skip
      exact fi h (by kernel_rfl)
     exact fi h (by kernel_rfl)
    exact fi h (by kernel_rfl)
   exact fi h (by kernel_rfl)
  exact fi h (by kernel_rfl)
 exact fi h (by kernel_rfl)
def rickyardlaw19_small.s0 (fu : Nat) (a0 : List S_rickyardlaw19_Act) : Int → Option (Sum (Sum Bool Unit) Int) := fun s2 => (if (decide (s2 < (List.length a0 : Int))) = true then if 0 ≤ s2 ∧ s2 < (List.length a0 : Int) then (if (decide ((List.length ((ix a0 s2).B) : Int) > 200)) = true then some (Sum.inl (Sum.inl (false))) else some (Sum.inr ((IntKind.i64.wrap (s2 + 1))))) else none else some (Sum.inl (Sum.inr ())))
def rickyardlaw19_small.f (fu : Nat) (a0 : List S_rickyardlaw19_Act) (a1 : Int) : Option Bool := (if (decide ((List.length a0 : Int) > a1)) = true then some (false) else ((loopM (rickyardlaw19_small.s0 fu a0) fu (0)).bind fun e3 => match e3 with | Sum.inl p => some p | Sum.inr x5 => some (true)))
theorem rickyardlaw19_small.sc (fu : Nat) (a0 : List S_rickyardlaw19_Act) (a1 : Int) (r : Bool) (h : rickyardlaw19_small.f fu a0 a1 = some r) : SC Tryd.prog CT 22 [.v (.sl (.st .S_rickyardlaw19_Act)) (a0 : List S_rickyardlaw19_Act), vi .i64 a1] [] (vb r) [] := by
 unfold rickyardlaw19_small.f at h
 refine sc_of (r := r) (N := 23) (rs := [.tmp 4]) (V := fun (r : Bool) => vb r) (R' := fun (r : Bool) => []) cok Tryd.func22 rfl rfl rfl (by kernel_rfl) (by kernel_rfl) rfl rfl fun X => ?_
 refine t_cond cok ?_
 refine bi h (fun c1 h => ?_) (fun c1 h => ?_)
 ·skip
  exact fi h (by kernel_rfl)
 refine bk h fun e3 l4 h => ?_
 refine t_cutxS cok 0 (fun (_x : Unit) => ⟨[], []⟩) e3 ?_ (fun x5 hy => ?_)
 ·skip
  have h6 := h
  refine t_loop cok (fun (s2 : Int) => ⟨[(0, .v (.sl (.st .S_rickyardlaw19_Act)) (a0 : List S_rickyardlaw19_Act)), (5, vi .i64 s2)], []⟩) l4 (by kernel_rfl) (fun s2 x7 h => ?_)
  unfold rickyardlaw19_small.s0 at h
  refine t_cond cok ?_
  refine bi h (fun c8 h => ?_) (fun c8 h => ?_)
  ·skip
   refine ag h fun h => ?_
   refine t_cond cok ?_
   refine bi h (fun c9 h => ?_) (fun c9 h => ?_)
   ·skip
    refine lpr h (fun hy => ?_)
    have h := h6
    rw [← hy] at h
    exact fi h (by kernel_rfl)
   exact lpi h (by kernel_rfl)
  exact lpx h (fun hy => ems (sj hy) (by kernel_rfl))
 subst hy
 exact fi h (by kernel_rfl)
def rickyardref01_Ints.s0 (fu : Nat) (a0 : List Int) (a1 : List Int) : Int → Option (Sum (Sum Bool Unit) Int) := fun s2 => (if (decide (s2 < (List.length a0 : Int))) = true then if 0 ≤ s2 ∧ s2 < (List.length a0 : Int) then if 0 ≤ s2 ∧ s2 < (List.length a1 : Int) then (if (!decide ((ix a0 s2) = (ix a1 s2))) = true then some (Sum.inl (Sum.inl (false))) else some (Sum.inr ((IntKind.i64.wrap (s2 + 1))))) else none else none else some (Sum.inl (Sum.inr ())))
def rickyardref01_Ints.f (fu : Nat) (a0 : List Int) (a1 : List Int) : Option Bool := (if (!decide ((List.length a0 : Int) = (List.length a1 : Int))) = true then some (false) else ((loopM (rickyardref01_Ints.s0 fu a0 a1) fu (0)).bind fun e3 => match e3 with | Sum.inl p => some p | Sum.inr x5 => some (true)))
theorem rickyardref01_Ints.sc (fu : Nat) (a0 : List Int) (a1 : List Int) (r : Bool) (h : rickyardref01_Ints.f fu a0 a1 = some r) : SC Tryd.prog CT 28 [.v (.sl (.int .i64)) (a0 : List Int), .v (.sl (.int .i64)) (a1 : List Int)] [] (vb r) [] := by
 unfold rickyardref01_Ints.f at h
 refine sc_of (r := r) (N := 26) (rs := [.tmp 4]) (V := fun (r : Bool) => vb r) (R' := fun (r : Bool) => []) cok Tryd.func28 rfl rfl rfl (by kernel_rfl) (by kernel_rfl) rfl rfl fun X => ?_
 refine t_cond cok ?_
 refine bi h (fun c1 h => ?_) (fun c1 h => ?_)
 ·skip
  exact fi h (by kernel_rfl)
 refine bk h fun e3 l4 h => ?_
 refine t_cutxS cok 0 (fun (_x : Unit) => ⟨[], []⟩) e3 ?_ (fun x5 hy => ?_)
 ·skip
  have h6 := h
  refine t_loop cok (fun (s2 : Int) => ⟨[(0, .v (.sl (.int .i64)) (a0 : List Int)), (1, .v (.sl (.int .i64)) (a1 : List Int)), (5, vi .i64 s2)], []⟩) l4 (by kernel_rfl) (fun s2 x7 h => ?_)
  unfold rickyardref01_Ints.s0 at h
  refine t_cond cok ?_
  refine bi h (fun c8 h => ?_) (fun c8 h => ?_)
  ·skip
   refine t_draw cok mo [⟨0, false, [0], [], 0, []⟩, ⟨1, false, [5], [], 0, []⟩, ⟨2, false, [17, 18], [], 0, [0, 1]⟩, ⟨3, false, [19], [], 0, [0, 1, 2]⟩, ⟨4, false, [1], [], 0, []⟩, ⟨5, false, [5], [], 0, []⟩, ⟨6, false, [21, 22], [], 0, [4, 5]⟩, ⟨7, false, [23], [], 0, [4, 5, 6]⟩, ⟨8, false, [20, 24], [], 0, [0, 1, 2, 3, 4, 5, 6, 7]⟩] (by kernel_rfl) ?_
   refine ag h fun h => ?_
   refine ag h fun h => ?_
   refine t_cond cok ?_
   refine bi h (fun c9 h => ?_) (fun c9 h => ?_)
   ·skip
    refine lpr h (fun hy => ?_)
    have h := h6
    rw [← hy] at h
    exact fi h (by kernel_rfl)
   exact lpi h (by kernel_rfl)
  exact lpx h (fun hy => ems (sj hy) (by kernel_rfl))
 subst hy
 exact fi h (by kernel_rfl)
def rickyardref01_Rest.f (fu : Nat) (a0 : Int) (a1 : Int) : Option Int := if a1 ≠ 0 then if a1 ≠ 0 then some ((Int.tmod (IntKind.i64.wrap ((Int.tmod a0 a1) + a1)) a1)) else none else none
theorem rickyardref01_Rest.sc (fu : Nat) (a0 : Int) (a1 : Int) (r : Int) (h : rickyardref01_Rest.f fu a0 a1 = some r) : SC Tryd.prog CT 26 [vi .i64 a0, vi .i64 a1] [] (vi .i64 r) [] := by
 unfold rickyardref01_Rest.f at h
 refine sc_of (r := r) (N := 12) (rs := [.tmp 4]) (V := fun (r : Int) => vi .i64 r) (R' := fun (r : Int) => []) cok Tryd.func26 rfl rfl rfl (by kernel_rfl) (by kernel_rfl) rfl rfl fun X => ?_
 refine ag h fun h => ?_
 refine ag h fun h => ?_
 exact fi h (by kernel_rfl)
def rickyardref05_Device_Arm.f (fu : Nat) (a0 : S_rickyardref05_Device) (a1 : Int) : Option S_rickyardref05_Device := (((if (!decide (a0.Left = 0)) = true then some ((mxI a1 (-1))) else some (a0.Left)) : Option Int).bind fun x1 => some ((⟨a0.Lasts, a0.Stored, a0.Sent, a0.Flushed, a0.Plan, a0.Since, x1, a0.Steps⟩ : S_rickyardref05_Device)))
theorem rickyardref05_Device_Arm.sc (fu : Nat) (a0 : S_rickyardref05_Device) (a1 : Int) (r : S_rickyardref05_Device) (h : rickyardref05_Device_Arm.f fu a0 a1 = some r) : SC Tryd.prog CT 43 [.ptr 0 0, vi .i64 a1] [.box 83 (.agg [.sl 1 1 [], .sl 2 1 [], .sl 3 1 [], .sl 4 1 [], .v (.sl (.int .i64)) (a0.Plan : List Int), vi .i64 a0.Since, vi .i64 a0.Left, vi .i64 a0.Steps]), .row (.int .u64) 119 (a0.Lasts : List Int), .row (.int .u64) 119 (a0.Stored : List Int), .row (.int .u64) 119 (a0.Sent : List Int), .row (.bool) 4 (a0.Flushed : List Bool)] (.tup []) [.box 83 (.agg [.sl 1 1 [], .sl 2 1 [], .sl 3 1 [], .sl 4 1 [], .v (.sl (.int .i64)) (r.Plan : List Int), vi .i64 r.Since, vi .i64 r.Left, vi .i64 r.Steps]), .row (.int .u64) 119 (r.Lasts : List Int), .row (.int .u64) 119 (r.Stored : List Int), .row (.int .u64) 119 (r.Sent : List Int), .row (.bool) 4 (r.Flushed : List Bool)] := by
 unfold rickyardref05_Device_Arm.f at h
 refine sc_of (r := r) (N := 14) (rs := []) (V := fun (r : S_rickyardref05_Device) => .tup []) (R' := fun (r : S_rickyardref05_Device) => [.box 83 (.agg [.sl 1 1 [], .sl 2 1 [], .sl 3 1 [], .sl 4 1 [], .v (.sl (.int .i64)) (r.Plan : List Int), vi .i64 r.Since, vi .i64 r.Left, vi .i64 r.Steps]), .row (.int .u64) 119 (r.Lasts : List Int), .row (.int .u64) 119 (r.Stored : List Int), .row (.int .u64) 119 (r.Sent : List Int), .row (.bool) 4 (r.Flushed : List Bool)]) cok Tryd.func43 rfl rfl rfl (by kernel_rfl) (by kernel_rfl) rfl rfl fun X => ?_
 refine bk h fun x1 j2 h => ?_
 refine t_cut cok (fun (x1 : Int) => ⟨[], [.box 83 (.agg [.sl 1 1 [], .sl 2 1 [], .sl 3 1 [], .sl 4 1 [], .v (.sl (.int .i64)) (a0.Plan : List Int), vi .i64 a0.Since, vi .i64 x1, vi .i64 a0.Steps]), .row (.int .u64) 119 (a0.Lasts : List Int), .row (.int .u64) 119 (a0.Stored : List Int), .row (.int .u64) 119 (a0.Sent : List Int), .row (.bool) 4 (a0.Flushed : List Bool)]⟩) x1 ?_ ?_
 ·skip
  have h3 := h
  have h := j2
  refine t_cond cok ?_
  refine bi h (fun c4 h => ?_) (fun c4 h => ?_)
  ·skip
   exact em h (by kernel_rfl)
  exact em h (by kernel_rfl)
 exact fiN h (by kernel_rfl)
def rickyardref05_Device_error.f (fu : Nat) (a0 : S_rickyardref05_Device) (a1 : Int) (a2 : Int) : Option Int := (if (decide (a0.Left = 0)) = true then some (3) else (if (decide (a1 < 0)) = true then some (2) else (if (decide (a1 ≥ a2)) = true then some (2) else some (0))))
theorem rickyardref05_Device_error.sc (fu : Nat) (a0 : S_rickyardref05_Device) (a1 : Int) (a2 : Int) (r : Int) (h : rickyardref05_Device_error.f fu a0 a1 a2 = some r) : SC Tryd.prog CT 79 [.ptr 0 0, vi .i64 a1, vi .i64 a2] [.box 83 (.agg [.sl 1 1 [], .sl 2 1 [], .sl 3 1 [], .sl 4 1 [], .v (.sl (.int .i64)) (a0.Plan : List Int), vi .i64 a0.Since, vi .i64 a0.Left, vi .i64 a0.Steps]), .row (.int .u64) 119 (a0.Lasts : List Int), .row (.int .u64) 119 (a0.Stored : List Int), .row (.int .u64) 119 (a0.Sent : List Int), .row (.bool) 4 (a0.Flushed : List Bool)] (vi .i64 r) [.box 83 (.agg [.sl 1 1 [], .sl 2 1 [], .sl 3 1 [], .sl 4 1 [], .v (.sl (.int .i64)) (a0.Plan : List Int), vi .i64 a0.Since, vi .i64 a0.Left, vi .i64 a0.Steps]), .row (.int .u64) 119 (a0.Lasts : List Int), .row (.int .u64) 119 (a0.Stored : List Int), .row (.int .u64) 119 (a0.Sent : List Int), .row (.bool) 4 (a0.Flushed : List Bool)] := by
 unfold rickyardref05_Device_error.f at h
 refine sc_of (r := r) (N := 19) (rs := [.tmp 6]) (V := fun (r : Int) => vi .i64 r) (R' := fun (r : Int) => [.box 83 (.agg [.sl 1 1 [], .sl 2 1 [], .sl 3 1 [], .sl 4 1 [], .v (.sl (.int .i64)) (a0.Plan : List Int), vi .i64 a0.Since, vi .i64 a0.Left, vi .i64 a0.Steps]), .row (.int .u64) 119 (a0.Lasts : List Int), .row (.int .u64) 119 (a0.Stored : List Int), .row (.int .u64) 119 (a0.Sent : List Int), .row (.bool) 4 (a0.Flushed : List Bool)]) cok Tryd.func79 rfl rfl rfl (by kernel_rfl) (by kernel_rfl) rfl rfl fun X => ?_
 refine t_cond cok ?_
 refine bi h (fun c1 h => ?_) (fun c1 h => ?_)
 ·skip
  exact fi h (by kernel_rfl)
 refine t_reg cok ?_
 refine bi h (fun c2 h => ?_) (fun c2 h => ?_)
 ·skip
  refine t_cond cok ?_
  exact fi h (by kernel_rfl)
 refine t_cond cok ?_
 refine bi h (fun c3 h => ?_) (fun c3 h => ?_)
 ·skip
  exact fi h (by kernel_rfl)
 exact fi h (by kernel_rfl)
def rickyardref05_Device_last.f (fu : Nat) (a0 : S_rickyardref05_Device) (a1 : Int) (a2 : Int) : Option S_rickyardref05_Device := if 0 ≤ a1 ∧ a1 < (List.length a0.Lasts : Int) then if 0 ≤ a1 ∧ a1 < (List.length a0.Sent : Int) then if 0 ≤ a1 ∧ a1 < (List.length a0.Flushed : Int) then some ((⟨(List.set a0.Lasts (Int.toNat a1) a2), a0.Stored, (List.set a0.Sent (Int.toNat a1) 0), (List.set a0.Flushed (Int.toNat a1) false), a0.Plan, a0.Since, a0.Left, a0.Steps⟩ : S_rickyardref05_Device)) else none else none else none
theorem rickyardref05_Device_last.sc (fu : Nat) (a0 : S_rickyardref05_Device) (a1 : Int) (a2 : Int) (r : S_rickyardref05_Device) (h : rickyardref05_Device_last.f fu a0 a1 a2 = some r) : SC Tryd.prog CT 80 [.ptr 0 0, vi .i64 a1, vi .u64 a2] [.box 83 (.agg [.sl 1 1 [], .sl 2 1 [], .sl 3 1 [], .sl 4 1 [], .v (.sl (.int .i64)) (a0.Plan : List Int), vi .i64 a0.Since, vi .i64 a0.Left, vi .i64 a0.Steps]), .row (.int .u64) 119 (a0.Lasts : List Int), .row (.int .u64) 119 (a0.Stored : List Int), .row (.int .u64) 119 (a0.Sent : List Int), .row (.bool) 4 (a0.Flushed : List Bool)] (.tup []) [.box 83 (.agg [.sl 1 1 [], .sl 2 1 [], .sl 3 1 [], .sl 4 1 [], .v (.sl (.int .i64)) (r.Plan : List Int), vi .i64 r.Since, vi .i64 r.Left, vi .i64 r.Steps]), .row (.int .u64) 119 (r.Lasts : List Int), .row (.int .u64) 119 (r.Stored : List Int), .row (.int .u64) 119 (r.Sent : List Int), .row (.bool) 4 (r.Flushed : List Bool)] := by
 unfold rickyardref05_Device_last.f at h
 refine sc_of (r := r) (N := 25) (rs := []) (V := fun (r : S_rickyardref05_Device) => .tup []) (R' := fun (r : S_rickyardref05_Device) => [.box 83 (.agg [.sl 1 1 [], .sl 2 1 [], .sl 3 1 [], .sl 4 1 [], .v (.sl (.int .i64)) (r.Plan : List Int), vi .i64 r.Since, vi .i64 r.Left, vi .i64 r.Steps]), .row (.int .u64) 119 (r.Lasts : List Int), .row (.int .u64) 119 (r.Stored : List Int), .row (.int .u64) 119 (r.Sent : List Int), .row (.bool) 4 (r.Flushed : List Bool)]) cok Tryd.func80 rfl rfl rfl (by kernel_rfl) (by kernel_rfl) rfl rfl fun X => ?_
 refine ag h fun h => ?_
 refine ag h fun h => ?_
 refine ag h fun h => ?_
 exact fiN h (by kernel_rfl)
def rickyardref05_Device_step.f (fu : Nat) (a0 : S_rickyardref05_Device) : Option S_rickyardref05_Device := (if (decide ((List.length a0.Plan : Int) > 0)) = true then (((if (decide ((List.length a0.Lasts : Int) > 0)) = true then if (List.length a0.Plan : Int) ≠ 0 then if 0 ≤ (Int.tmod a0.Since (List.length a0.Plan : Int)) ∧ (Int.tmod a0.Since (List.length a0.Plan : Int)) < (List.length a0.Plan : Int) then (((if (decide ((ix a0.Plan (Int.tmod a0.Since (List.length a0.Plan : Int))) ≥ 0)) = true then if (List.length a0.Lasts : Int) ≠ 0 then if (List.length a0.Lasts : Int) ≠ 0 then if 0 ≤ (Int.tmod (ix a0.Plan (Int.tmod a0.Since (List.length a0.Plan : Int))) (List.length a0.Lasts : Int)) ∧ (Int.tmod (ix a0.Plan (Int.tmod a0.Since (List.length a0.Plan : Int))) (List.length a0.Lasts : Int)) < (List.length a0.Stored : Int) then ((rickyardref05_Device_last.f fu a0 (Int.tmod (ix a0.Plan (Int.tmod a0.Since (List.length a0.Plan : Int))) (List.length a0.Lasts : Int)) (ix a0.Stored (Int.tmod (ix a0.Plan (Int.tmod a0.Since (List.length a0.Plan : Int))) (List.length a0.Lasts : Int)))).bind fun t10 => some (t10)) else none else none else none else some (a0)) : Option S_rickyardref05_Device).bind fun x6 => some (x6)) else none else none else some (a0)) : Option S_rickyardref05_Device).bind fun x2 => (((if (decide (x2.Left > 0)) = true then some ((IntKind.i64.wrap (x2.Left - 1))) else some (x2.Left)) : Option Int).bind fun x12 => some ((⟨x2.Lasts, x2.Stored, x2.Sent, x2.Flushed, x2.Plan, (IntKind.i64.wrap (x2.Since + 1)), x12, (IntKind.i64.wrap (x2.Steps + 1))⟩ : S_rickyardref05_Device)))) else (((if (decide (a0.Left > 0)) = true then some ((IntKind.i64.wrap (a0.Left - 1))) else some (a0.Left)) : Option Int).bind fun x16 => some ((⟨a0.Lasts, a0.Stored, a0.Sent, a0.Flushed, a0.Plan, (IntKind.i64.wrap (a0.Since + 1)), x16, (IntKind.i64.wrap (a0.Steps + 1))⟩ : S_rickyardref05_Device))))
theorem rickyardref05_Device_step.sc (fu : Nat) (a0 : S_rickyardref05_Device) (r : S_rickyardref05_Device) (h : rickyardref05_Device_step.f fu a0 = some r) : SC Tryd.prog CT 81 [.ptr 0 0] [.box 83 (.agg [.sl 1 1 [], .sl 2 1 [], .sl 3 1 [], .sl 4 1 [], .v (.sl (.int .i64)) (a0.Plan : List Int), vi .i64 a0.Since, vi .i64 a0.Left, vi .i64 a0.Steps]), .row (.int .u64) 119 (a0.Lasts : List Int), .row (.int .u64) 119 (a0.Stored : List Int), .row (.int .u64) 119 (a0.Sent : List Int), .row (.bool) 4 (a0.Flushed : List Bool)] (.tup []) [.box 83 (.agg [.sl 1 1 [], .sl 2 1 [], .sl 3 1 [], .sl 4 1 [], .v (.sl (.int .i64)) (r.Plan : List Int), vi .i64 r.Since, vi .i64 r.Left, vi .i64 r.Steps]), .row (.int .u64) 119 (r.Lasts : List Int), .row (.int .u64) 119 (r.Stored : List Int), .row (.int .u64) 119 (r.Sent : List Int), .row (.bool) 4 (r.Flushed : List Bool)] := by
 unfold rickyardref05_Device_step.f at h
 refine sc_of (r := r) (N := 78) (rs := []) (V := fun (r : S_rickyardref05_Device) => .tup []) (R' := fun (r : S_rickyardref05_Device) => [.box 83 (.agg [.sl 1 1 [], .sl 2 1 [], .sl 3 1 [], .sl 4 1 [], .v (.sl (.int .i64)) (r.Plan : List Int), vi .i64 r.Since, vi .i64 r.Left, vi .i64 r.Steps]), .row (.int .u64) 119 (r.Lasts : List Int), .row (.int .u64) 119 (r.Stored : List Int), .row (.int .u64) 119 (r.Sent : List Int), .row (.bool) 4 (r.Flushed : List Bool)]) cok Tryd.func81 rfl rfl rfl (by kernel_rfl) (by kernel_rfl) rfl rfl fun X => ?_
 refine t_reg cok ?_
 refine bi h (fun c1 h => ?_) (fun c1 h => ?_)
 ·skip
  refine bk h fun x2 j3 h => ?_
  refine t_cut cok (fun (x2 : S_rickyardref05_Device) => ⟨[(0, .ptr 0 0)], [.box 83 (.agg [.sl 1 1 [], .sl 2 1 [], .sl 3 1 [], .sl 4 1 [], .v (.sl (.int .i64)) (x2.Plan : List Int), vi .i64 x2.Since, vi .i64 x2.Left, vi .i64 x2.Steps]), .row (.int .u64) 119 (x2.Lasts : List Int), .row (.int .u64) 119 (x2.Stored : List Int), .row (.int .u64) 119 (x2.Sent : List Int), .row (.bool) 4 (x2.Flushed : List Bool)]⟩) x2 ?_ ?_
  ·skip
   have h4 := h
   have h := j3
   refine t_cond cok ?_
   refine bi h (fun c5 h => ?_) (fun c5 h => ?_)
   ·skip
    refine t_draw cok mo [⟨0, false, [0], [], 0, []⟩, ⟨1, false, [19], [], 0, [0]⟩, ⟨2, false, [20], [], 0, [0, 1]⟩, ⟨3, false, [21], [0], 0, [0, 1, 2]⟩, ⟨4, false, [0], [], 0, []⟩, ⟨5, false, [23], [], 0, [4]⟩, ⟨6, false, [24], [], 0, [4, 5]⟩, ⟨7, false, [25], [0], 0, [4, 5, 6]⟩, ⟨8, false, [0], [], 0, []⟩, ⟨9, false, [27], [], 0, [8]⟩, ⟨10, false, [28], [], 0, [8, 9]⟩, ⟨11, false, [29], [0], 0, [8, 9, 10]⟩, ⟨12, false, [30], [], 0, [8, 9, 10, 11]⟩, ⟨13, false, [26, 31], [], 0, [4, 5, 6, 7, 8, 9, 10, 11, 12]⟩, ⟨14, false, [22, 32], [], 0, [0, 1, 2, 3, 4, 5, 6, 7, 8, 9, 10, 11, 12, 13]⟩, ⟨15, false, [33], [], 0, [0, 1, 2, 3, 4, 5, 6, 7, 8, 9, 10, 11, 12, 13, 14]⟩, ⟨16, false, [34], [], 0, [0, 1, 2, 3, 4, 5, 6, 7, 8, 9, 10, 11, 12, 13, 14, 15]⟩] (by kernel_rfl) ?_
    refine ag h fun h => ?_
    refine ag h fun h => ?_
    refine bk h fun x6 j7 h => ?_
    refine t_cut cok (fun (x6 : S_rickyardref05_Device) => ⟨[(0, .ptr 0 0)], [.box 83 (.agg [.sl 1 1 [], .sl 2 1 [], .sl 3 1 [], .sl 4 1 [], .v (.sl (.int .i64)) (x6.Plan : List Int), vi .i64 x6.Since, vi .i64 x6.Left, vi .i64 x6.Steps]), .row (.int .u64) 119 (x6.Lasts : List Int), .row (.int .u64) 119 (x6.Stored : List Int), .row (.int .u64) 119 (x6.Sent : List Int), .row (.bool) 4 (x6.Flushed : List Bool)]⟩) x6 ?_ ?_
    ·skip
     have h8 := h
     have h := j7
     refine t_cond cok ?_
     refine bi h (fun c9 h => ?_) (fun c9 h => ?_)
     ·skip
      refine t_draw cok mo [⟨0, false, [0], [], 0, []⟩, ⟨1, false, [3], [], 0, []⟩, ⟨2, false, [2], [], 0, []⟩, ⟨3, false, [38, 39], [], 0, [1, 2]⟩, ⟨4, false, [0], [], 0, []⟩, ⟨5, false, [41], [], 0, [4]⟩, ⟨6, false, [42], [], 0, [4, 5]⟩, ⟨7, false, [43], [0], 0, [4, 5, 6]⟩, ⟨8, false, [3], [], 0, []⟩, ⟨9, false, [2], [], 0, []⟩, ⟨10, false, [45, 46], [], 0, [8, 9]⟩, ⟨11, false, [44, 47], [2], 0, [4, 5, 6, 7, 8, 9, 10]⟩, ⟨12, false, [48], [2], 0, [4, 5, 6, 7, 8, 9, 10, 11]⟩, ⟨13, true, [37, 40, 49], [0, 1, 2, 3, 4], 5, [0, 1, 2, 3, 4, 5, 6, 7, 8, 9, 10, 11, 12]⟩] (by kernel_rfl) ?_
      refine ag h fun h => ?_
      refine ag h fun h => ?_
      refine ag h fun h => ?_
      refine bk h fun t10 k11 h => ?_
      refine cl3 cok.g (rickyardref05_Device_last.sc fu a0 (Int.tmod (ix a0.Plan (Int.tmod a0.Since (List.length a0.Plan : Int))) (List.length a0.Lasts : Int)) (ix a0.Stored (Int.tmod (ix a0.Plan (Int.tmod a0.Since (List.length a0.Plan : Int))) (List.length a0.Lasts : Int))) _ k11) (.tup []) [(0, .box 83 (.agg [.sl 1 1 [], .sl 2 1 [], .sl 3 1 [], .sl 4 1 [], .v (.sl (.int .i64)) (t10.Plan : List Int), vi .i64 t10.Since, vi .i64 t10.Left, vi .i64 t10.Steps])), (1, .row (.int .u64) 119 (t10.Lasts : List Int)), (2, .row (.int .u64) 119 (t10.Stored : List Int)), (3, .row (.int .u64) 119 (t10.Sent : List Int)), (4, .row (.bool) 4 (t10.Flushed : List Bool))] 10 (by kernel_rfl) (by kernel_rfl) ?_
      exact em h (by kernel_rfl)
     exact em h (by kernel_rfl)
    exact em h (by kernel_rfl)
   exact em h (by kernel_rfl)
  refine bk h fun x12 j13 h => ?_
  refine t_cut cok (fun (x12 : Int) => ⟨[], [.box 83 (.agg [.sl 1 1 [], .sl 2 1 [], .sl 3 1 [], .sl 4 1 [], .v (.sl (.int .i64)) (x2.Plan : List Int), vi .i64 (IntKind.i64.wrap (x2.Since + 1)), vi .i64 x12, vi .i64 (IntKind.i64.wrap (x2.Steps + 1))]), .row (.int .u64) 119 (x2.Lasts : List Int), .row (.int .u64) 119 (x2.Stored : List Int), .row (.int .u64) 119 (x2.Sent : List Int), .row (.bool) 4 (x2.Flushed : List Bool)]⟩) x12 ?_ ?_
  ·skip
   have h14 := h
   have h := j13
   refine t_cond cok ?_
   refine bi h (fun c15 h => ?_) (fun c15 h => ?_)
   ·skip
    exact em h (by kernel_rfl)
   exact em h (by kernel_rfl)
  exact fiN h (by kernel_rfl)
 refine t_cond cok ?_
 refine bk h fun x16 j17 h => ?_
 refine t_cut cok (fun (x16 : Int) => ⟨[], [.box 83 (.agg [.sl 1 1 [], .sl 2 1 [], .sl 3 1 [], .sl 4 1 [], .v (.sl (.int .i64)) (a0.Plan : List Int), vi .i64 (IntKind.i64.wrap (a0.Since + 1)), vi .i64 x16, vi .i64 (IntKind.i64.wrap (a0.Steps + 1))]), .row (.int .u64) 119 (a0.Lasts : List Int), .row (.int .u64) 119 (a0.Stored : List Int), .row (.int .u64) 119 (a0.Sent : List Int), .row (.bool) 4 (a0.Flushed : List Bool)]⟩) x16 ?_ ?_
 ·skip
  have h18 := h
  have h := j17
  refine t_cond cok ?_
  refine bi h (fun c19 h => ?_) (fun c19 h => ?_)
  ·skip
   exact em h (by kernel_rfl)
  exact em h (by kernel_rfl)
 exact fiN h (by kernel_rfl)
def rickyardref05_Device_Fence.s0 (fu : Nat) : (Int × S_rickyardref05_Device) → Option (Sum S_rickyardref05_Device (Int × S_rickyardref05_Device)) := fun s7 => (if (decide (s7.1 < (List.length s7.2.Lasts : Int))) = true then if 0 ≤ s7.1 ∧ s7.1 < (List.length s7.2.Flushed : Int) then (((if (ix s7.2.Flushed s7.1) = true then if 0 ≤ s7.1 ∧ s7.1 < (List.length s7.2.Sent : Int) then ((rickyardref05_Device_last.f fu s7.2 s7.1 (ix s7.2.Sent s7.1)).bind fun t17 => some (t17)) else none else some (s7.2)) : Option S_rickyardref05_Device).bind fun x13 => some (Sum.inr ((IntKind.i64.wrap (s7.1 + 1)), x13))) else none else some (Sum.inl (s7.2)))
def rickyardref05_Device_Fence.f (fu : Nat) (a0 : S_rickyardref05_Device) : Option (Int × S_rickyardref05_Device) := ((rickyardref05_Device_error.f fu a0 0 1).bind fun t1 => (((if (decide (t1 = 0)) = true then ((loopM (rickyardref05_Device_Fence.s0 fu) fu (0, a0)).bind fun e8 => ((rickyardref05_Device_step.f fu e8).bind fun t19 => some (t19))) else some (a0)) : Option S_rickyardref05_Device).bind fun x3 => some (t1, x3)))
theorem rickyardref05_Device_Fence.sc (fu : Nat) (a0 : S_rickyardref05_Device) (r : Int × S_rickyardref05_Device) (h : rickyardref05_Device_Fence.f fu a0 = some r) : SC Tryd.prog CT 39 [.ptr 0 0] [.box 83 (.agg [.sl 1 1 [], .sl 2 1 [], .sl 3 1 [], .sl 4 1 [], .v (.sl (.int .i64)) (a0.Plan : List Int), vi .i64 a0.Since, vi .i64 a0.Left, vi .i64 a0.Steps]), .row (.int .u64) 119 (a0.Lasts : List Int), .row (.int .u64) 119 (a0.Stored : List Int), .row (.int .u64) 119 (a0.Sent : List Int), .row (.bool) 4 (a0.Flushed : List Bool)] (vi .i64 r.1) [.box 83 (.agg [.sl 1 1 [], .sl 2 1 [], .sl 3 1 [], .sl 4 1 [], .v (.sl (.int .i64)) (r.2.Plan : List Int), vi .i64 r.2.Since, vi .i64 r.2.Left, vi .i64 r.2.Steps]), .row (.int .u64) 119 (r.2.Lasts : List Int), .row (.int .u64) 119 (r.2.Stored : List Int), .row (.int .u64) 119 (r.2.Sent : List Int), .row (.bool) 4 (r.2.Flushed : List Bool)] := by
 unfold rickyardref05_Device_Fence.f at h
 refine sc_of (r := r) (N := 38) (rs := [.tmp 2]) (V := fun (r : Int × S_rickyardref05_Device) => vi .i64 r.1) (R' := fun (r : Int × S_rickyardref05_Device) => [.box 83 (.agg [.sl 1 1 [], .sl 2 1 [], .sl 3 1 [], .sl 4 1 [], .v (.sl (.int .i64)) (r.2.Plan : List Int), vi .i64 r.2.Since, vi .i64 r.2.Left, vi .i64 r.2.Steps]), .row (.int .u64) 119 (r.2.Lasts : List Int), .row (.int .u64) 119 (r.2.Stored : List Int), .row (.int .u64) 119 (r.2.Sent : List Int), .row (.bool) 4 (r.2.Flushed : List Bool)]) cok Tryd.func39 rfl rfl rfl (by kernel_rfl) (by kernel_rfl) rfl rfl fun X => ?_
 refine bk h fun t1 k2 h => ?_
 refine cl3 cok.g (rickyardref05_Device_error.sc fu a0 0 1 _ k2) (vi .i64 t1) [(0, .box 83 (.agg [.sl 1 1 [], .sl 2 1 [], .sl 3 1 [], .sl 4 1 [], .v (.sl (.int .i64)) (a0.Plan : List Int), vi .i64 a0.Since, vi .i64 a0.Left, vi .i64 a0.Steps])), (1, .row (.int .u64) 119 (a0.Lasts : List Int)), (2, .row (.int .u64) 119 (a0.Stored : List Int)), (3, .row (.int .u64) 119 (a0.Sent : List Int)), (4, .row (.bool) 4 (a0.Flushed : List Bool))] 10 (by kernel_rfl) (by kernel_rfl) ?_
 refine bk h fun x3 j4 h => ?_
 refine t_cut cok (fun (x3 : S_rickyardref05_Device) => ⟨[(3, vi .i64 t1)], [.box 83 (.agg [.sl 1 1 [], .sl 2 1 [], .sl 3 1 [], .sl 4 1 [], .v (.sl (.int .i64)) (x3.Plan : List Int), vi .i64 x3.Since, vi .i64 x3.Left, vi .i64 x3.Steps]), .row (.int .u64) 119 (x3.Lasts : List Int), .row (.int .u64) 119 (x3.Stored : List Int), .row (.int .u64) 119 (x3.Sent : List Int), .row (.bool) 4 (x3.Flushed : List Bool)]⟩) x3 ?_ ?_
 ·skip
  have h5 := h
  have h := j4
  refine t_cond cok ?_
  refine bi h (fun c6 h => ?_) (fun c6 h => ?_)
  ·skip
   refine bk h fun e8 l9 h => ?_
   refine t_cutx cok 0 (fun (e8 : S_rickyardref05_Device) => ⟨[(0, .ptr 0 0), (3, vi .i64 t1)], [.box 83 (.agg [.sl 1 1 [], .sl 2 1 [], .sl 3 1 [], .sl 4 1 [], .v (.sl (.int .i64)) (e8.Plan : List Int), vi .i64 e8.Since, vi .i64 e8.Left, vi .i64 e8.Steps]), .row (.int .u64) 119 (e8.Lasts : List Int), .row (.int .u64) 119 (e8.Stored : List Int), .row (.int .u64) 119 (e8.Sent : List Int), .row (.bool) 4 (e8.Flushed : List Bool)]⟩) e8 ?_ ?_
   ·skip
    have h10 := h
    refine t_loop cok (fun (s7 : Int × S_rickyardref05_Device) => ⟨[(0, .ptr 0 0), (3, vi .i64 t1), (4, vi .i64 s7.1)], [.box 83 (.agg [.sl 1 1 [], .sl 2 1 [], .sl 3 1 [], .sl 4 1 [], .v (.sl (.int .i64)) (s7.2.Plan : List Int), vi .i64 s7.2.Since, vi .i64 s7.2.Left, vi .i64 s7.2.Steps]), .row (.int .u64) 119 (s7.2.Lasts : List Int), .row (.int .u64) 119 (s7.2.Stored : List Int), .row (.int .u64) 119 (s7.2.Sent : List Int), .row (.bool) 4 (s7.2.Flushed : List Bool)]⟩) l9 (by kernel_rfl) (fun s7 x11 h => ?_)
    unfold rickyardref05_Device_Fence.s0 at h
    refine t_cond cok ?_
    refine bi h (fun c12 h => ?_) (fun c12 h => ?_)
    ·skip
     refine ag h fun h => ?_
     refine bk h fun x13 j14 h => ?_
     refine t_cut cok (fun (x13 : S_rickyardref05_Device) => ⟨[(0, .ptr 0 0), (3, vi .i64 t1), (4, vi .i64 s7.1)], [.box 83 (.agg [.sl 1 1 [], .sl 2 1 [], .sl 3 1 [], .sl 4 1 [], .v (.sl (.int .i64)) (x13.Plan : List Int), vi .i64 x13.Since, vi .i64 x13.Left, vi .i64 x13.Steps]), .row (.int .u64) 119 (x13.Lasts : List Int), .row (.int .u64) 119 (x13.Stored : List Int), .row (.int .u64) 119 (x13.Sent : List Int), .row (.bool) 4 (x13.Flushed : List Bool)]⟩) x13 ?_ ?_
     ·skip
      have h15 := h
      have h := j14
      refine t_cond cok ?_
      refine bi h (fun c16 h => ?_) (fun c16 h => ?_)
      ·skip
       refine ag h fun h => ?_
       refine bk h fun t17 k18 h => ?_
       refine cl3 cok.g (rickyardref05_Device_last.sc fu s7.2 s7.1 (ix s7.2.Sent s7.1) _ k18) (.tup []) [(0, .box 83 (.agg [.sl 1 1 [], .sl 2 1 [], .sl 3 1 [], .sl 4 1 [], .v (.sl (.int .i64)) (t17.Plan : List Int), vi .i64 t17.Since, vi .i64 t17.Left, vi .i64 t17.Steps])), (1, .row (.int .u64) 119 (t17.Lasts : List Int)), (2, .row (.int .u64) 119 (t17.Stored : List Int)), (3, .row (.int .u64) 119 (t17.Sent : List Int)), (4, .row (.bool) 4 (t17.Flushed : List Bool))] 10 (by kernel_rfl) (by kernel_rfl) ?_
       exact em h (by kernel_rfl)
      exact em h (by kernel_rfl)
     exact lpi h (by kernel_rfl)
    exact lpx h (fun hy => em (sj hy) (by kernel_rfl))
   refine bk h fun t19 k20 h => ?_
   refine cl3 cok.g (rickyardref05_Device_step.sc fu e8 _ k20) (.tup []) [(0, .box 83 (.agg [.sl 1 1 [], .sl 2 1 [], .sl 3 1 [], .sl 4 1 [], .v (.sl (.int .i64)) (t19.Plan : List Int), vi .i64 t19.Since, vi .i64 t19.Left, vi .i64 t19.Steps])), (1, .row (.int .u64) 119 (t19.Lasts : List Int)), (2, .row (.int .u64) 119 (t19.Stored : List Int)), (3, .row (.int .u64) 119 (t19.Sent : List Int)), (4, .row (.bool) 4 (t19.Flushed : List Bool))] 10 (by kernel_rfl) (by kernel_rfl) ?_
   exact em h (by kernel_rfl)
  exact em h (by kernel_rfl)
 exact fi h (by kernel_rfl)
def rickyardref05_New.f (fu : Nat) (a0 : Int) : Option S_rickyardref05_Device := if 0 ≤ (IntKind.i64.wrap (8 * a0)) ∧ Int.toNat (IntKind.i64.wrap (8 * a0)) ≤ LIM then if 0 ≤ (IntKind.i64.wrap (8 * a0)) ∧ Int.toNat (IntKind.i64.wrap (8 * a0)) ≤ LIM then if 0 ≤ (IntKind.i64.wrap (8 * a0)) ∧ Int.toNat (IntKind.i64.wrap (8 * a0)) ≤ LIM then if 0 ≤ (IntKind.i64.wrap (8 * a0)) ∧ Int.toNat (IntKind.i64.wrap (8 * a0)) ≤ LIM then some ((⟨(List.replicate (Int.toNat (IntKind.i64.wrap (8 * a0))) (0 : Int)), (List.replicate (Int.toNat (IntKind.i64.wrap (8 * a0))) (0 : Int)), (List.replicate (Int.toNat (IntKind.i64.wrap (8 * a0))) (0 : Int)), (List.replicate (Int.toNat (IntKind.i64.wrap (8 * a0))) false), [], (0 : Int), (-1), (0 : Int)⟩ : S_rickyardref05_Device)) else none else none else none else none
theorem rickyardref05_New.sc (fu : Nat) (a0 : Int) (r : S_rickyardref05_Device) (h : rickyardref05_New.f fu a0 = some r) : SC Tryd.prog CT 33 [vi .i64 a0] [] (.ptr 0 0) [.box 83 (.agg [.sl 1 1 [], .sl 2 1 [], .sl 3 1 [], .sl 4 1 [], .v (.sl (.int .i64)) (r.Plan : List Int), vi .i64 r.Since, vi .i64 r.Left, vi .i64 r.Steps]), .row (.int .u64) 119 (r.Lasts : List Int), .row (.int .u64) 119 (r.Stored : List Int), .row (.int .u64) 119 (r.Sent : List Int), .row (.bool) 4 (r.Flushed : List Bool)] := by
 unfold rickyardref05_New.f at h
 refine sc_of (r := r) (N := 16) (rs := [.tmp 2]) (V := fun (r : S_rickyardref05_Device) => .ptr 0 0) (R' := fun (r : S_rickyardref05_Device) => [.box 83 (.agg [.sl 1 1 [], .sl 2 1 [], .sl 3 1 [], .sl 4 1 [], .v (.sl (.int .i64)) (r.Plan : List Int), vi .i64 r.Since, vi .i64 r.Left, vi .i64 r.Steps]), .row (.int .u64) 119 (r.Lasts : List Int), .row (.int .u64) 119 (r.Stored : List Int), .row (.int .u64) 119 (r.Sent : List Int), .row (.bool) 4 (r.Flushed : List Bool)]) cok Tryd.func33 rfl rfl rfl (by kernel_rfl) (by kernel_rfl) rfl rfl fun X => ?_
 refine t_draw cok mo [⟨0, false, [3], [], 0, []⟩, ⟨1, true, [6], [], 1, [0]⟩, ⟨2, false, [3], [], 0, []⟩, ⟨3, true, [8], [], 1, [2]⟩, ⟨4, false, [3], [], 0, []⟩, ⟨5, true, [10], [], 1, [4]⟩, ⟨6, false, [3], [], 0, []⟩, ⟨7, true, [12], [], 1, [6]⟩, ⟨8, false, [7, 9, 11, 13], [], 0, [0, 1, 2, 3, 4, 5, 6, 7]⟩, ⟨9, true, [14], [0, 1, 2, 3], 1, [0, 1, 2, 3, 4, 5, 6, 7, 8]⟩, ⟨10, false, [15], [], 0, [0, 1, 2, 3, 4, 5, 6, 7, 8, 9]⟩] (by kernel_rfl) ?_
 refine agL h rfl fun h => ?_
 refine agL h rfl fun h => ?_
 refine agL h rfl fun h => ?_
 refine agL h rfl fun h => ?_
 exact fi h (by kernel_rfl)
def rickyardref05_Text.s1 (fu : Nat) (a0 : List Int) (s1 : (List Int) × Int) : ((List Int) × Int) → Option (Sum (List Int) ((List Int) × Int)) := fun s7 => (if (decide (s7.2 < 8)) = true then if 0 ≤ s1.2 ∧ s1.2 < (List.length a0 : Int) then if 0 ≤ (IntKind.i64.wrap (8 * s7.2)) then if List.length s7.1 + List.length [(IntKind.u8.wrap (shR .u64 (ix a0 s1.2) (IntKind.i64.wrap (8 * s7.2))))] ≤ LIM then some (Sum.inr ((s7.1 ++ [(IntKind.u8.wrap (shR .u64 (ix a0 s1.2) (IntKind.i64.wrap (8 * s7.2))))]), (IntKind.i64.wrap (s7.2 + 1)))) else none else none else none else some (Sum.inl (s7.1)))
def rickyardref05_Text.s0 (fu : Nat) (a0 : List Int) : ((List Int) × Int) → Option (Sum (List Int) ((List Int) × Int)) := fun s1 => (if (decide (s1.2 < (List.length a0 : Int))) = true then ((loopM (rickyardref05_Text.s1 fu a0 s1) fu (s1.1, 0)).bind fun e8 => some (Sum.inr (e8, (IntKind.i64.wrap (s1.2 + 1))))) else some (Sum.inl (s1.1)))
def rickyardref05_Text.f (fu : Nat) (a0 : List Int) : Option (List UInt8) := ((loopM (rickyardref05_Text.s0 fu a0) fu (([] : List Int), 0)).bind fun e2 => some ((List.map toB e2)))
theorem rickyardref05_Text.sc (fu : Nat) (a0 : List Int) (r : (List UInt8)) (h : rickyardref05_Text.f fu a0 = some r) : SC Tryd.prog CT 46 [.v (.sl (.int .u64)) (a0 : List Int)] [] (vs r) [] := by
 unfold rickyardref05_Text.f at h
 refine sc_of (r := r) (N := 29) (rs := [.tmp 2]) (V := fun (r : (List UInt8)) => vs r) (R' := fun (r : (List UInt8)) => []) cok Tryd.func46 rfl rfl rfl (by kernel_rfl) (by kernel_rfl) rfl rfl fun X => ?_
 refine bk h fun e2 l3 h => ?_
 refine t_cutx cok 0 (fun (e2 : (List Int)) => ⟨[(3, .sl 0 1 [])], [.row (.int .u8) 5 (e2 : List Int)]⟩) e2 ?_ ?_
 ·skip
  have h4 := h
  refine t_loop cok (fun (s1 : (List Int) × Int) => ⟨[(0, .v (.sl (.int .u64)) (a0 : List Int)), (3, .sl 0 1 []), (4, vi .i64 s1.2)], [.row (.int .u8) 5 (s1.1 : List Int)]⟩) l3 (by kernel_rfl) (fun s1 x5 h => ?_)
  unfold rickyardref05_Text.s0 at h
  refine t_cond cok ?_
  refine bi h (fun c6 h => ?_) (fun c6 h => ?_)
  ·skip
   refine bk h fun e8 l9 h => ?_
   refine t_cutx cok 2 (fun (e8 : (List Int)) => ⟨[(0, .v (.sl (.int .u64)) (a0 : List Int)), (3, .sl 0 1 []), (4, vi .i64 s1.2)], [.row (.int .u8) 5 (e8 : List Int)]⟩) e8 ?_ ?_
   ·skip
    have h10 := h
    refine t_loop cok (fun (s7 : (List Int) × Int) => ⟨[(0, .v (.sl (.int .u64)) (a0 : List Int)), (3, .sl 0 1 []), (4, vi .i64 s1.2), (5, vi .i64 s7.2)], [.row (.int .u8) 5 (s7.1 : List Int)]⟩) l9 (by kernel_rfl) (fun s7 x11 h => ?_)
    unfold rickyardref05_Text.s1 at h
    refine t_cond cok ?_
    refine bi h (fun c12 h => ?_) (fun c12 h => ?_)
    ·skip
     refine ag h fun h => ?_
     refine ag h fun h => ?_
     refine ag h fun h => ?_
     exact lpi h (by kernel_rfl)
    exact lpx h (fun hy => em (sj hy) (by kernel_rfl))
   exact lpi h (by kernel_rfl)
  exact lpx h (fun hy => em (sj hy) (by kernel_rfl))
 exact fi h (by kernel_rfl)
def rickyardref01_Octet.s0 (fu : Nat) (a1 : Int) : (Int × Int) → Option (Sum Int (Int × Int)) := fun s1 => (if (decide (s1.2 < a1)) = true then some (Sum.inr ((IntKind.u64.wrap (Int.tdiv s1.1 256)), (IntKind.i64.wrap (s1.2 + 1)))) else some (Sum.inl (s1.1)))
def rickyardref01_Octet.f (fu : Nat) (a0 : Int) (a1 : Int) : Option Int := ((loopM (rickyardref01_Octet.s0 fu a1) fu (a0, 0)).bind fun e2 => some ((IntKind.u8.wrap (Int.tmod e2 256))))
theorem rickyardref01_Octet.sc (fu : Nat) (a0 : Int) (a1 : Int) (r : Int) (h : rickyardref01_Octet.f fu a0 a1 = some r) : SC Tryd.prog CT 103 [vi .u64 a0, vi .i64 a1] [] (vi .u8 r) [] := by
 unfold rickyardref01_Octet.f at h
 refine sc_of (r := r) (N := 16) (rs := [.tmp 4]) (V := fun (r : Int) => vi .u8 r) (R' := fun (r : Int) => []) cok Tryd.func103 rfl rfl rfl (by kernel_rfl) (by kernel_rfl) rfl rfl fun X => ?_
 refine bk h fun e2 l3 h => ?_
 refine t_cutx cok 0 (fun (e2 : Int) => ⟨[(0, vi .u64 e2)], []⟩) e2 ?_ ?_
 ·skip
  have h4 := h
  refine t_loop cok (fun (s1 : Int × Int) => ⟨[(0, vi .u64 s1.1), (1, vi .i64 a1), (5, vi .i64 s1.2)], []⟩) l3 (by kernel_rfl) (fun s1 x5 h => ?_)
  unfold rickyardref01_Octet.s0 at h
  refine t_cond cok ?_
  refine bi h (fun c6 h => ?_) (fun c6 h => ?_)
  ·skip
   refine ⟨by decide, ?_⟩
   exact lpi h (by kernel_rfl)
  exact lpx h (fun hy => em (sj hy) (by kernel_rfl))
 refine ⟨by decide, ?_⟩
 exact fi h (by kernel_rfl)
def rickyardref01_Lay.s0 (fu : Nat) (a0 : Int) (a1 : Int) : ((List UInt8) × Int) → Option (Sum (List UInt8) ((List UInt8) × Int)) := fun s1 => (if (decide (s1.2 < a1)) = true then ((rickyardref01_Octet.f fu a0 s1.2).bind fun t7 => if List.length s1.1 + List.length (List.map toB [t7]) ≤ LIM then some (Sum.inr ((s1.1 ++ (List.map toB [t7])), (IntKind.i64.wrap (s1.2 + 1)))) else none) else some (Sum.inl (s1.1)))
def rickyardref01_Lay.f (fu : Nat) (a0 : Int) (a1 : Int) : Option (List UInt8) := ((loopM (rickyardref01_Lay.s0 fu a0 a1) fu ([], 0)).bind fun e2 => some (e2))
theorem rickyardref01_Lay.sc (fu : Nat) (a0 : Int) (a1 : Int) (r : (List UInt8)) (h : rickyardref01_Lay.f fu a0 a1 = some r) : SC Tryd.prog CT 78 [vi .u64 a0, vi .i64 a1] [] (vs r) [] := by
 unfold rickyardref01_Lay.f at h
 refine sc_of (r := r) (N := 20) (rs := [.tmp 4]) (V := fun (r : (List UInt8)) => vs r) (R' := fun (r : (List UInt8)) => []) cok Tryd.func78 rfl rfl rfl (by kernel_rfl) (by kernel_rfl) rfl rfl fun X => ?_
 refine bk h fun e2 l3 h => ?_
 refine t_cutx cok 0 (fun (e2 : (List UInt8)) => ⟨[(5, vs e2)], []⟩) e2 ?_ ?_
 ·skip
  have h4 := h
  refine t_loop cok (fun (s1 : (List UInt8) × Int) => ⟨[(0, vi .u64 a0), (1, vi .i64 a1), (5, vs s1.1), (6, vi .i64 s1.2)], []⟩) l3 (by kernel_rfl) (fun s1 x5 h => ?_)
  unfold rickyardref01_Lay.s0 at h
  refine t_cond cok ?_
  refine bi h (fun c6 h => ?_) (fun c6 h => ?_)
  ·skip
   refine bk h fun t7 k8 h => ?_
   refine cl3 cok.g (rickyardref01_Octet.sc fu a0 s1.2 _ k8) (vi .u8 t7) [] 0 (by kernel_rfl) (by kernel_rfl) ?_
   refine ag h fun h => ?_
   exact lpi h (by kernel_rfl)
  exact lpx h (fun hy => em (sj hy) (by kernel_rfl))
 exact fi h (by kernel_rfl)
def rickyardref05_Device_Load.f (fu : Nat) (a0 : S_rickyardref05_Device) (a1 : Int) : Option (Int × Int) := ((rickyardref05_Device_error.f fu a0 a1 (List.length a0.Lasts : Int)).bind fun t1 => (if (!decide (t1 = 0)) = true then some (0, t1) else if 0 ≤ a1 ∧ a1 < (List.length a0.Stored : Int) then some ((ix a0.Stored a1), 0) else none))
theorem rickyardref05_Device_Load.sc (fu : Nat) (a0 : S_rickyardref05_Device) (a1 : Int) (r : Int × Int) (h : rickyardref05_Device_Load.f fu a0 a1 = some r) : SC Tryd.prog CT 77 [.ptr 0 0, vi .i64 a1] [.box 83 (.agg [.sl 1 1 [], .sl 2 1 [], .sl 3 1 [], .sl 4 1 [], .v (.sl (.int .i64)) (a0.Plan : List Int), vi .i64 a0.Since, vi .i64 a0.Left, vi .i64 a0.Steps]), .row (.int .u64) 119 (a0.Lasts : List Int), .row (.int .u64) 119 (a0.Stored : List Int), .row (.int .u64) 119 (a0.Sent : List Int), .row (.bool) 4 (a0.Flushed : List Bool)] (.tup [vi .u64 r.1, vi .i64 r.2]) [.box 83 (.agg [.sl 1 1 [], .sl 2 1 [], .sl 3 1 [], .sl 4 1 [], .v (.sl (.int .i64)) (a0.Plan : List Int), vi .i64 a0.Since, vi .i64 a0.Left, vi .i64 a0.Steps]), .row (.int .u64) 119 (a0.Lasts : List Int), .row (.int .u64) 119 (a0.Stored : List Int), .row (.int .u64) 119 (a0.Sent : List Int), .row (.bool) 4 (a0.Flushed : List Bool)] := by
 unfold rickyardref05_Device_Load.f at h
 refine sc_of (r := r) (N := 25) (rs := [.tmp 4, .tmp 5]) (V := fun (r : Int × Int) => .tup [vi .u64 r.1, vi .i64 r.2]) (R' := fun (r : Int × Int) => [.box 83 (.agg [.sl 1 1 [], .sl 2 1 [], .sl 3 1 [], .sl 4 1 [], .v (.sl (.int .i64)) (a0.Plan : List Int), vi .i64 a0.Since, vi .i64 a0.Left, vi .i64 a0.Steps]), .row (.int .u64) 119 (a0.Lasts : List Int), .row (.int .u64) 119 (a0.Stored : List Int), .row (.int .u64) 119 (a0.Sent : List Int), .row (.bool) 4 (a0.Flushed : List Bool)]) cok Tryd.func77 rfl rfl rfl (by kernel_rfl) (by kernel_rfl) rfl rfl fun X => ?_
 refine bk h fun t1 k2 h => ?_
 refine cl3 cok.g (rickyardref05_Device_error.sc fu a0 a1 (List.length a0.Lasts : Int) _ k2) (vi .i64 t1) [(0, .box 83 (.agg [.sl 1 1 [], .sl 2 1 [], .sl 3 1 [], .sl 4 1 [], .v (.sl (.int .i64)) (a0.Plan : List Int), vi .i64 a0.Since, vi .i64 a0.Left, vi .i64 a0.Steps])), (1, .row (.int .u64) 119 (a0.Lasts : List Int)), (2, .row (.int .u64) 119 (a0.Stored : List Int)), (3, .row (.int .u64) 119 (a0.Sent : List Int)), (4, .row (.bool) 4 (a0.Flushed : List Bool))] 10 (by kernel_rfl) (by kernel_rfl) ?_
 refine t_cond cok ?_
 refine bi h (fun c3 h => ?_) (fun c3 h => ?_)
 ·skip
  exact fi h (by kernel_rfl)
 refine ag h fun h => ?_
 exact fi h (by kernel_rfl)
def rickyardref15_Lines.f (fu : Nat) (a0 : S_rickyardref05_Device) : Option Int := some ((IntKind.i64.wrap (Int.tdiv (List.length a0.Lasts : Int) 8)))
theorem rickyardref15_Lines.sc (fu : Nat) (a0 : S_rickyardref05_Device) (r : Int) (h : rickyardref15_Lines.f fu a0 = some r) : SC Tryd.prog CT 76 [.ptr 0 0] [.box 83 (.agg [.sl 1 1 [], .sl 2 1 [], .sl 3 1 [], .sl 4 1 [], .v (.sl (.int .i64)) (a0.Plan : List Int), vi .i64 a0.Since, vi .i64 a0.Left, vi .i64 a0.Steps]), .row (.int .u64) 119 (a0.Lasts : List Int), .row (.int .u64) 119 (a0.Stored : List Int), .row (.int .u64) 119 (a0.Sent : List Int), .row (.bool) 4 (a0.Flushed : List Bool)] (vi .i64 r) [.box 83 (.agg [.sl 1 1 [], .sl 2 1 [], .sl 3 1 [], .sl 4 1 [], .v (.sl (.int .i64)) (a0.Plan : List Int), vi .i64 a0.Since, vi .i64 a0.Left, vi .i64 a0.Steps]), .row (.int .u64) 119 (a0.Lasts : List Int), .row (.int .u64) 119 (a0.Stored : List Int), .row (.int .u64) 119 (a0.Sent : List Int), .row (.bool) 4 (a0.Flushed : List Bool)] := by
 unfold rickyardref15_Lines.f at h
 refine sc_of (r := r) (N := 9) (rs := [.tmp 2]) (V := fun (r : Int) => vi .i64 r) (R' := fun (r : Int) => [.box 83 (.agg [.sl 1 1 [], .sl 2 1 [], .sl 3 1 [], .sl 4 1 [], .v (.sl (.int .i64)) (a0.Plan : List Int), vi .i64 a0.Since, vi .i64 a0.Left, vi .i64 a0.Steps]), .row (.int .u64) 119 (a0.Lasts : List Int), .row (.int .u64) 119 (a0.Stored : List Int), .row (.int .u64) 119 (a0.Sent : List Int), .row (.bool) 4 (a0.Flushed : List Bool)]) cok Tryd.func76 rfl rfl rfl (by kernel_rfl) (by kernel_rfl) rfl rfl fun X => ?_
 refine ⟨by decide, ?_⟩
 exact fi h (by kernel_rfl)
def rickyardref15_Read.s0 (fu : Nat) (a0 : S_rickyardref05_Device) (a1 : Int) : ((List UInt8) × Int) → Option (Sum (Sum ((List UInt8) × Int) (List UInt8)) ((List UInt8) × Int)) := fun s5 => (if (decide (s5.2 < 8)) = true then ((rickyardref05_Device_Load.f fu a0 (IntKind.i64.wrap ((IntKind.i64.wrap (8 * a1)) + s5.2))).bind fun t12 => (if (!decide (t12.2 = 0)) = true then some (Sum.inl (Sum.inl ([], t12.2))) else ((rickyardref01_Lay.f fu t12.1 8).bind fun t15 => if List.length s5.1 + List.length t15 ≤ LIM then some (Sum.inr ((s5.1 ++ t15), (IntKind.i64.wrap (s5.2 + 1)))) else none))) else some (Sum.inl (Sum.inr (s5.1))))
def rickyardref15_Read.f (fu : Nat) (a0 : S_rickyardref05_Device) (a1 : Int) : Option ((List UInt8) × Int) := (if (decide (a1 < 0)) = true then some ([], 2) else ((rickyardref15_Lines.f fu a0).bind fun t2 => (if (decide (a1 ≥ t2)) = true then some ([], 2) else ((loopM (rickyardref15_Read.s0 fu a0 a1) fu ([], 0)).bind fun e6 => match e6 with | Sum.inl p => some p | Sum.inr x8 => some (x8, 0)))))
theorem rickyardref15_Read.sc (fu : Nat) (a0 : S_rickyardref05_Device) (a1 : Int) (r : (List UInt8) × Int) (h : rickyardref15_Read.f fu a0 a1 = some r) : SC Tryd.prog CT 38 [.ptr 0 0, vi .i64 a1] [.box 83 (.agg [.sl 1 1 [], .sl 2 1 [], .sl 3 1 [], .sl 4 1 [], .v (.sl (.int .i64)) (a0.Plan : List Int), vi .i64 a0.Since, vi .i64 a0.Left, vi .i64 a0.Steps]), .row (.int .u64) 119 (a0.Lasts : List Int), .row (.int .u64) 119 (a0.Stored : List Int), .row (.int .u64) 119 (a0.Sent : List Int), .row (.bool) 4 (a0.Flushed : List Bool)] (.tup [vs r.1, vi .i64 r.2]) [.box 83 (.agg [.sl 1 1 [], .sl 2 1 [], .sl 3 1 [], .sl 4 1 [], .v (.sl (.int .i64)) (a0.Plan : List Int), vi .i64 a0.Since, vi .i64 a0.Left, vi .i64 a0.Steps]), .row (.int .u64) 119 (a0.Lasts : List Int), .row (.int .u64) 119 (a0.Stored : List Int), .row (.int .u64) 119 (a0.Sent : List Int), .row (.bool) 4 (a0.Flushed : List Bool)] := by
 unfold rickyardref15_Read.f at h
 refine sc_of (r := r) (N := 39) (rs := [.tmp 4, .tmp 5]) (V := fun (r : (List UInt8) × Int) => .tup [vs r.1, vi .i64 r.2]) (R' := fun (r : (List UInt8) × Int) => [.box 83 (.agg [.sl 1 1 [], .sl 2 1 [], .sl 3 1 [], .sl 4 1 [], .v (.sl (.int .i64)) (a0.Plan : List Int), vi .i64 a0.Since, vi .i64 a0.Left, vi .i64 a0.Steps]), .row (.int .u64) 119 (a0.Lasts : List Int), .row (.int .u64) 119 (a0.Stored : List Int), .row (.int .u64) 119 (a0.Sent : List Int), .row (.bool) 4 (a0.Flushed : List Bool)]) cok Tryd.func38 rfl rfl rfl (by kernel_rfl) (by kernel_rfl) rfl rfl fun X => ?_
 refine t_reg cok ?_
 refine bi h (fun c1 h => ?_) (fun c1 h => ?_)
 ·skip
  refine t_cond cok ?_
  exact fi h (by kernel_rfl)
 refine bk h fun t2 k3 h => ?_
 refine cl3 cok.g (rickyardref15_Lines.sc fu a0 _ k3) (vi .i64 t2) [(0, .box 83 (.agg [.sl 1 1 [], .sl 2 1 [], .sl 3 1 [], .sl 4 1 [], .v (.sl (.int .i64)) (a0.Plan : List Int), vi .i64 a0.Since, vi .i64 a0.Left, vi .i64 a0.Steps])), (1, .row (.int .u64) 119 (a0.Lasts : List Int)), (2, .row (.int .u64) 119 (a0.Stored : List Int)), (3, .row (.int .u64) 119 (a0.Sent : List Int)), (4, .row (.bool) 4 (a0.Flushed : List Bool))] 10 (by kernel_rfl) (by kernel_rfl) ?_
 refine t_cond cok ?_
 refine bi h (fun c4 h => ?_) (fun c4 h => ?_)
 ·skip
  exact fi h (by kernel_rfl)
 refine bk h fun e6 l7 h => ?_
 refine t_cutxS cok 0 (fun (x8 : (List UInt8)) => ⟨[(6, vs x8)], [.box 83 (.agg [.sl 1 1 [], .sl 2 1 [], .sl 3 1 [], .sl 4 1 [], .v (.sl (.int .i64)) (a0.Plan : List Int), vi .i64 a0.Since, vi .i64 a0.Left, vi .i64 a0.Steps]), .row (.int .u64) 119 (a0.Lasts : List Int), .row (.int .u64) 119 (a0.Stored : List Int), .row (.int .u64) 119 (a0.Sent : List Int), .row (.bool) 4 (a0.Flushed : List Bool)]⟩) e6 ?_ (fun x8 hy => ?_)
 ·skip
  have h9 := h
  refine t_loop cok (fun (s5 : (List UInt8) × Int) => ⟨[(0, .ptr 0 0), (1, vi .i64 a1), (6, vs s5.1), (7, vi .i64 s5.2)], [.box 83 (.agg [.sl 1 1 [], .sl 2 1 [], .sl 3 1 [], .sl 4 1 [], .v (.sl (.int .i64)) (a0.Plan : List Int), vi .i64 a0.Since, vi .i64 a0.Left, vi .i64 a0.Steps]), .row (.int .u64) 119 (a0.Lasts : List Int), .row (.int .u64) 119 (a0.Stored : List Int), .row (.int .u64) 119 (a0.Sent : List Int), .row (.bool) 4 (a0.Flushed : List Bool)]⟩) l7 (by kernel_rfl) (fun s5 x10 h => ?_)
  unfold rickyardref15_Read.s0 at h
  refine t_cond cok ?_
  refine bi h (fun c11 h => ?_) (fun c11 h => ?_)
  ·skip
   refine bk h fun t12 k13 h => ?_
   refine cl3 cok.g (rickyardref05_Device_Load.sc fu a0 (IntKind.i64.wrap ((IntKind.i64.wrap (8 * a1)) + s5.2)) _ k13) (.tup [vi .u64 t12.1, vi .i64 t12.2]) [(0, .box 83 (.agg [.sl 1 1 [], .sl 2 1 [], .sl 3 1 [], .sl 4 1 [], .v (.sl (.int .i64)) (a0.Plan : List Int), vi .i64 a0.Since, vi .i64 a0.Left, vi .i64 a0.Steps])), (1, .row (.int .u64) 119 (a0.Lasts : List Int)), (2, .row (.int .u64) 119 (a0.Stored : List Int)), (3, .row (.int .u64) 119 (a0.Sent : List Int)), (4, .row (.bool) 4 (a0.Flushed : List Bool))] 10 (by kernel_rfl) (by kernel_rfl) ?_
   refine t_cond cok ?_
   refine bi h (fun c14 h => ?_) (fun c14 h => ?_)
   ·skip
    refine lpr h (fun hy => ?_)
    have h := h9
    rw [← hy] at h
    exact fi h (by kernel_rfl)
   refine bk h fun t15 k16 h => ?_
   refine cl3 cok.g (rickyardref01_Lay.sc fu t12.1 8 _ k16) (vs t15) [] 10 (by kernel_rfl) (by kernel_rfl) ?_
   refine ag h fun h => ?_
   exact lpi h (by kernel_rfl)
  exact lpx h (fun hy => ems (sj hy) (by kernel_rfl))
 subst hy
 exact fi h (by kernel_rfl)
def rickyardref18_Alloc_Do.f (fu : Nat) (a0 : S_rickyardref18_Alloc) (a1 : Int) : Option S_rickyardref18_Alloc := (((if (decide (a1 = 0)) = true then some ((⟨a0.N, a0.Reserve, a0.Committed, a0.Elder, a0.Works, a0.Works⟩ : S_rickyardref18_Alloc)) else (((if (decide (a1 = 1)) = true then some ((⟨a0.N, a0.Reserve, a0.Committed, a0.Elder, a0.Mark, a0.Mark⟩ : S_rickyardref18_Alloc)) else (((if (decide (a1 = 2)) = true then some ((⟨a0.N, a0.Reserve, a0.Works, a0.Committed, a0.Works, a0.Works⟩ : S_rickyardref18_Alloc)) else (((if (decide (a1 = 3)) = true then some ((⟨a0.N, a0.Reserve, a0.Committed, a0.Elder, a0.Committed, a0.Committed⟩ : S_rickyardref18_Alloc)) else some (a0)) : Option S_rickyardref18_Alloc).bind fun x13 => some (x13))) : Option S_rickyardref18_Alloc).bind fun x9 => some (x9))) : Option S_rickyardref18_Alloc).bind fun x5 => some (x5))) : Option S_rickyardref18_Alloc).bind fun x1 => some (x1))
theorem rickyardref18_Alloc_Do.sc (fu : Nat) (a0 : S_rickyardref18_Alloc) (a1 : Int) (r : S_rickyardref18_Alloc) (h : rickyardref18_Alloc_Do.f fu a0 a1 = some r) : SC Tryd.prog CT 40 [.ptr 0 0, vi .i64 a1] [.box 86 (.v (.st .S_rickyardref18_Alloc) (a0 : S_rickyardref18_Alloc))] (.tup []) [.box 86 (.v (.st .S_rickyardref18_Alloc) (r : S_rickyardref18_Alloc))] := by
 unfold rickyardref18_Alloc_Do.f at h
 refine sc_of (r := r) (N := 62) (rs := []) (V := fun (r : S_rickyardref18_Alloc) => .tup []) (R' := fun (r : S_rickyardref18_Alloc) => [.box 86 (.v (.st .S_rickyardref18_Alloc) (r : S_rickyardref18_Alloc))]) cok Tryd.func40 rfl rfl rfl (by kernel_rfl) (by kernel_rfl) rfl rfl fun X => ?_
 refine bk h fun x1 j2 h => ?_
 refine t_cut cok (fun (x1 : S_rickyardref18_Alloc) => ⟨[], [.box 86 (.v (.st .S_rickyardref18_Alloc) (x1 : S_rickyardref18_Alloc))]⟩) x1 ?_ ?_
 ·skip
  have h3 := h
  have h := j2
  refine t_cond cok ?_
  refine bi h (fun c4 h => ?_) (fun c4 h => ?_)
  ·skip
   exact em h (by kernel_rfl)
  refine bk h fun x5 j6 h => ?_
  refine t_cut cok (fun (x5 : S_rickyardref18_Alloc) => ⟨[], [.box 86 (.v (.st .S_rickyardref18_Alloc) (x5 : S_rickyardref18_Alloc))]⟩) x5 ?_ ?_
  ·skip
   have h7 := h
   have h := j6
   refine t_cond cok ?_
   refine bi h (fun c8 h => ?_) (fun c8 h => ?_)
   ·skip
    exact em h (by kernel_rfl)
   refine bk h fun x9 j10 h => ?_
   refine t_cut cok (fun (x9 : S_rickyardref18_Alloc) => ⟨[], [.box 86 (.v (.st .S_rickyardref18_Alloc) (x9 : S_rickyardref18_Alloc))]⟩) x9 ?_ ?_
   ·skip
    have h11 := h
    have h := j10
    refine t_cond cok ?_
    refine bi h (fun c12 h => ?_) (fun c12 h => ?_)
    ·skip
     exact em h (by kernel_rfl)
    refine bk h fun x13 j14 h => ?_
    refine t_cut cok (fun (x13 : S_rickyardref18_Alloc) => ⟨[], [.box 86 (.v (.st .S_rickyardref18_Alloc) (x13 : S_rickyardref18_Alloc))]⟩) x13 ?_ ?_
    ·skip
     have h15 := h
     have h := j14
     refine t_cond cok ?_
     refine bi h (fun c16 h => ?_) (fun c16 h => ?_)
     ·skip
      exact em h (by kernel_rfl)
     exact em h (by kernel_rfl)
    exact em h (by kernel_rfl)
   exact em h (by kernel_rfl)
  exact em h (by kernel_rfl)
 exact fiN h (by kernel_rfl)
def rickyardref10_Has.s0 (fu : Nat) (a0 : List Int) (a1 : Int) : Int → Option (Sum (Sum Bool Unit) Int) := fun s1 => (if (decide (s1 < (List.length a0 : Int))) = true then if 0 ≤ s1 ∧ s1 < (List.length a0 : Int) then (if (decide ((ix a0 s1) = a1)) = true then some (Sum.inl (Sum.inl (true))) else some (Sum.inr ((IntKind.i64.wrap (s1 + 1))))) else none else some (Sum.inl (Sum.inr ())))
def rickyardref10_Has.f (fu : Nat) (a0 : List Int) (a1 : Int) : Option Bool := ((loopM (rickyardref10_Has.s0 fu a0 a1) fu (0)).bind fun e2 => match e2 with | Sum.inl p => some p | Sum.inr x4 => some (false))
theorem rickyardref10_Has.sc (fu : Nat) (a0 : List Int) (a1 : Int) (r : Bool) (h : rickyardref10_Has.f fu a0 a1 = some r) : SC Tryd.prog CT 73 [.v (.sl (.int .i64)) (a0 : List Int), vi .i64 a1] [] (vb r) [] := by
 unfold rickyardref10_Has.f at h
 refine sc_of (r := r) (N := 18) (rs := [.tmp 4]) (V := fun (r : Bool) => vb r) (R' := fun (r : Bool) => []) cok Tryd.func73 rfl rfl rfl (by kernel_rfl) (by kernel_rfl) rfl rfl fun X => ?_
 refine bk h fun e2 l3 h => ?_
 refine t_cutxS cok 0 (fun (_x : Unit) => ⟨[], []⟩) e2 ?_ (fun x4 hy => ?_)
 ·skip
  have h5 := h
  refine t_loop cok (fun (s1 : Int) => ⟨[(0, .v (.sl (.int .i64)) (a0 : List Int)), (1, vi .i64 a1), (5, vi .i64 s1)], []⟩) l3 (by kernel_rfl) (fun s1 x6 h => ?_)
  unfold rickyardref10_Has.s0 at h
  refine t_cond cok ?_
  refine bi h (fun c7 h => ?_) (fun c7 h => ?_)
  ·skip
   refine ag h fun h => ?_
   refine t_cond cok ?_
   refine bi h (fun c8 h => ?_) (fun c8 h => ?_)
   ·skip
    refine lpr h (fun hy => ?_)
    have h := h5
    rw [← hy] at h
    exact fi h (by kernel_rfl)
   exact lpi h (by kernel_rfl)
  exact lpx h (fun hy => ems (sj hy) (by kernel_rfl))
 subst hy
 exact fi h (by kernel_rfl)
def rickyardref17_Drop.s0 (fu : Nat) (a0 : List Int) (a1 : Int) : ((List Int) × Int) → Option (Sum (List Int) ((List Int) × Int)) := fun s1 => (if (decide (s1.2 < (List.length a0 : Int))) = true then if 0 ≤ s1.2 ∧ s1.2 < (List.length a0 : Int) then (((if (!decide ((ix a0 s1.2) = a1)) = true then if 0 ≤ s1.2 ∧ s1.2 < (List.length a0 : Int) then if List.length s1.1 + List.length [(ix a0 s1.2)] ≤ LIM then some ((s1.1 ++ [(ix a0 s1.2)])) else none else none else some (s1.1)) : Option (List Int)).bind fun x7 => some (Sum.inr (x7, (IntKind.i64.wrap (s1.2 + 1))))) else none else some (Sum.inl (s1.1)))
def rickyardref17_Drop.f (fu : Nat) (a0 : List Int) (a1 : Int) : Option (List Int) := ((loopM (rickyardref17_Drop.s0 fu a0 a1) fu (([] : List Int), 0)).bind fun e2 => some (e2))
theorem rickyardref17_Drop.sc (fu : Nat) (a0 : List Int) (a1 : Int) (r : (List Int)) (h : rickyardref17_Drop.f fu a0 a1 = some r) : SC Tryd.prog CT 75 [.v (.sl (.int .i64)) (a0 : List Int), vi .i64 a1] [] (.sl 0 1 []) [.row (.int .i64) 3 (r : List Int)] := by
 unfold rickyardref17_Drop.f at h
 refine sc_of (r := r) (N := 27) (rs := [.tmp 4]) (V := fun (r : (List Int)) => .sl 0 1 []) (R' := fun (r : (List Int)) => [.row (.int .i64) 3 (r : List Int)]) cok Tryd.func75 rfl rfl rfl (by kernel_rfl) (by kernel_rfl) rfl rfl fun X => ?_
 refine bk h fun e2 l3 h => ?_
 refine t_cutx cok 0 (fun (e2 : (List Int)) => ⟨[(5, .sl 0 1 [])], [.row (.int .i64) 3 (e2 : List Int)]⟩) e2 ?_ ?_
 ·skip
  have h4 := h
  refine t_loop cok (fun (s1 : (List Int) × Int) => ⟨[(0, .v (.sl (.int .i64)) (a0 : List Int)), (1, vi .i64 a1), (5, .sl 0 1 []), (6, vi .i64 s1.2)], [.row (.int .i64) 3 (s1.1 : List Int)]⟩) l3 (by kernel_rfl) (fun s1 x5 h => ?_)
  unfold rickyardref17_Drop.s0 at h
  refine t_cond cok ?_
  refine bi h (fun c6 h => ?_) (fun c6 h => ?_)
  ·skip
   refine ag h fun h => ?_
   refine bk h fun x7 j8 h => ?_
   refine t_cut cok (fun (x7 : (List Int)) => ⟨[(0, .v (.sl (.int .i64)) (a0 : List Int)), (1, vi .i64 a1), (5, .sl 0 1 []), (6, vi .i64 s1.2)], [.row (.int .i64) 3 (x7 : List Int)]⟩) x7 ?_ ?_
   ·skip
    have h9 := h
    have h := j8
    refine t_cond cok ?_
    refine bi h (fun c10 h => ?_) (fun c10 h => ?_)
    ·skip
     refine ag h fun h => ?_
     refine ag h fun h => ?_
     exact em h (by kernel_rfl)
    exact em h (by kernel_rfl)
   exact lpi h (by kernel_rfl)
  exact lpx h (fun hy => em (sj hy) (by kernel_rfl))
 exact fi h (by kernel_rfl)
def rickyardref18_Alloc_Give.f (fu : Nat) (a0 : S_rickyardref18_Alloc) (a1 : Int) : Option (Int × S_rickyardref18_Alloc) := ((rickyardref10_Has.f fu a0.Works a1).bind fun t1 => (if (!t1) = true then some (2, a0) else ((rickyardref17_Drop.f fu a0.Works a1).bind fun t4 => some (0, (⟨a0.N, a0.Reserve, a0.Committed, a0.Elder, a0.Mark, t4⟩ : S_rickyardref18_Alloc)))))
theorem rickyardref18_Alloc_Give.sc (fu : Nat) (a0 : S_rickyardref18_Alloc) (a1 : Int) (r : Int × S_rickyardref18_Alloc) (h : rickyardref18_Alloc_Give.f fu a0 a1 = some r) : SC Tryd.prog CT 37 [.ptr 0 0, vi .i64 a1] [.box 86 (.v (.st .S_rickyardref18_Alloc) (a0 : S_rickyardref18_Alloc))] (vi .i64 r.1) [.box 86 (.v (.st .S_rickyardref18_Alloc) (r.2 : S_rickyardref18_Alloc))] := by
 unfold rickyardref18_Alloc_Give.f at h
 refine sc_of (r := r) (N := 21) (rs := [.tmp 4]) (V := fun (r : Int × S_rickyardref18_Alloc) => vi .i64 r.1) (R' := fun (r : Int × S_rickyardref18_Alloc) => [.box 86 (.v (.st .S_rickyardref18_Alloc) (r.2 : S_rickyardref18_Alloc))]) cok Tryd.func37 rfl rfl rfl (by kernel_rfl) (by kernel_rfl) rfl rfl fun X => ?_
 refine bk h fun t1 k2 h => ?_
 refine cl3 cok.g (rickyardref10_Has.sc fu a0.Works a1 _ k2) (vb t1) [] 1 (by kernel_rfl) (by kernel_rfl) ?_
 refine t_cond cok ?_
 refine bi h (fun c3 h => ?_) (fun c3 h => ?_)
 ·skip
  exact fi h (by kernel_rfl)
 refine bk h fun t4 k5 h => ?_
 refine cl3 cok.g (rickyardref17_Drop.sc fu a0.Works a1 _ k5) (.sl 1 1 []) [(1, .row (.int .i64) 3 (t4 : List Int))] 2 (by kernel_rfl) (by kernel_rfl) ?_
 exact fi h (by kernel_rfl)
def rickyardref18_New.f (fu : Nat) (a0 : Int) (a1 : List Int) (a2 : List Int) (a3 : Int) : Option S_rickyardref18_Alloc := some ((⟨a0, a3, a1, a2, a1, a1⟩ : S_rickyardref18_Alloc))
theorem rickyardref18_New.sc (fu : Nat) (a0 : Int) (a1 : List Int) (a2 : List Int) (a3 : Int) (r : S_rickyardref18_Alloc) (h : rickyardref18_New.f fu a0 a1 a2 a3 = some r) : SC Tryd.prog CT 34 [vi .i64 a0, .v (.sl (.int .i64)) (a1 : List Int), .v (.sl (.int .i64)) (a2 : List Int), vi .i64 a3] [] (.ptr 0 0) [.box 86 (.v (.st .S_rickyardref18_Alloc) (r : S_rickyardref18_Alloc))] := by
 unfold rickyardref18_New.f at h
 refine sc_of (r := r) (N := 17) (rs := [.tmp 8]) (V := fun (r : S_rickyardref18_Alloc) => .ptr 0 0) (R' := fun (r : S_rickyardref18_Alloc) => [.box 86 (.v (.st .S_rickyardref18_Alloc) (r : S_rickyardref18_Alloc))]) cok Tryd.func34 rfl rfl rfl (by kernel_rfl) (by kernel_rfl) rfl rfl fun X => ?_
 exact fi h (by kernel_rfl)
def rickyardref01_Number.s0 (fu : Nat) (a0 : List UInt8) : (Int × Int) → Option (Sum Int (Int × Int)) := fun s1 => (if (decide (s1.2 ≥ 0)) = true then (((if (decide (s1.2 < 8)) = true then if 0 ≤ s1.2 ∧ s1.2 < (List.length a0 : Int) then some ((IntKind.u64.wrap ((IntKind.u64.wrap (s1.1 * 256)) + (IntKind.u64.wrap (ofB (List.getD a0 (Int.toNat s1.2) 0)))))) else none else some (s1.1)) : Option Int).bind fun x7 => some (Sum.inr (x7, (IntKind.i64.wrap (s1.2 - 1))))) else some (Sum.inl (s1.1)))
def rickyardref01_Number.f (fu : Nat) (a0 : List UInt8) : Option Int := ((loopM (rickyardref01_Number.s0 fu a0) fu (0, (IntKind.i64.wrap ((List.length a0 : Int) - 1)))).bind fun e2 => some (e2))
theorem rickyardref01_Number.sc (fu : Nat) (a0 : List UInt8) (r : Int) (h : rickyardref01_Number.f fu a0 = some r) : SC Tryd.prog CT 101 [vs a0] [] (vi .u64 r) [] := by
 unfold rickyardref01_Number.f at h
 refine sc_of (r := r) (N := 22) (rs := [.tmp 2]) (V := fun (r : Int) => vi .u64 r) (R' := fun (r : Int) => []) cok Tryd.func101 rfl rfl rfl (by kernel_rfl) (by kernel_rfl) rfl rfl fun X => ?_
 refine bk h fun e2 l3 h => ?_
 refine t_cutx cok 0 (fun (e2 : Int) => ⟨[(3, vi .u64 e2)], []⟩) e2 ?_ ?_
 ·skip
  have h4 := h
  refine t_loop cok (fun (s1 : Int × Int) => ⟨[(0, vs a0), (3, vi .u64 s1.1), (4, vi .i64 s1.2)], []⟩) l3 (by kernel_rfl) (fun s1 x5 h => ?_)
  unfold rickyardref01_Number.s0 at h
  refine t_cond cok ?_
  refine bi h (fun c6 h => ?_) (fun c6 h => ?_)
  ·skip
   refine bk h fun x7 j8 h => ?_
   refine t_cut cok (fun (x7 : Int) => ⟨[(0, vs a0), (3, vi .u64 x7), (4, vi .i64 s1.2)], []⟩) x7 ?_ ?_
   ·skip
    have h9 := h
    have h := j8
    refine t_cond cok ?_
    refine bi h (fun c10 h => ?_) (fun c10 h => ?_)
    ·skip
     refine ag h fun h => ?_
     exact em h (by kernel_rfl)
    exact em h (by kernel_rfl)
   exact lpi h (by kernel_rfl)
  exact lpx h (fun hy => em (sj hy) (by kernel_rfl))
 exact fi h (by kernel_rfl)
def rickyardref05_Device_Flush.s0 (fu : Nat) (a0 : S_rickyardref05_Device) (a1 : Int) : (Int × (List Int) × (List Bool)) → Option (Sum ((List Int) × (List Bool)) (Int × (List Int) × (List Bool))) := fun s7 => (if (decide (s7.1 < (IntKind.i64.wrap ((IntKind.i64.wrap (8 * a1)) + 8)))) = true then if 0 ≤ s7.1 ∧ s7.1 < (List.length a0.Stored : Int) then if 0 ≤ s7.1 ∧ s7.1 < (List.length s7.2.1 : Int) then if 0 ≤ s7.1 ∧ s7.1 < (List.length s7.2.2 : Int) then some (Sum.inr ((IntKind.i64.wrap (s7.1 + 1)), (List.set s7.2.1 (Int.toNat s7.1) (ix a0.Stored s7.1)), (List.set s7.2.2 (Int.toNat s7.1) true))) else none else none else none else some (Sum.inl (s7.2.1, s7.2.2)))
def rickyardref05_Device_Flush.f (fu : Nat) (a0 : S_rickyardref05_Device) (a1 : Int) : Option (Int × S_rickyardref05_Device) := ((rickyardref05_Device_error.f fu a0 a1 (IntKind.i64.wrap (Int.tdiv (List.length a0.Lasts : Int) 8))).bind fun t1 => (((if (decide (t1 = 0)) = true then ((loopM (rickyardref05_Device_Flush.s0 fu a0 a1) fu ((IntKind.i64.wrap (8 * a1)), a0.Sent, a0.Flushed)).bind fun e8 => ((rickyardref05_Device_step.f fu (⟨a0.Lasts, a0.Stored, e8.1, e8.2, a0.Plan, a0.Since, a0.Left, a0.Steps⟩ : S_rickyardref05_Device)).bind fun t13 => some (t13))) else some (a0)) : Option S_rickyardref05_Device).bind fun x3 => some (t1, x3)))
theorem rickyardref05_Device_Flush.sc (fu : Nat) (a0 : S_rickyardref05_Device) (a1 : Int) (r : Int × S_rickyardref05_Device) (h : rickyardref05_Device_Flush.f fu a0 a1 = some r) : SC Tryd.prog CT 102 [.ptr 0 0, vi .i64 a1] [.box 83 (.agg [.sl 1 1 [], .sl 2 1 [], .sl 3 1 [], .sl 4 1 [], .v (.sl (.int .i64)) (a0.Plan : List Int), vi .i64 a0.Since, vi .i64 a0.Left, vi .i64 a0.Steps]), .row (.int .u64) 119 (a0.Lasts : List Int), .row (.int .u64) 119 (a0.Stored : List Int), .row (.int .u64) 119 (a0.Sent : List Int), .row (.bool) 4 (a0.Flushed : List Bool)] (vi .i64 r.1) [.box 83 (.agg [.sl 1 1 [], .sl 2 1 [], .sl 3 1 [], .sl 4 1 [], .v (.sl (.int .i64)) (r.2.Plan : List Int), vi .i64 r.2.Since, vi .i64 r.2.Left, vi .i64 r.2.Steps]), .row (.int .u64) 119 (r.2.Lasts : List Int), .row (.int .u64) 119 (r.2.Stored : List Int), .row (.int .u64) 119 (r.2.Sent : List Int), .row (.bool) 4 (r.2.Flushed : List Bool)] := by
 unfold rickyardref05_Device_Flush.f at h
 refine sc_of (r := r) (N := 49) (rs := [.tmp 4]) (V := fun (r : Int × S_rickyardref05_Device) => vi .i64 r.1) (R' := fun (r : Int × S_rickyardref05_Device) => [.box 83 (.agg [.sl 1 1 [], .sl 2 1 [], .sl 3 1 [], .sl 4 1 [], .v (.sl (.int .i64)) (r.2.Plan : List Int), vi .i64 r.2.Since, vi .i64 r.2.Left, vi .i64 r.2.Steps]), .row (.int .u64) 119 (r.2.Lasts : List Int), .row (.int .u64) 119 (r.2.Stored : List Int), .row (.int .u64) 119 (r.2.Sent : List Int), .row (.bool) 4 (r.2.Flushed : List Bool)]) cok Tryd.func102 rfl rfl rfl (by kernel_rfl) (by kernel_rfl) rfl rfl fun X => ?_
 refine ⟨by decide, ?_⟩
 refine bk h fun t1 k2 h => ?_
 refine cl3 cok.g (rickyardref05_Device_error.sc fu a0 a1 (IntKind.i64.wrap (Int.tdiv (List.length a0.Lasts : Int) 8)) _ k2) (vi .i64 t1) [(0, .box 83 (.agg [.sl 1 1 [], .sl 2 1 [], .sl 3 1 [], .sl 4 1 [], .v (.sl (.int .i64)) (a0.Plan : List Int), vi .i64 a0.Since, vi .i64 a0.Left, vi .i64 a0.Steps])), (1, .row (.int .u64) 119 (a0.Lasts : List Int)), (2, .row (.int .u64) 119 (a0.Stored : List Int)), (3, .row (.int .u64) 119 (a0.Sent : List Int)), (4, .row (.bool) 4 (a0.Flushed : List Bool))] 10 (by kernel_rfl) (by kernel_rfl) ?_
 refine bk h fun x3 j4 h => ?_
 refine t_cut cok (fun (x3 : S_rickyardref05_Device) => ⟨[(5, vi .i64 t1)], [.box 83 (.agg [.sl 1 1 [], .sl 2 1 [], .sl 3 1 [], .sl 4 1 [], .v (.sl (.int .i64)) (x3.Plan : List Int), vi .i64 x3.Since, vi .i64 x3.Left, vi .i64 x3.Steps]), .row (.int .u64) 119 (x3.Lasts : List Int), .row (.int .u64) 119 (x3.Stored : List Int), .row (.int .u64) 119 (x3.Sent : List Int), .row (.bool) 4 (x3.Flushed : List Bool)]⟩) x3 ?_ ?_
 ·skip
  have h5 := h
  have h := j4
  refine t_cond cok ?_
  refine bi h (fun c6 h => ?_) (fun c6 h => ?_)
  ·skip
   refine bk h fun e8 l9 h => ?_
   refine t_cutx cok 0 (fun (e8 : (List Int) × (List Bool)) => ⟨[(0, .ptr 0 0), (5, vi .i64 t1)], [.box 83 (.agg [.sl 1 1 [], .sl 2 1 [], .sl 3 1 [], .sl 4 1 [], .v (.sl (.int .i64)) (a0.Plan : List Int), vi .i64 a0.Since, vi .i64 a0.Left, vi .i64 a0.Steps]), .row (.int .u64) 119 (a0.Lasts : List Int), .row (.int .u64) 119 (a0.Stored : List Int), .row (.int .u64) 119 (e8.1 : List Int), .row (.bool) 4 (e8.2 : List Bool)]⟩) e8 ?_ ?_
   ·skip
    have h10 := h
    refine t_loop cok (fun (s7 : Int × (List Int) × (List Bool)) => ⟨[(0, .ptr 0 0), (1, vi .i64 a1), (5, vi .i64 t1), (6, vi .i64 s7.1)], [.box 83 (.agg [.sl 1 1 [], .sl 2 1 [], .sl 3 1 [], .sl 4 1 [], .v (.sl (.int .i64)) (a0.Plan : List Int), vi .i64 a0.Since, vi .i64 a0.Left, vi .i64 a0.Steps]), .row (.int .u64) 119 (a0.Lasts : List Int), .row (.int .u64) 119 (a0.Stored : List Int), .row (.int .u64) 119 (s7.2.1 : List Int), .row (.bool) 4 (s7.2.2 : List Bool)]⟩) l9 (by kernel_rfl) (fun s7 x11 h => ?_)
    unfold rickyardref05_Device_Flush.s0 at h
    refine t_cond cok ?_
    refine bi h (fun c12 h => ?_) (fun c12 h => ?_)
    ·skip
     refine t_draw cok mo [⟨0, false, [0], [], 0, []⟩, ⟨1, false, [27], [], 0, [0]⟩, ⟨2, false, [28], [], 0, [0, 1]⟩, ⟨3, false, [29], [0], 0, [0, 1, 2]⟩, ⟨4, false, [6], [], 0, []⟩, ⟨5, false, [0], [], 0, []⟩, ⟨6, false, [32], [], 0, [5]⟩, ⟨7, false, [33], [], 0, [5, 6]⟩, ⟨8, false, [34], [0], 0, [5, 6, 7]⟩, ⟨9, false, [6], [], 0, []⟩, ⟨10, false, [35, 36], [2], 0, [5, 6, 7, 8, 9]⟩, ⟨11, false, [37], [2], 0, [5, 6, 7, 8, 9, 10]⟩, ⟨12, false, [30, 31], [3], 0, [0, 1, 2, 3, 4, 5, 6, 7, 8, 9, 10, 11]⟩, ⟨13, true, [38, 39], [3], 0, [0, 1, 2, 3, 4, 5, 6, 7, 8, 9, 10, 11, 12]⟩] (by kernel_rfl) ?_
     refine ag h fun h => ?_
     refine ag h fun h => ?_
     refine ag h fun h => ?_
     exact lpi h (by kernel_rfl)
    exact lpx h (fun hy => em (sj hy) (by kernel_rfl))
   refine bk h fun t13 k14 h => ?_
   refine cl3 cok.g (rickyardref05_Device_step.sc fu (⟨a0.Lasts, a0.Stored, e8.1, e8.2, a0.Plan, a0.Since, a0.Left, a0.Steps⟩ : S_rickyardref05_Device) _ k14) (.tup []) [(0, .box 83 (.agg [.sl 1 1 [], .sl 2 1 [], .sl 3 1 [], .sl 4 1 [], .v (.sl (.int .i64)) (t13.Plan : List Int), vi .i64 t13.Since, vi .i64 t13.Left, vi .i64 t13.Steps])), (1, .row (.int .u64) 119 (t13.Lasts : List Int)), (2, .row (.int .u64) 119 (t13.Stored : List Int)), (3, .row (.int .u64) 119 (t13.Sent : List Int)), (4, .row (.bool) 4 (t13.Flushed : List Bool))] 10 (by kernel_rfl) (by kernel_rfl) ?_
   exact em h (by kernel_rfl)
  exact em h (by kernel_rfl)
 exact fi h (by kernel_rfl)
def rickyardref05_Device_Store.f (fu : Nat) (a0 : S_rickyardref05_Device) (a1 : Int) (a2 : Int) : Option (Int × S_rickyardref05_Device) := ((rickyardref05_Device_error.f fu a0 a1 (List.length a0.Lasts : Int)).bind fun t1 => (((if (decide (t1 = 0)) = true then if 0 ≤ a1 ∧ a1 < (List.length a0.Stored : Int) then ((rickyardref05_Device_step.f fu (⟨a0.Lasts, (List.set a0.Stored (Int.toNat a1) a2), a0.Sent, a0.Flushed, a0.Plan, a0.Since, a0.Left, a0.Steps⟩ : S_rickyardref05_Device)).bind fun t7 => some (t7)) else none else some (a0)) : Option S_rickyardref05_Device).bind fun x3 => some (t1, x3)))
theorem rickyardref05_Device_Store.sc (fu : Nat) (a0 : S_rickyardref05_Device) (a1 : Int) (a2 : Int) (r : Int × S_rickyardref05_Device) (h : rickyardref05_Device_Store.f fu a0 a1 a2 = some r) : SC Tryd.prog CT 100 [.ptr 0 0, vi .i64 a1, vi .u64 a2] [.box 83 (.agg [.sl 1 1 [], .sl 2 1 [], .sl 3 1 [], .sl 4 1 [], .v (.sl (.int .i64)) (a0.Plan : List Int), vi .i64 a0.Since, vi .i64 a0.Left, vi .i64 a0.Steps]), .row (.int .u64) 119 (a0.Lasts : List Int), .row (.int .u64) 119 (a0.Stored : List Int), .row (.int .u64) 119 (a0.Sent : List Int), .row (.bool) 4 (a0.Flushed : List Bool)] (vi .i64 r.1) [.box 83 (.agg [.sl 1 1 [], .sl 2 1 [], .sl 3 1 [], .sl 4 1 [], .v (.sl (.int .i64)) (r.2.Plan : List Int), vi .i64 r.2.Since, vi .i64 r.2.Left, vi .i64 r.2.Steps]), .row (.int .u64) 119 (r.2.Lasts : List Int), .row (.int .u64) 119 (r.2.Stored : List Int), .row (.int .u64) 119 (r.2.Sent : List Int), .row (.bool) 4 (r.2.Flushed : List Bool)] := by
 unfold rickyardref05_Device_Store.f at h
 refine sc_of (r := r) (N := 28) (rs := [.tmp 6]) (V := fun (r : Int × S_rickyardref05_Device) => vi .i64 r.1) (R' := fun (r : Int × S_rickyardref05_Device) => [.box 83 (.agg [.sl 1 1 [], .sl 2 1 [], .sl 3 1 [], .sl 4 1 [], .v (.sl (.int .i64)) (r.2.Plan : List Int), vi .i64 r.2.Since, vi .i64 r.2.Left, vi .i64 r.2.Steps]), .row (.int .u64) 119 (r.2.Lasts : List Int), .row (.int .u64) 119 (r.2.Stored : List Int), .row (.int .u64) 119 (r.2.Sent : List Int), .row (.bool) 4 (r.2.Flushed : List Bool)]) cok Tryd.func100 rfl rfl rfl (by kernel_rfl) (by kernel_rfl) rfl rfl fun X => ?_
 refine bk h fun t1 k2 h => ?_
 refine cl3 cok.g (rickyardref05_Device_error.sc fu a0 a1 (List.length a0.Lasts : Int) _ k2) (vi .i64 t1) [(0, .box 83 (.agg [.sl 1 1 [], .sl 2 1 [], .sl 3 1 [], .sl 4 1 [], .v (.sl (.int .i64)) (a0.Plan : List Int), vi .i64 a0.Since, vi .i64 a0.Left, vi .i64 a0.Steps])), (1, .row (.int .u64) 119 (a0.Lasts : List Int)), (2, .row (.int .u64) 119 (a0.Stored : List Int)), (3, .row (.int .u64) 119 (a0.Sent : List Int)), (4, .row (.bool) 4 (a0.Flushed : List Bool))] 10 (by kernel_rfl) (by kernel_rfl) ?_
 refine bk h fun x3 j4 h => ?_
 refine t_cut cok (fun (x3 : S_rickyardref05_Device) => ⟨[(7, vi .i64 t1)], [.box 83 (.agg [.sl 1 1 [], .sl 2 1 [], .sl 3 1 [], .sl 4 1 [], .v (.sl (.int .i64)) (x3.Plan : List Int), vi .i64 x3.Since, vi .i64 x3.Left, vi .i64 x3.Steps]), .row (.int .u64) 119 (x3.Lasts : List Int), .row (.int .u64) 119 (x3.Stored : List Int), .row (.int .u64) 119 (x3.Sent : List Int), .row (.bool) 4 (x3.Flushed : List Bool)]⟩) x3 ?_ ?_
 ·skip
  have h5 := h
  have h := j4
  refine t_cond cok ?_
  refine bi h (fun c6 h => ?_) (fun c6 h => ?_)
  ·skip
   refine ag h fun h => ?_
   refine bk h fun t7 k8 h => ?_
   refine cl3 cok.g (rickyardref05_Device_step.sc fu (⟨a0.Lasts, (List.set a0.Stored (Int.toNat a1) a2), a0.Sent, a0.Flushed, a0.Plan, a0.Since, a0.Left, a0.Steps⟩ : S_rickyardref05_Device) _ k8) (.tup []) [(0, .box 83 (.agg [.sl 1 1 [], .sl 2 1 [], .sl 3 1 [], .sl 4 1 [], .v (.sl (.int .i64)) (t7.Plan : List Int), vi .i64 t7.Since, vi .i64 t7.Left, vi .i64 t7.Steps])), (1, .row (.int .u64) 119 (t7.Lasts : List Int)), (2, .row (.int .u64) 119 (t7.Stored : List Int)), (3, .row (.int .u64) 119 (t7.Sent : List Int)), (4, .row (.bool) 4 (t7.Flushed : List Bool))] 15 (by kernel_rfl) (by kernel_rfl) ?_
   exact em h (by kernel_rfl)
  exact em h (by kernel_rfl)
 exact fi h (by kernel_rfl)
def rickyardref15_Write.s0 (fu : Nat) (a1 : Int) (a2 : List Int) : (Int × S_rickyardref05_Device) → Option (Sum (Sum (Int × S_rickyardref05_Device) S_rickyardref05_Device) (Int × S_rickyardref05_Device)) := fun s6 => (if (decide (s6.1 < 8)) = true then if (0 : Int) ≤ (IntKind.i64.wrap (8 * s6.1)) ∧ (IntKind.i64.wrap (8 * s6.1)) ≤ (IntKind.i64.wrap ((IntKind.i64.wrap (8 * s6.1)) + 8)) ∧ (IntKind.i64.wrap ((IntKind.i64.wrap (8 * s6.1)) + 8)) ≤ (List.length a2 : Int) then ((rickyardref01_Number.f fu (List.map toB (cut a2 (IntKind.i64.wrap (8 * s6.1)) (IntKind.i64.wrap ((IntKind.i64.wrap (8 * s6.1)) + 8))))).bind fun t13 => ((rickyardref05_Device_Store.f fu s6.2 (IntKind.i64.wrap ((IntKind.i64.wrap (8 * a1)) + s6.1)) t13).bind fun t15 => (if (!decide (t15.1 = 0)) = true then some (Sum.inl (Sum.inl (t15.1, t15.2))) else some (Sum.inr ((IntKind.i64.wrap (s6.1 + 1)), t15.2))))) else none else some (Sum.inl (Sum.inr (s6.2))))
def rickyardref15_Write.f (fu : Nat) (a0 : S_rickyardref05_Device) (a1 : Int) (a2 : List Int) : Option (Int × S_rickyardref05_Device) := (if (decide (a1 < 0)) = true then some (2, a0) else ((rickyardref15_Lines.f fu a0).bind fun t2 => (if (decide (a1 ≥ t2)) = true then some (2, a0) else (if (!decide ((List.length a2 : Int) = 64)) = true then some (2, a0) else ((loopM (rickyardref15_Write.s0 fu a1 a2) fu (0, a0)).bind fun e7 => match e7 with | Sum.inl p => some p | Sum.inr x9 => ((rickyardref05_Device_Flush.f fu x9 a1).bind fun t18 => some (t18.1, t18.2)))))))
theorem rickyardref15_Write.sc (fu : Nat) (a0 : S_rickyardref05_Device) (a1 : Int) (a2 : List Int) (r : Int × S_rickyardref05_Device) (h : rickyardref15_Write.f fu a0 a1 a2 = some r) : SC Tryd.prog CT 72 [.ptr 0 0, vi .i64 a1, .v (.sl (.int .u8)) (a2 : List Int)] [.box 83 (.agg [.sl 1 1 [], .sl 2 1 [], .sl 3 1 [], .sl 4 1 [], .v (.sl (.int .i64)) (a0.Plan : List Int), vi .i64 a0.Since, vi .i64 a0.Left, vi .i64 a0.Steps]), .row (.int .u64) 119 (a0.Lasts : List Int), .row (.int .u64) 119 (a0.Stored : List Int), .row (.int .u64) 119 (a0.Sent : List Int), .row (.bool) 4 (a0.Flushed : List Bool)] (vi .i64 r.1) [.box 83 (.agg [.sl 1 1 [], .sl 2 1 [], .sl 3 1 [], .sl 4 1 [], .v (.sl (.int .i64)) (r.2.Plan : List Int), vi .i64 r.2.Since, vi .i64 r.2.Left, vi .i64 r.2.Steps]), .row (.int .u64) 119 (r.2.Lasts : List Int), .row (.int .u64) 119 (r.2.Stored : List Int), .row (.int .u64) 119 (r.2.Sent : List Int), .row (.bool) 4 (r.2.Flushed : List Bool)] := by
 unfold rickyardref15_Write.f at h
 refine sc_of (r := r) (N := 47) (rs := [.tmp 6]) (V := fun (r : Int × S_rickyardref05_Device) => vi .i64 r.1) (R' := fun (r : Int × S_rickyardref05_Device) => [.box 83 (.agg [.sl 1 1 [], .sl 2 1 [], .sl 3 1 [], .sl 4 1 [], .v (.sl (.int .i64)) (r.2.Plan : List Int), vi .i64 r.2.Since, vi .i64 r.2.Left, vi .i64 r.2.Steps]), .row (.int .u64) 119 (r.2.Lasts : List Int), .row (.int .u64) 119 (r.2.Stored : List Int), .row (.int .u64) 119 (r.2.Sent : List Int), .row (.bool) 4 (r.2.Flushed : List Bool)]) cok Tryd.func72 rfl rfl rfl (by kernel_rfl) (by kernel_rfl) rfl rfl fun X => ?_
 refine t_reg cok ?_
 refine bi h (fun c1 h => ?_) (fun c1 h => ?_)
 ·skip
  refine t_cond cok ?_
  exact fi h (by kernel_rfl)
 refine bk h fun t2 k3 h => ?_
 refine cl3 cok.g (rickyardref15_Lines.sc fu a0 _ k3) (vi .i64 t2) [(0, .box 83 (.agg [.sl 1 1 [], .sl 2 1 [], .sl 3 1 [], .sl 4 1 [], .v (.sl (.int .i64)) (a0.Plan : List Int), vi .i64 a0.Since, vi .i64 a0.Left, vi .i64 a0.Steps])), (1, .row (.int .u64) 119 (a0.Lasts : List Int)), (2, .row (.int .u64) 119 (a0.Stored : List Int)), (3, .row (.int .u64) 119 (a0.Sent : List Int)), (4, .row (.bool) 4 (a0.Flushed : List Bool))] 10 (by kernel_rfl) (by kernel_rfl) ?_
 refine bi h (fun c4 h => ?_) (fun c4 h => ?_)
 ·skip
  refine t_cond cok ?_
  exact fi h (by kernel_rfl)
 refine t_cond cok ?_
 refine bi h (fun c5 h => ?_) (fun c5 h => ?_)
 ·skip
  exact fi h (by kernel_rfl)
 refine bk h fun e7 l8 h => ?_
 refine t_cutxS cok 0 (fun (x9 : S_rickyardref05_Device) => ⟨[(0, .ptr 0 0), (1, vi .i64 a1)], [.box 83 (.agg [.sl 1 1 [], .sl 2 1 [], .sl 3 1 [], .sl 4 1 [], .v (.sl (.int .i64)) (x9.Plan : List Int), vi .i64 x9.Since, vi .i64 x9.Left, vi .i64 x9.Steps]), .row (.int .u64) 119 (x9.Lasts : List Int), .row (.int .u64) 119 (x9.Stored : List Int), .row (.int .u64) 119 (x9.Sent : List Int), .row (.bool) 4 (x9.Flushed : List Bool)]⟩) e7 ?_ (fun x9 hy => ?_)
 ·skip
  have h10 := h
  refine t_loop cok (fun (s6 : Int × S_rickyardref05_Device) => ⟨[(0, .ptr 0 0), (1, vi .i64 a1), (2, .v (.sl (.int .u8)) (a2 : List Int)), (7, vi .i64 s6.1)], [.box 83 (.agg [.sl 1 1 [], .sl 2 1 [], .sl 3 1 [], .sl 4 1 [], .v (.sl (.int .i64)) (s6.2.Plan : List Int), vi .i64 s6.2.Since, vi .i64 s6.2.Left, vi .i64 s6.2.Steps]), .row (.int .u64) 119 (s6.2.Lasts : List Int), .row (.int .u64) 119 (s6.2.Stored : List Int), .row (.int .u64) 119 (s6.2.Sent : List Int), .row (.bool) 4 (s6.2.Flushed : List Bool)]⟩) l8 (by kernel_rfl) (fun s6 x11 h => ?_)
  unfold rickyardref15_Write.s0 at h
  refine t_cond cok ?_
  refine bi h (fun c12 h => ?_) (fun c12 h => ?_)
  ·skip
   refine ag h fun h => ?_
   refine bk h fun t13 k14 h => ?_
   refine cl3 cok.g (rickyardref01_Number.sc fu (List.map toB (cut a2 (IntKind.i64.wrap (8 * s6.1)) (IntKind.i64.wrap ((IntKind.i64.wrap (8 * s6.1)) + 8)))) _ k14) (vi .u64 t13) [] 5 (by kernel_rfl) (by kernel_rfl) ?_
   refine bk h fun t15 k16 h => ?_
   refine cl3 cok.g (rickyardref05_Device_Store.sc fu s6.2 (IntKind.i64.wrap ((IntKind.i64.wrap (8 * a1)) + s6.1)) t13 _ k16) (vi .i64 t15.1) [(0, .box 83 (.agg [.sl 1 1 [], .sl 2 1 [], .sl 3 1 [], .sl 4 1 [], .v (.sl (.int .i64)) (t15.2.Plan : List Int), vi .i64 t15.2.Since, vi .i64 t15.2.Left, vi .i64 t15.2.Steps])), (1, .row (.int .u64) 119 (t15.2.Lasts : List Int)), (2, .row (.int .u64) 119 (t15.2.Stored : List Int)), (3, .row (.int .u64) 119 (t15.2.Sent : List Int)), (4, .row (.bool) 4 (t15.2.Flushed : List Bool))] 10 (by kernel_rfl) (by kernel_rfl) ?_
   refine t_cond cok ?_
   refine bi h (fun c17 h => ?_) (fun c17 h => ?_)
   ·skip
    refine lpr h (fun hy => ?_)
    have h := h10
    rw [← hy] at h
    exact fi h (by kernel_rfl)
   exact lpi h (by kernel_rfl)
  exact lpx h (fun hy => ems (sj hy) (by kernel_rfl))
 subst hy
 refine bk h fun t18 k19 h => ?_
 refine cl3 cok.g (rickyardref05_Device_Flush.sc fu x9 a1 _ k19) (vi .i64 t18.1) [(0, .box 83 (.agg [.sl 1 1 [], .sl 2 1 [], .sl 3 1 [], .sl 4 1 [], .v (.sl (.int .i64)) (t18.2.Plan : List Int), vi .i64 t18.2.Since, vi .i64 t18.2.Left, vi .i64 t18.2.Steps])), (1, .row (.int .u64) 119 (t18.2.Lasts : List Int)), (2, .row (.int .u64) 119 (t18.2.Stored : List Int)), (3, .row (.int .u64) 119 (t18.2.Sent : List Int)), (4, .row (.bool) 4 (t18.2.Flushed : List Bool))] 10 (by kernel_rfl) (by kernel_rfl) ?_
 exact fi h (by kernel_rfl)
def rickyardref17_Add.s0 (fu : Nat) (a0 : List Int) (a2 : Int) : Int → Option (Sum Int Int) := fun s6 => (if (decide (s6 > 0)) = true then if 0 ≤ (IntKind.i64.wrap (s6 - 1)) ∧ (IntKind.i64.wrap (s6 - 1)) < (List.length a0 : Int) then (if (decide ((ix a0 (IntKind.i64.wrap (s6 - 1))) > a2)) = true then some (Sum.inr ((IntKind.i64.wrap (s6 - 1)))) else some (Sum.inl (s6))) else none else some (Sum.inl (s6)))
def rickyardref17_Add.f (fu : Nat) (a0 : List Int) (a1 : Int) (a2 : Int) : Option (List Int) := (if (decide (a2 < 0)) = true then some (a0) else (if (decide (a2 ≥ a1)) = true then some (a0) else ((rickyardref10_Has.f fu a0 a2).bind fun t3 => (if t3 = true then some (a0) else ((loopM (rickyardref17_Add.s0 fu a0 a2) fu ((List.length a0 : Int))).bind fun e7 => if 0 ≤ e7 ∧ e7 ≤ (List.length a0 : Int) then if List.length ([] : List Int) + List.length (cut a0 0 e7) ≤ LIM then if List.length (([] : List Int) ++ (cut a0 0 e7)) + List.length [a2] ≤ LIM then if 0 ≤ e7 ∧ e7 ≤ (List.length a0 : Int) then if List.length ((([] : List Int) ++ (cut a0 0 e7)) ++ [a2]) + List.length (cut a0 e7 (List.length a0 : Int)) ≤ LIM then some ((((([] : List Int) ++ (cut a0 0 e7)) ++ [a2]) ++ (cut a0 e7 (List.length a0 : Int)))) else none else none else none else none else none)))))
theorem rickyardref17_Add.sc (fu : Nat) (a0 : List Int) (a1 : Int) (a2 : Int) (r : (List Int)) (h : rickyardref17_Add.f fu a0 a1 a2 = some r) : SC Tryd.prog CT 99 [.v (.sl (.int .i64)) (a0 : List Int), vi .i64 a1, vi .i64 a2] [] (.v (.sl (.int .i64)) (r : List Int)) [] := by
 unfold rickyardref17_Add.f at h
 refine sc_of (r := r) (N := 51) (rs := [.tmp 6]) (V := fun (r : (List Int)) => .v (.sl (.int .i64)) (r : List Int)) (R' := fun (r : (List Int)) => []) cok Tryd.func99 rfl rfl rfl (by kernel_rfl) (by kernel_rfl) rfl rfl fun X => ?_
 refine t_reg cok ?_
 refine bi h (fun c1 h => ?_) (fun c1 h => ?_)
 ·skip
  refine t_cond cok ?_
  exact fi h (by kernel_rfl)
 refine bi h (fun c2 h => ?_) (fun c2 h => ?_)
 ·skip
  refine t_cond cok ?_
  exact fi h (by kernel_rfl)
 refine bk h fun t3 k4 h => ?_
 refine cl3 cok.g (rickyardref10_Has.sc fu a0 a2 _ k4) (vb t3) [] 0 (by kernel_rfl) (by kernel_rfl) ?_
 refine t_cond cok ?_
 refine bi h (fun c5 h => ?_) (fun c5 h => ?_)
 ·skip
  exact fi h (by kernel_rfl)
 refine bk h fun e7 l8 h => ?_
 refine t_cutx cok 0 (fun (e7 : Int) => ⟨[(0, .v (.sl (.int .i64)) (a0 : List Int)), (2, vi .i64 a2), (7, vi .i64 e7)], []⟩) e7 ?_ ?_
 ·skip
  have h9 := h
  refine t_loop cok (fun (s6 : Int) => ⟨[(0, .v (.sl (.int .i64)) (a0 : List Int)), (2, vi .i64 a2), (7, vi .i64 s6)], []⟩) l8 (by kernel_rfl) (fun s6 x10 h => ?_)
  unfold rickyardref17_Add.s0 at h
  refine t_reg cok ?_
  refine bi h (fun c11 h => ?_) (fun c11 h => ?_)
  ·skip
   refine ag h fun h => ?_
   refine t_cond cok ?_
   refine bi h (fun c12 h => ?_) (fun c12 h => ?_)
   ·skip
    exact lpi h (by kernel_rfl)
   exact lpx h (fun hy => em (sj hy) (by kernel_rfl))
  refine t_cond cok ?_
  exact lpx h (fun hy => em (sj hy) (by kernel_rfl))
 refine ag h fun h => ?_
 refine ag h fun h => ?_
 refine ag h fun h => ?_
 refine ag h fun h => ?_
 refine ag h fun h => ?_
 exact fi h (by kernel_rfl)
def rickyardref18_Alloc_Free.s0 (fu : Nat) (a0 : S_rickyardref18_Alloc) : ((List Int) × Int) → Option (Sum (List Int) ((List Int) × Int)) := fun s1 => (if (decide (s1.2 < a0.N)) = true then ((rickyardref10_Has.f fu a0.Committed s1.2).bind fun t7 => (if (!t7) = true then ((rickyardref10_Has.f fu a0.Elder s1.2).bind fun t10 => (if (!t10) = true then ((rickyardref10_Has.f fu a0.Mark s1.2).bind fun t13 => (if (!t13) = true then ((rickyardref10_Has.f fu a0.Works s1.2).bind fun t16 => (((if (!t16) = true then if List.length s1.1 + List.length [s1.2] ≤ LIM then some ((s1.1 ++ [s1.2])) else none else some (s1.1)) : Option (List Int)).bind fun x18 => some (Sum.inr (x18, (IntKind.i64.wrap (s1.2 + 1)))))) else some (Sum.inr (s1.1, (IntKind.i64.wrap (s1.2 + 1)))))) else some (Sum.inr (s1.1, (IntKind.i64.wrap (s1.2 + 1)))))) else some (Sum.inr (s1.1, (IntKind.i64.wrap (s1.2 + 1)))))) else some (Sum.inl (s1.1)))
def rickyardref18_Alloc_Free.f (fu : Nat) (a0 : S_rickyardref18_Alloc) : Option (List Int) := ((loopM (rickyardref18_Alloc_Free.s0 fu a0) fu (([] : List Int), 0)).bind fun e2 => some (e2))
theorem rickyardref18_Alloc_Free.sc (fu : Nat) (a0 : S_rickyardref18_Alloc) (r : (List Int)) (h : rickyardref18_Alloc_Free.f fu a0 = some r) : SC Tryd.prog CT 98 [.ptr 0 0] [.box 86 (.v (.st .S_rickyardref18_Alloc) (a0 : S_rickyardref18_Alloc))] (.sl 1 1 []) [.box 86 (.v (.st .S_rickyardref18_Alloc) (a0 : S_rickyardref18_Alloc)), .row (.int .i64) 3 (r : List Int)] := by
 unfold rickyardref18_Alloc_Free.f at h
 refine sc_of (r := r) (N := 52) (rs := [.tmp 2]) (V := fun (r : (List Int)) => .sl 1 1 []) (R' := fun (r : (List Int)) => [.box 86 (.v (.st .S_rickyardref18_Alloc) (a0 : S_rickyardref18_Alloc)), .row (.int .i64) 3 (r : List Int)]) cok Tryd.func98 rfl rfl rfl (by kernel_rfl) (by kernel_rfl) rfl rfl fun X => ?_
 refine bk h fun e2 l3 h => ?_
 refine t_cutx cok 0 (fun (e2 : (List Int)) => ⟨[(3, .sl 1 1 [])], [.box 86 (.v (.st .S_rickyardref18_Alloc) (a0 : S_rickyardref18_Alloc)), .row (.int .i64) 3 (e2 : List Int)]⟩) e2 ?_ ?_
 ·skip
  have h4 := h
  refine t_loop cok (fun (s1 : (List Int) × Int) => ⟨[(0, .ptr 0 0), (3, .sl 1 1 []), (4, vi .i64 s1.2)], [.box 86 (.v (.st .S_rickyardref18_Alloc) (a0 : S_rickyardref18_Alloc)), .row (.int .i64) 3 (s1.1 : List Int)]⟩) l3 (by kernel_rfl) (fun s1 x5 h => ?_)
  unfold rickyardref18_Alloc_Free.s0 at h
  refine t_cond cok ?_
  refine bi h (fun c6 h => ?_) (fun c6 h => ?_)
  ·skip
   refine t_reg cok ?_
   refine bk h fun t7 k8 h => ?_
   refine cl3 cok.g (rickyardref10_Has.sc fu a0.Committed s1.2 _ k8) (vb t7) [] 2 (by kernel_rfl) (by kernel_rfl) ?_
   refine bi h (fun c9 h => ?_) (fun c9 h => ?_)
   ·skip
    refine bk h fun t10 k11 h => ?_
    refine cl3 cok.g (rickyardref10_Has.sc fu a0.Elder s1.2 _ k11) (vb t10) [] 2 (by kernel_rfl) (by kernel_rfl) ?_
    refine bi h (fun c12 h => ?_) (fun c12 h => ?_)
    ·skip
     refine bk h fun t13 k14 h => ?_
     refine cl3 cok.g (rickyardref10_Has.sc fu a0.Mark s1.2 _ k14) (vb t13) [] 2 (by kernel_rfl) (by kernel_rfl) ?_
     refine bi h (fun c15 h => ?_) (fun c15 h => ?_)
     ·skip
      refine bk h fun t16 k17 h => ?_
      refine cl3 cok.g (rickyardref10_Has.sc fu a0.Works s1.2 _ k17) (vb t16) [] 2 (by kernel_rfl) (by kernel_rfl) ?_
      refine bk h fun x18 j19 h => ?_
      refine t_cut cok (fun (x18 : (List Int)) => ⟨[(0, .ptr 0 0), (3, .sl 1 1 []), (4, vi .i64 s1.2), (21, .ptr 0 0), (22, .ptr 0 0), (23, .ptr 0 3), (24, .v (.sl (.int .i64)) (a0.Elder : List Int)), (25, vi .i64 s1.2), (26, vb t10), (27, vb (!t10)), (30, .ptr 0 0), (31, .ptr 0 0), (32, .ptr 0 4), (33, .v (.sl (.int .i64)) (a0.Mark : List Int)), (34, vi .i64 s1.2), (35, vb t13), (36, vb (!t13)), (39, .ptr 0 0), (40, .ptr 0 0), (41, .ptr 0 5), (42, .v (.sl (.int .i64)) (a0.Works : List Int)), (43, vi .i64 s1.2), (44, vb t16), (45, vb (!t16))], [.box 86 (.v (.st .S_rickyardref18_Alloc) (a0 : S_rickyardref18_Alloc)), .row (.int .i64) 3 (x18 : List Int)]⟩) x18 ?_ ?_
      ·skip
       have h20 := h
       have h := j19
       refine t_cond cok ?_
       refine bi h (fun c21 h => ?_) (fun c21 h => ?_)
       ·skip
        refine ag h fun h => ?_
        exact em h (by kernel_rfl)
       exact em h (by kernel_rfl)
      exact lpi h (by kernel_rfl)
     refine t_cond cok ?_
     exact lpi h (by kernel_rfl)
    refine t_cond cok ?_
    exact lpi h (by kernel_rfl)
   refine t_cond cok ?_
   exact lpi h (by kernel_rfl)
  exact lpx h (fun hy => em (sj hy) (by kernel_rfl))
 exact fi h (by kernel_rfl)
def rickyardref18_Alloc_Take.f (fu : Nat) (a0 : S_rickyardref18_Alloc) (a1 : Int) : Option (Int × Int × S_rickyardref18_Alloc) := ((rickyardref18_Alloc_Free.f fu a0).bind fun t1 => (if (decide ((List.length t1 : Int) ≤ a1)) = true then some (0, 10, a0) else if (0 : Int) < (List.length t1 : Int) then ((rickyardref17_Add.f fu a0.Works a0.N (ix t1 0)).bind fun t4 => if (0 : Int) < (List.length t1 : Int) then some ((ix t1 0), 0, (⟨a0.N, a0.Reserve, a0.Committed, a0.Elder, a0.Mark, t4⟩ : S_rickyardref18_Alloc)) else none) else none))
theorem rickyardref18_Alloc_Take.sc (fu : Nat) (a0 : S_rickyardref18_Alloc) (a1 : Int) (r : Int × Int × S_rickyardref18_Alloc) (h : rickyardref18_Alloc_Take.f fu a0 a1 = some r) : SC Tryd.prog CT 71 [.ptr 0 0, vi .i64 a1] [.box 86 (.v (.st .S_rickyardref18_Alloc) (a0 : S_rickyardref18_Alloc))] (.tup [vi .i64 r.1, vi .i64 r.2.1]) [.box 86 (.v (.st .S_rickyardref18_Alloc) (r.2.2 : S_rickyardref18_Alloc))] := by
 unfold rickyardref18_Alloc_Take.f at h
 refine sc_of (r := r) (N := 31) (rs := [.tmp 4, .tmp 5]) (V := fun (r : Int × Int × S_rickyardref18_Alloc) => .tup [vi .i64 r.1, vi .i64 r.2.1]) (R' := fun (r : Int × Int × S_rickyardref18_Alloc) => [.box 86 (.v (.st .S_rickyardref18_Alloc) (r.2.2 : S_rickyardref18_Alloc))]) cok Tryd.func71 rfl rfl rfl (by kernel_rfl) (by kernel_rfl) rfl rfl fun X => ?_
 refine bk h fun t1 k2 h => ?_
 refine cl3 cok.g (rickyardref18_Alloc_Free.sc fu a0 _ k2) (.sl 2 1 []) [(0, .box 86 (.v (.st .S_rickyardref18_Alloc) (a0 : S_rickyardref18_Alloc))), (2, .row (.int .i64) 3 (t1 : List Int))] 3 (by kernel_rfl) (by kernel_rfl) ?_
 refine t_cond cok ?_
 refine bi h (fun c3 h => ?_) (fun c3 h => ?_)
 ·skip
  exact fi h (by kernel_rfl)
 refine t_draw cok mo [⟨0, false, [0], [], 0, []⟩, ⟨1, false, [0], [], 0, []⟩, ⟨2, false, [14], [], 0, [1]⟩, ⟨3, false, [15], [], 0, [1, 2]⟩, ⟨4, false, [16], [0], 0, [1, 2, 3]⟩, ⟨5, false, [0], [], 0, []⟩, ⟨6, false, [18], [], 0, [5]⟩, ⟨7, false, [19], [], 0, [5, 6]⟩, ⟨8, false, [20], [0], 0, [5, 6, 7]⟩, ⟨9, false, [6], [], 0, []⟩, ⟨10, false, [22], [2], 0, [9]⟩, ⟨11, false, [23], [2], 0, [9, 10]⟩, ⟨12, true, [17, 21, 24], [], 0, [1, 2, 3, 4, 5, 6, 7, 8, 9, 10, 11]⟩, ⟨13, false, [13], [], 0, [0, 1, 2, 3, 4, 5, 6, 7, 8, 9, 10, 11, 12]⟩, ⟨14, false, [26], [], 0, [0, 1, 2, 3, 4, 5, 6, 7, 8, 9, 10, 11, 12, 13]⟩, ⟨15, true, [25, 27], [0], 0, [0, 1, 2, 3, 4, 5, 6, 7, 8, 9, 10, 11, 12, 13, 14]⟩] (by kernel_rfl) ?_
 refine agL h (by decide) fun h => ?_
 refine bk h fun t4 k5 h => ?_
 refine cl3 cok.g (rickyardref17_Add.sc fu a0.Works a0.N (ix t1 0) _ k5) (.v (.sl (.int .i64)) (t4 : List Int)) [] 3 (by kernel_rfl) (by kernel_rfl) ?_
 refine agL h (by decide) fun h => ?_
 exact fi h (by kernel_rfl)
def rickyardref19_Store_Make.f (fu : Nat) (a0 : S_rickyardref19_Store) (a1 : List Int) : Option (Int × Int × S_rickyardref19_Store) := (if (!decide ((List.length a1 : Int) = 64)) = true then some (0, 2, a0) else ((rickyardref18_Alloc_Take.f fu a0.A a0.A.Reserve).bind fun t2 => (if (!decide (t2.2.1 = 0)) = true then some (0, t2.2.1, (⟨a0.D, t2.2.2⟩ : S_rickyardref19_Store)) else ((rickyardref15_Write.f fu a0.D t2.1 a1).bind fun t5 => (if (!decide (t5.1 = 0)) = true then some (0, t5.1, (⟨t5.2, t2.2.2⟩ : S_rickyardref19_Store)) else some (t2.1, 0, (⟨t5.2, t2.2.2⟩ : S_rickyardref19_Store)))))))
theorem rickyardref19_Store_Make.sc (fu : Nat) (a0 : S_rickyardref19_Store) (a1 : List Int) (r : Int × Int × S_rickyardref19_Store) (h : rickyardref19_Store_Make.f fu a0 a1 = some r) : SC Tryd.prog CT 35 [.ptr 0 0, .v (.sl (.int .u8)) (a1 : List Int)] [.box 71 (.agg [.ptr 1 0, .ptr 6 0]), .box 83 (.agg [.sl 2 1 [], .sl 3 1 [], .sl 4 1 [], .sl 5 1 [], .v (.sl (.int .i64)) (a0.D.Plan : List Int), vi .i64 a0.D.Since, vi .i64 a0.D.Left, vi .i64 a0.D.Steps]), .row (.int .u64) 119 (a0.D.Lasts : List Int), .row (.int .u64) 119 (a0.D.Stored : List Int), .row (.int .u64) 119 (a0.D.Sent : List Int), .row (.bool) 4 (a0.D.Flushed : List Bool), .box 86 (.v (.st .S_rickyardref18_Alloc) (a0.A : S_rickyardref18_Alloc))] (.tup [vi .i64 r.1, vi .i64 r.2.1]) [.box 71 (.agg [.ptr 1 0, .ptr 6 0]), .box 83 (.agg [.sl 2 1 [], .sl 3 1 [], .sl 4 1 [], .sl 5 1 [], .v (.sl (.int .i64)) (r.2.2.D.Plan : List Int), vi .i64 r.2.2.D.Since, vi .i64 r.2.2.D.Left, vi .i64 r.2.2.D.Steps]), .row (.int .u64) 119 (r.2.2.D.Lasts : List Int), .row (.int .u64) 119 (r.2.2.D.Stored : List Int), .row (.int .u64) 119 (r.2.2.D.Sent : List Int), .row (.bool) 4 (r.2.2.D.Flushed : List Bool), .box 86 (.v (.st .S_rickyardref18_Alloc) (r.2.2.A : S_rickyardref18_Alloc))] := by
 unfold rickyardref19_Store_Make.f at h
 refine sc_of (r := r) (N := 40) (rs := [.tmp 4, .tmp 5]) (V := fun (r : Int × Int × S_rickyardref19_Store) => .tup [vi .i64 r.1, vi .i64 r.2.1]) (R' := fun (r : Int × Int × S_rickyardref19_Store) => [.box 71 (.agg [.ptr 1 0, .ptr 6 0]), .box 83 (.agg [.sl 2 1 [], .sl 3 1 [], .sl 4 1 [], .sl 5 1 [], .v (.sl (.int .i64)) (r.2.2.D.Plan : List Int), vi .i64 r.2.2.D.Since, vi .i64 r.2.2.D.Left, vi .i64 r.2.2.D.Steps]), .row (.int .u64) 119 (r.2.2.D.Lasts : List Int), .row (.int .u64) 119 (r.2.2.D.Stored : List Int), .row (.int .u64) 119 (r.2.2.D.Sent : List Int), .row (.bool) 4 (r.2.2.D.Flushed : List Bool), .box 86 (.v (.st .S_rickyardref18_Alloc) (r.2.2.A : S_rickyardref18_Alloc))]) cok Tryd.func35 rfl rfl rfl (by kernel_rfl) (by kernel_rfl) rfl rfl fun X => ?_
 refine t_cond cok ?_
 refine bi h (fun c1 h => ?_) (fun c1 h => ?_)
 ·skip
  exact fi h (by kernel_rfl)
 refine t_draw cok mo [⟨0, false, [0], [], 0, []⟩, ⟨1, false, [12], [], 0, [0]⟩, ⟨2, false, [13], [], 0, [0, 1]⟩, ⟨3, false, [14], [0], 0, [0, 1, 2]⟩, ⟨4, false, [0], [], 0, []⟩, ⟨5, false, [16], [], 0, [4]⟩, ⟨6, false, [17], [], 0, [4, 5]⟩, ⟨7, false, [18], [0], 0, [4, 5, 6]⟩, ⟨8, false, [19], [], 0, [4, 5, 6, 7]⟩, ⟨9, false, [20], [], 0, [4, 5, 6, 7, 8]⟩, ⟨10, false, [21], [6], 0, [4, 5, 6, 7, 8, 9]⟩, ⟨11, true, [15, 22], [6], 1, [0, 1, 2, 3, 4, 5, 6, 7, 8, 9, 10]⟩, ⟨12, false, [23], [], 0, [0, 1, 2, 3, 4, 5, 6, 7, 8, 9, 10, 11]⟩, ⟨13, false, [11], [], 0, [0, 1, 2, 3, 4, 5, 6, 7, 8, 9, 10, 11, 12]⟩, ⟨14, false, [11], [], 0, [0, 1, 2, 3, 4, 5, 6, 7, 8, 9, 10, 11, 12]⟩, ⟨15, false, [24], [], 0, [0, 1, 2, 3, 4, 5, 6, 7, 8, 9, 10, 11, 12, 13]⟩, ⟨16, false, [25], [], 0, [0, 1, 2, 3, 4, 5, 6, 7, 8, 9, 10, 11, 12, 13, 14, 15]⟩] (by kernel_rfl) ?_
 refine bk h fun t2 k3 h => ?_
 refine cl3 cok.g (rickyardref18_Alloc_Take.sc fu a0.A a0.A.Reserve _ k3) (.tup [vi .i64 t2.1, vi .i64 t2.2.1]) [(6, .box 86 (.v (.st .S_rickyardref18_Alloc) (t2.2.2 : S_rickyardref18_Alloc)))] 8 (by kernel_rfl) (by kernel_rfl) ?_
 refine t_cond cok ?_
 refine bi h (fun c4 h => ?_) (fun c4 h => ?_)
 ·skip
  exact fi h (by kernel_rfl)
 refine bk h fun t5 k6 h => ?_
 refine cl3 cok.g (rickyardref15_Write.sc fu a0.D t2.1 a1 _ k6) (vi .i64 t5.1) [(1, .box 83 (.agg [.sl 2 1 [], .sl 3 1 [], .sl 4 1 [], .sl 5 1 [], .v (.sl (.int .i64)) (t5.2.Plan : List Int), vi .i64 t5.2.Since, vi .i64 t5.2.Left, vi .i64 t5.2.Steps])), (2, .row (.int .u64) 119 (t5.2.Lasts : List Int)), (3, .row (.int .u64) 119 (t5.2.Stored : List Int)), (4, .row (.int .u64) 119 (t5.2.Sent : List Int)), (5, .row (.bool) 4 (t5.2.Flushed : List Bool))] 13 (by kernel_rfl) (by kernel_rfl) ?_
 refine t_cond cok ?_
 refine bi h (fun c7 h => ?_) (fun c7 h => ?_)
 ·skip
  exact fi h (by kernel_rfl)
 exact fi h (by kernel_rfl)
def rickyardref18_Alloc_Own.f (fu : Nat) (a0 : S_rickyardref18_Alloc) (a1 : Int) : Option Bool := ((rickyardref10_Has.f fu a0.Works a1).bind fun t1 => (if t1 = true then ((rickyardref10_Has.f fu a0.Mark a1).bind fun t4 => some ((!t4))) else some (false)))
theorem rickyardref18_Alloc_Own.sc (fu : Nat) (a0 : S_rickyardref18_Alloc) (a1 : Int) (r : Bool) (h : rickyardref18_Alloc_Own.f fu a0 a1 = some r) : SC Tryd.prog CT 74 [.ptr 0 0, vi .i64 a1] [.box 86 (.v (.st .S_rickyardref18_Alloc) (a0 : S_rickyardref18_Alloc))] (vb r) [.box 86 (.v (.st .S_rickyardref18_Alloc) (a0 : S_rickyardref18_Alloc))] := by
 unfold rickyardref18_Alloc_Own.f at h
 refine sc_of (r := r) (N := 20) (rs := [.tmp 4]) (V := fun (r : Bool) => vb r) (R' := fun (r : Bool) => [.box 86 (.v (.st .S_rickyardref18_Alloc) (a0 : S_rickyardref18_Alloc))]) cok Tryd.func74 rfl rfl rfl (by kernel_rfl) (by kernel_rfl) rfl rfl fun X => ?_
 refine t_reg cok ?_
 refine bk h fun t1 k2 h => ?_
 refine cl3 cok.g (rickyardref10_Has.sc fu a0.Works a1 _ k2) (vb t1) [] 1 (by kernel_rfl) (by kernel_rfl) ?_
 refine bi h (fun c3 h => ?_) (fun c3 h => ?_)
 ·skip
  refine bk h fun t4 k5 h => ?_
  refine cl3 cok.g (rickyardref10_Has.sc fu a0.Mark a1 _ k5) (vb t4) [] 1 (by kernel_rfl) (by kernel_rfl) ?_
  exact fi h (by kernel_rfl)
 exact fi h (by kernel_rfl)
def rickyardref19_Store_Turn.f (fu : Nat) (a0 : S_rickyardref19_Store) (a1 : Int) (a2 : List Int) : Option (Int × Int × S_rickyardref19_Store) := (if (!decide ((List.length a2 : Int) = 64)) = true then some (0, 2, a0) else ((rickyardref10_Has.f fu a0.A.Works a1).bind fun t2 => (if (!t2) = true then some (0, 2, a0) else ((rickyardref18_Alloc_Own.f fu a0.A a1).bind fun t5 => (if t5 = true then ((rickyardref15_Write.f fu a0.D a1 a2).bind fun t8 => (if (!decide (t8.1 = 0)) = true then some (0, t8.1, (⟨t8.2, a0.A⟩ : S_rickyardref19_Store)) else some (a1, 0, (⟨t8.2, a0.A⟩ : S_rickyardref19_Store)))) else ((rickyardref19_Store_Make.f fu a0 a2).bind fun t11 => (if (!decide (t11.2.1 = 0)) = true then some (0, t11.2.1, t11.2.2) else ((rickyardref18_Alloc_Give.f fu t11.2.2.A a1).bind fun t14 => some (t11.1, 0, (⟨t11.2.2.D, t14.2⟩ : S_rickyardref19_Store))))))))))
theorem rickyardref19_Store_Turn.sc (fu : Nat) (a0 : S_rickyardref19_Store) (a1 : Int) (a2 : List Int) (r : Int × Int × S_rickyardref19_Store) (h : rickyardref19_Store_Turn.f fu a0 a1 a2 = some r) : SC Tryd.prog CT 36 [.ptr 0 0, vi .i64 a1, .v (.sl (.int .u8)) (a2 : List Int)] [.box 71 (.agg [.ptr 1 0, .ptr 6 0]), .box 83 (.agg [.sl 2 1 [], .sl 3 1 [], .sl 4 1 [], .sl 5 1 [], .v (.sl (.int .i64)) (a0.D.Plan : List Int), vi .i64 a0.D.Since, vi .i64 a0.D.Left, vi .i64 a0.D.Steps]), .row (.int .u64) 119 (a0.D.Lasts : List Int), .row (.int .u64) 119 (a0.D.Stored : List Int), .row (.int .u64) 119 (a0.D.Sent : List Int), .row (.bool) 4 (a0.D.Flushed : List Bool), .box 86 (.v (.st .S_rickyardref18_Alloc) (a0.A : S_rickyardref18_Alloc))] (.tup [vi .i64 r.1, vi .i64 r.2.1]) [.box 71 (.agg [.ptr 1 0, .ptr 6 0]), .box 83 (.agg [.sl 2 1 [], .sl 3 1 [], .sl 4 1 [], .sl 5 1 [], .v (.sl (.int .i64)) (r.2.2.D.Plan : List Int), vi .i64 r.2.2.D.Since, vi .i64 r.2.2.D.Left, vi .i64 r.2.2.D.Steps]), .row (.int .u64) 119 (r.2.2.D.Lasts : List Int), .row (.int .u64) 119 (r.2.2.D.Stored : List Int), .row (.int .u64) 119 (r.2.2.D.Sent : List Int), .row (.bool) 4 (r.2.2.D.Flushed : List Bool), .box 86 (.v (.st .S_rickyardref18_Alloc) (r.2.2.A : S_rickyardref18_Alloc))] := by
 unfold rickyardref19_Store_Turn.f at h
 refine sc_of (r := r) (N := 59) (rs := [.tmp 6, .tmp 7]) (V := fun (r : Int × Int × S_rickyardref19_Store) => .tup [vi .i64 r.1, vi .i64 r.2.1]) (R' := fun (r : Int × Int × S_rickyardref19_Store) => [.box 71 (.agg [.ptr 1 0, .ptr 6 0]), .box 83 (.agg [.sl 2 1 [], .sl 3 1 [], .sl 4 1 [], .sl 5 1 [], .v (.sl (.int .i64)) (r.2.2.D.Plan : List Int), vi .i64 r.2.2.D.Since, vi .i64 r.2.2.D.Left, vi .i64 r.2.2.D.Steps]), .row (.int .u64) 119 (r.2.2.D.Lasts : List Int), .row (.int .u64) 119 (r.2.2.D.Stored : List Int), .row (.int .u64) 119 (r.2.2.D.Sent : List Int), .row (.bool) 4 (r.2.2.D.Flushed : List Bool), .box 86 (.v (.st .S_rickyardref18_Alloc) (r.2.2.A : S_rickyardref18_Alloc))]) cok Tryd.func36 rfl rfl rfl (by kernel_rfl) (by kernel_rfl) rfl rfl fun X => ?_
 refine t_reg cok ?_
 refine bi h (fun c1 h => ?_) (fun c1 h => ?_)
 ·skip
  refine t_cond cok ?_
  exact fi h (by kernel_rfl)
 refine bk h fun t2 k3 h => ?_
 refine cl3 cok.g (rickyardref10_Has.sc fu a0.A.Works a1 _ k3) (vb t2) [] 7 (by kernel_rfl) (by kernel_rfl) ?_
 refine t_cond cok ?_
 refine bi h (fun c4 h => ?_) (fun c4 h => ?_)
 ·skip
  exact fi h (by kernel_rfl)
 refine bk h fun t5 k6 h => ?_
 refine cl3 cok.g (rickyardref18_Alloc_Own.sc fu a0.A a1 _ k6) (vb t5) [(6, .box 86 (.v (.st .S_rickyardref18_Alloc) (a0.A : S_rickyardref18_Alloc)))] 8 (by kernel_rfl) (by kernel_rfl) ?_
 refine t_cond cok ?_
 refine bi h (fun c7 h => ?_) (fun c7 h => ?_)
 ·skip
  refine bk h fun t8 k9 h => ?_
  refine cl3 cok.g (rickyardref15_Write.sc fu a0.D a1 a2 _ k9) (vi .i64 t8.1) [(1, .box 83 (.agg [.sl 2 1 [], .sl 3 1 [], .sl 4 1 [], .sl 5 1 [], .v (.sl (.int .i64)) (t8.2.Plan : List Int), vi .i64 t8.2.Since, vi .i64 t8.2.Left, vi .i64 t8.2.Steps])), (2, .row (.int .u64) 119 (t8.2.Lasts : List Int)), (3, .row (.int .u64) 119 (t8.2.Stored : List Int)), (4, .row (.int .u64) 119 (t8.2.Sent : List Int)), (5, .row (.bool) 4 (t8.2.Flushed : List Bool))] 13 (by kernel_rfl) (by kernel_rfl) ?_
  refine t_cond cok ?_
  refine bi h (fun c10 h => ?_) (fun c10 h => ?_)
  ·skip
   exact fi h (by kernel_rfl)
  exact fi h (by kernel_rfl)
 refine bk h fun t11 k12 h => ?_
 refine cl3 cok.g (rickyardref19_Store_Make.sc fu a0 a2 _ k12) (.tup [vi .i64 t11.1, vi .i64 t11.2.1]) [(0, .box 71 (.agg [.ptr 1 0, .ptr 6 0])), (1, .box 83 (.agg [.sl 2 1 [], .sl 3 1 [], .sl 4 1 [], .sl 5 1 [], .v (.sl (.int .i64)) (t11.2.2.D.Plan : List Int), vi .i64 t11.2.2.D.Since, vi .i64 t11.2.2.D.Left, vi .i64 t11.2.2.D.Steps])), (2, .row (.int .u64) 119 (t11.2.2.D.Lasts : List Int)), (3, .row (.int .u64) 119 (t11.2.2.D.Stored : List Int)), (4, .row (.int .u64) 119 (t11.2.2.D.Sent : List Int)), (5, .row (.bool) 4 (t11.2.2.D.Flushed : List Bool)), (6, .box 86 (.v (.st .S_rickyardref18_Alloc) (t11.2.2.A : S_rickyardref18_Alloc)))] 15 (by kernel_rfl) (by kernel_rfl) ?_
 refine t_cond cok ?_
 refine bi h (fun c13 h => ?_) (fun c13 h => ?_)
 ·skip
  exact fi h (by kernel_rfl)
 refine bk h fun t14 k15 h => ?_
 refine cl3 cok.g (rickyardref18_Alloc_Give.sc fu t11.2.2.A a1 _ k15) (vi .i64 t14.1) [(6, .box 86 (.v (.st .S_rickyardref18_Alloc) (t14.2 : S_rickyardref18_Alloc)))] 16 (by kernel_rfl) (by kernel_rfl) ?_
 exact fi h (by kernel_rfl)
def shadow_Store_Alloc.f (fu : Nat) (a0 : S_shadow_Store) : Option Unit := some ()
theorem shadow_Store_Alloc.sc (fu : Nat) (a0 : S_shadow_Store) (r : Unit) (h : shadow_Store_Alloc.f fu a0 = some r) : SC Tryd.prog CT 15 [.ptr 0 0] [.box 114 (.agg [.ptr 1 0, .ptr 4 0]), .box 105 (.agg [.sl 2 4 [], .agg [.sl 3 1 [], vi .i64 a0.device.plan.at_], vb a0.device.off, vb a0.device.armed, vi .i64 a0.device.left, vi .i64 a0.device.steps]), .row (.st .S_pmem_cell) 125 (a0.device.cells : List S_pmem_cell), .row (.int .i64) 3 (a0.device.plan.list : List Int), .box 108 (.agg [vi .i64 a0.blocks.reserve, .agg [.ptr 5 0, .ptr 7 0, .ptr 9 0, .ptr 11 0]]), .box 112 (.agg [vi .i64 a0.blocks.sets.1.size, .sl 6 1 []]), .row (.int .u64) 119 (a0.blocks.sets.1.words : List Int), .box 112 (.agg [vi .i64 a0.blocks.sets.2.1.size, .sl 8 1 []]), .row (.int .u64) 119 (a0.blocks.sets.2.1.words : List Int), .box 112 (.agg [vi .i64 a0.blocks.sets.2.2.1.size, .sl 10 1 []]), .row (.int .u64) 119 (a0.blocks.sets.2.2.1.words : List Int), .box 112 (.agg [vi .i64 a0.blocks.sets.2.2.2.size, .sl 12 1 []]), .row (.int .u64) 119 (a0.blocks.sets.2.2.2.words : List Int)] (.ptr 4 0) [.box 114 (.agg [.ptr 1 0, .ptr 4 0]), .box 105 (.agg [.sl 2 4 [], .agg [.sl 3 1 [], vi .i64 a0.device.plan.at_], vb a0.device.off, vb a0.device.armed, vi .i64 a0.device.left, vi .i64 a0.device.steps]), .row (.st .S_pmem_cell) 125 (a0.device.cells : List S_pmem_cell), .row (.int .i64) 3 (a0.device.plan.list : List Int), .box 108 (.agg [vi .i64 a0.blocks.reserve, .agg [.ptr 5 0, .ptr 7 0, .ptr 9 0, .ptr 11 0]]), .box 112 (.agg [vi .i64 a0.blocks.sets.1.size, .sl 6 1 []]), .row (.int .u64) 119 (a0.blocks.sets.1.words : List Int), .box 112 (.agg [vi .i64 a0.blocks.sets.2.1.size, .sl 8 1 []]), .row (.int .u64) 119 (a0.blocks.sets.2.1.words : List Int), .box 112 (.agg [vi .i64 a0.blocks.sets.2.2.1.size, .sl 10 1 []]), .row (.int .u64) 119 (a0.blocks.sets.2.2.1.words : List Int), .box 112 (.agg [vi .i64 a0.blocks.sets.2.2.2.size, .sl 12 1 []]), .row (.int .u64) 119 (a0.blocks.sets.2.2.2.words : List Int)] := by
 unfold shadow_Store_Alloc.f at h
 refine sc_of (r := r) (N := 7) (rs := [.tmp 2]) (V := fun (r : Unit) => .ptr 4 0) (R' := fun (r : Unit) => [.box 114 (.agg [.ptr 1 0, .ptr 4 0]), .box 105 (.agg [.sl 2 4 [], .agg [.sl 3 1 [], vi .i64 a0.device.plan.at_], vb a0.device.off, vb a0.device.armed, vi .i64 a0.device.left, vi .i64 a0.device.steps]), .row (.st .S_pmem_cell) 125 (a0.device.cells : List S_pmem_cell), .row (.int .i64) 3 (a0.device.plan.list : List Int), .box 108 (.agg [vi .i64 a0.blocks.reserve, .agg [.ptr 5 0, .ptr 7 0, .ptr 9 0, .ptr 11 0]]), .box 112 (.agg [vi .i64 a0.blocks.sets.1.size, .sl 6 1 []]), .row (.int .u64) 119 (a0.blocks.sets.1.words : List Int), .box 112 (.agg [vi .i64 a0.blocks.sets.2.1.size, .sl 8 1 []]), .row (.int .u64) 119 (a0.blocks.sets.2.1.words : List Int), .box 112 (.agg [vi .i64 a0.blocks.sets.2.2.1.size, .sl 10 1 []]), .row (.int .u64) 119 (a0.blocks.sets.2.2.1.words : List Int), .box 112 (.agg [vi .i64 a0.blocks.sets.2.2.2.size, .sl 12 1 []]), .row (.int .u64) 119 (a0.blocks.sets.2.2.2.words : List Int)]) cok Tryd.func15 rfl rfl rfl (by kernel_rfl) (by kernel_rfl) rfl rfl fun X => ?_
 exact fi h (by kernel_rfl)
def shadow_Store_Drop.f (fu : Nat) (a0 : S_shadow_Store) (a1 : Int) : Option (Int × S_shadow_Store) := ((alloc_Alloc_Give.f fu a0.blocks a1).bind fun t1 => some (t1.1, (⟨a0.device, t1.2⟩ : S_shadow_Store)))
theorem shadow_Store_Drop.sc (fu : Nat) (a0 : S_shadow_Store) (a1 : Int) (r : Int × S_shadow_Store) (h : shadow_Store_Drop.f fu a0 a1 = some r) : SC Tryd.prog CT 21 [.ptr 0 0, vi .i64 a1] [.box 114 (.agg [.ptr 1 0, .ptr 4 0]), .box 105 (.agg [.sl 2 4 [], .agg [.sl 3 1 [], vi .i64 a0.device.plan.at_], vb a0.device.off, vb a0.device.armed, vi .i64 a0.device.left, vi .i64 a0.device.steps]), .row (.st .S_pmem_cell) 125 (a0.device.cells : List S_pmem_cell), .row (.int .i64) 3 (a0.device.plan.list : List Int), .box 108 (.agg [vi .i64 a0.blocks.reserve, .agg [.ptr 5 0, .ptr 7 0, .ptr 9 0, .ptr 11 0]]), .box 112 (.agg [vi .i64 a0.blocks.sets.1.size, .sl 6 1 []]), .row (.int .u64) 119 (a0.blocks.sets.1.words : List Int), .box 112 (.agg [vi .i64 a0.blocks.sets.2.1.size, .sl 8 1 []]), .row (.int .u64) 119 (a0.blocks.sets.2.1.words : List Int), .box 112 (.agg [vi .i64 a0.blocks.sets.2.2.1.size, .sl 10 1 []]), .row (.int .u64) 119 (a0.blocks.sets.2.2.1.words : List Int), .box 112 (.agg [vi .i64 a0.blocks.sets.2.2.2.size, .sl 12 1 []]), .row (.int .u64) 119 (a0.blocks.sets.2.2.2.words : List Int)] (vi .i64 r.1) [.box 114 (.agg [.ptr 1 0, .ptr 4 0]), .box 105 (.agg [.sl 2 4 [], .agg [.sl 3 1 [], vi .i64 r.2.device.plan.at_], vb r.2.device.off, vb r.2.device.armed, vi .i64 r.2.device.left, vi .i64 r.2.device.steps]), .row (.st .S_pmem_cell) 125 (r.2.device.cells : List S_pmem_cell), .row (.int .i64) 3 (r.2.device.plan.list : List Int), .box 108 (.agg [vi .i64 r.2.blocks.reserve, .agg [.ptr 5 0, .ptr 7 0, .ptr 9 0, .ptr 11 0]]), .box 112 (.agg [vi .i64 r.2.blocks.sets.1.size, .sl 6 1 []]), .row (.int .u64) 119 (r.2.blocks.sets.1.words : List Int), .box 112 (.agg [vi .i64 r.2.blocks.sets.2.1.size, .sl 8 1 []]), .row (.int .u64) 119 (r.2.blocks.sets.2.1.words : List Int), .box 112 (.agg [vi .i64 r.2.blocks.sets.2.2.1.size, .sl 10 1 []]), .row (.int .u64) 119 (r.2.blocks.sets.2.2.1.words : List Int), .box 112 (.agg [vi .i64 r.2.blocks.sets.2.2.2.size, .sl 12 1 []]), .row (.int .u64) 119 (r.2.blocks.sets.2.2.2.words : List Int)] := by
 unfold shadow_Store_Drop.f at h
 refine sc_of (r := r) (N := 11) (rs := [.tmp 4]) (V := fun (r : Int × S_shadow_Store) => vi .i64 r.1) (R' := fun (r : Int × S_shadow_Store) => [.box 114 (.agg [.ptr 1 0, .ptr 4 0]), .box 105 (.agg [.sl 2 4 [], .agg [.sl 3 1 [], vi .i64 r.2.device.plan.at_], vb r.2.device.off, vb r.2.device.armed, vi .i64 r.2.device.left, vi .i64 r.2.device.steps]), .row (.st .S_pmem_cell) 125 (r.2.device.cells : List S_pmem_cell), .row (.int .i64) 3 (r.2.device.plan.list : List Int), .box 108 (.agg [vi .i64 r.2.blocks.reserve, .agg [.ptr 5 0, .ptr 7 0, .ptr 9 0, .ptr 11 0]]), .box 112 (.agg [vi .i64 r.2.blocks.sets.1.size, .sl 6 1 []]), .row (.int .u64) 119 (r.2.blocks.sets.1.words : List Int), .box 112 (.agg [vi .i64 r.2.blocks.sets.2.1.size, .sl 8 1 []]), .row (.int .u64) 119 (r.2.blocks.sets.2.1.words : List Int), .box 112 (.agg [vi .i64 r.2.blocks.sets.2.2.1.size, .sl 10 1 []]), .row (.int .u64) 119 (r.2.blocks.sets.2.2.1.words : List Int), .box 112 (.agg [vi .i64 r.2.blocks.sets.2.2.2.size, .sl 12 1 []]), .row (.int .u64) 119 (r.2.blocks.sets.2.2.2.words : List Int)]) cok Tryd.func21 rfl rfl rfl (by kernel_rfl) (by kernel_rfl) rfl rfl fun X => ?_
 refine bk h fun t1 k2 h => ?_
 refine cl3 cok.g (alloc_Alloc_Give.sc fu a0.blocks a1 _ k2) (vi .i64 t1.1) [(4, .box 108 (.agg [vi .i64 t1.2.reserve, .agg [.ptr 5 0, .ptr 7 0, .ptr 9 0, .ptr 11 0]])), (5, .box 112 (.agg [vi .i64 t1.2.sets.1.size, .sl 6 1 []])), (6, .row (.int .u64) 119 (t1.2.sets.1.words : List Int)), (7, .box 112 (.agg [vi .i64 t1.2.sets.2.1.size, .sl 8 1 []])), (8, .row (.int .u64) 119 (t1.2.sets.2.1.words : List Int)), (9, .box 112 (.agg [vi .i64 t1.2.sets.2.2.1.size, .sl 10 1 []])), (10, .row (.int .u64) 119 (t1.2.sets.2.2.1.words : List Int)), (11, .box 112 (.agg [vi .i64 t1.2.sets.2.2.2.size, .sl 12 1 []])), (12, .row (.int .u64) 119 (t1.2.sets.2.2.2.words : List Int))] 22 (by kernel_rfl) (by kernel_rfl) ?_
 exact fi h (by kernel_rfl)
def pmem_Device_Load.f (fu : Nat) (a0 : S_pmem_Device) (a1 : Int) : Option (Int × Int) := ((pmem_Device_may.f fu a0 a1 (List.length a0.cells : Int)).bind fun t1 => (if (!decide (t1 = 0)) = true then some (0, t1) else if 0 ≤ a1 ∧ a1 < (List.length a0.cells : Int) then some ((ix a0.cells a1).stored, 0) else none))
theorem pmem_Device_Load.sc (fu : Nat) (a0 : S_pmem_Device) (a1 : Int) (r : Int × Int) (h : pmem_Device_Load.f fu a0 a1 = some r) : SC Tryd.prog CT 95 [.ptr 0 0, vi .i64 a1] [.box 105 (.agg [.sl 1 4 [], .agg [.sl 2 1 [], vi .i64 a0.plan.at_], vb a0.off, vb a0.armed, vi .i64 a0.left, vi .i64 a0.steps]), .row (.st .S_pmem_cell) 125 (a0.cells : List S_pmem_cell), .row (.int .i64) 3 (a0.plan.list : List Int)] (.tup [vi .u64 r.1, vi .i64 r.2]) [.box 105 (.agg [.sl 1 4 [], .agg [.sl 2 1 [], vi .i64 a0.plan.at_], vb a0.off, vb a0.armed, vi .i64 a0.left, vi .i64 a0.steps]), .row (.st .S_pmem_cell) 125 (a0.cells : List S_pmem_cell), .row (.int .i64) 3 (a0.plan.list : List Int)] := by
 unfold pmem_Device_Load.f at h
 refine sc_of (r := r) (N := 26) (rs := [.tmp 4, .tmp 5]) (V := fun (r : Int × Int) => .tup [vi .u64 r.1, vi .i64 r.2]) (R' := fun (r : Int × Int) => [.box 105 (.agg [.sl 1 4 [], .agg [.sl 2 1 [], vi .i64 a0.plan.at_], vb a0.off, vb a0.armed, vi .i64 a0.left, vi .i64 a0.steps]), .row (.st .S_pmem_cell) 125 (a0.cells : List S_pmem_cell), .row (.int .i64) 3 (a0.plan.list : List Int)]) cok Tryd.func95 rfl rfl rfl (by kernel_rfl) (by kernel_rfl) rfl rfl fun X => ?_
 refine bk h fun t1 k2 h => ?_
 refine cl3 cok.g (pmem_Device_may.sc fu a0 a1 (List.length a0.cells : Int) _ k2) (vi .i64 t1) [(0, .box 105 (.agg [.sl 1 4 [], .agg [.sl 2 1 [], vi .i64 a0.plan.at_], vb a0.off, vb a0.armed, vi .i64 a0.left, vi .i64 a0.steps])), (1, .row (.st .S_pmem_cell) 125 (a0.cells : List S_pmem_cell)), (2, .row (.int .i64) 3 (a0.plan.list : List Int))] 6 (by kernel_rfl) (by kernel_rfl) ?_
 refine t_cond cok ?_
 refine bi h (fun c3 h => ?_) (fun c3 h => ?_)
 ·skip
  exact fi h (by kernel_rfl)
 refine ag h fun h => ?_
 exact fi h (by kernel_rfl)
def press_Read.s0 (fu : Nat) (a0 : S_pmem_Device) (a1 : Int) : (Int × (Arr 8 Int)) → Option (Sum (Sum ((List Int) × Int) (Arr 8 Int)) (Int × (Arr 8 Int))) := fun s4 => (if (decide (s4.1 < 8)) = true then ((pmem_Device_Load.f fu a0 (IntKind.i64.wrap ((IntKind.i64.wrap (a1 * 8)) + s4.1))).bind fun t11 => (if (!decide (t11.2 = 0)) = true then some (Sum.inl (Sum.inl ([], t11.2))) else if 0 ≤ s4.1 ∧ s4.1 < 8 then some (Sum.inr ((IntKind.i64.wrap (s4.1 + 1)), (Arr.set s4.2 s4.1 t11.1))) else none)) else some (Sum.inl (Sum.inr (s4.2))))
def press_Read.f (fu : Nat) (a0 : S_pmem_Device) (a1 : Int) : Option ((List Int) × Int) := ((press_may.f fu a0 a1).bind fun t1 => (if (!decide (t1 = 0)) = true then some ([], t1) else ((loopM (press_Read.s0 fu a0 a1) fu (0, (Arr.rep 8 (0 : Int)))).bind fun e5 => match e5 with | Sum.inl p => some p | Sum.inr x7 => ((octet_Octets.f fu (Arr.l x7)).bind fun t14 => some (t14, 0)))))
theorem press_Read.sc (fu : Nat) (a0 : S_pmem_Device) (a1 : Int) (r : (List Int) × Int) (h : press_Read.f fu a0 a1 = some r) : SC Tryd.prog CT 63 [.ptr 0 0, vi .i64 a1] [.box 105 (.agg [.sl 1 4 [], .agg [.sl 2 1 [], vi .i64 a0.plan.at_], vb a0.off, vb a0.armed, vi .i64 a0.left, vi .i64 a0.steps]), .row (.st .S_pmem_cell) 125 (a0.cells : List S_pmem_cell), .row (.int .i64) 3 (a0.plan.list : List Int)] (.tup [.sl 3 1 [], vi .i64 r.2]) [.box 105 (.agg [.sl 1 4 [], .agg [.sl 2 1 [], vi .i64 a0.plan.at_], vb a0.off, vb a0.armed, vi .i64 a0.left, vi .i64 a0.steps]), .row (.st .S_pmem_cell) 125 (a0.cells : List S_pmem_cell), .row (.int .i64) 3 (a0.plan.list : List Int), .row (.int .u8) 5 (r.1 : List Int)] := by
 unfold press_Read.f at h
 refine sc_of (r := r) (N := 38) (rs := [.tmp 4, .tmp 5]) (V := fun (r : (List Int) × Int) => .tup [.sl 3 1 [], vi .i64 r.2]) (R' := fun (r : (List Int) × Int) => [.box 105 (.agg [.sl 1 4 [], .agg [.sl 2 1 [], vi .i64 a0.plan.at_], vb a0.off, vb a0.armed, vi .i64 a0.left, vi .i64 a0.steps]), .row (.st .S_pmem_cell) 125 (a0.cells : List S_pmem_cell), .row (.int .i64) 3 (a0.plan.list : List Int), .row (.int .u8) 5 (r.1 : List Int)]) cok Tryd.func63 rfl rfl rfl (by kernel_rfl) (by kernel_rfl) rfl rfl fun X => ?_
 refine bk h fun t1 k2 h => ?_
 refine cl3 cok.g (press_may.sc fu a0 a1 _ k2) (vi .i64 t1) [(0, .box 105 (.agg [.sl 1 4 [], .agg [.sl 2 1 [], vi .i64 a0.plan.at_], vb a0.off, vb a0.armed, vi .i64 a0.left, vi .i64 a0.steps])), (1, .row (.st .S_pmem_cell) 125 (a0.cells : List S_pmem_cell)), (2, .row (.int .i64) 3 (a0.plan.list : List Int))] 6 (by kernel_rfl) (by kernel_rfl) ?_
 refine t_cond cok ?_
 refine bi h (fun c3 h => ?_) (fun c3 h => ?_)
 ·skip
  exact fi h (by kernel_rfl)
 refine bk h fun e5 l6 h => ?_
 refine t_cutxS cok 0 (fun (x7 : (Arr 8 Int)) => ⟨[(7, .ptr 3 0)], [.box 105 (.agg [.sl 1 4 [], .agg [.sl 2 1 [], vi .i64 a0.plan.at_], vb a0.off, vb a0.armed, vi .i64 a0.left, vi .i64 a0.steps]), .row (.st .S_pmem_cell) 125 (a0.cells : List S_pmem_cell), .row (.int .i64) 3 (a0.plan.list : List Int), .box 153 (.v (.arr 8 (.int .u64)) (x7 : Arr 8 Int))]⟩) e5 ?_ (fun x7 hy => ?_)
 ·skip
  have h8 := h
  refine t_loop cok (fun (s4 : Int × (Arr 8 Int)) => ⟨[(0, .ptr 0 0), (1, vi .i64 a1), (7, .ptr 3 0), (17, vi .i64 s4.1)], [.box 105 (.agg [.sl 1 4 [], .agg [.sl 2 1 [], vi .i64 a0.plan.at_], vb a0.off, vb a0.armed, vi .i64 a0.left, vi .i64 a0.steps]), .row (.st .S_pmem_cell) 125 (a0.cells : List S_pmem_cell), .row (.int .i64) 3 (a0.plan.list : List Int), .box 153 (.v (.arr 8 (.int .u64)) (s4.2 : Arr 8 Int))]⟩) l6 (by kernel_rfl) (fun s4 x9 h => ?_)
  unfold press_Read.s0 at h
  refine t_cond cok ?_
  refine bi h (fun c10 h => ?_) (fun c10 h => ?_)
  ·skip
   refine bk h fun t11 k12 h => ?_
   refine cl3 cok.g (pmem_Device_Load.sc fu a0 (IntKind.i64.wrap ((IntKind.i64.wrap (a1 * 8)) + s4.1)) _ k12) (.tup [vi .u64 t11.1, vi .i64 t11.2]) [(0, .box 105 (.agg [.sl 1 4 [], .agg [.sl 2 1 [], vi .i64 a0.plan.at_], vb a0.off, vb a0.armed, vi .i64 a0.left, vi .i64 a0.steps])), (1, .row (.st .S_pmem_cell) 125 (a0.cells : List S_pmem_cell)), (2, .row (.int .i64) 3 (a0.plan.list : List Int))] 7 (by kernel_rfl) (by kernel_rfl) ?_
   refine t_cond cok ?_
   refine bi h (fun c13 h => ?_) (fun c13 h => ?_)
   ·skip
    refine lpr h (fun hy => ?_)
    have h := h8
    rw [← hy] at h
    exact fi h (by kernel_rfl)
   refine ag h fun h => ?_
   exact lpi h (by kernel_rfl)
  exact lpx h (fun hy => ems (sj hy) (by kernel_rfl))
 subst hy
 refine bk h fun t14 k15 h => ?_
 refine cl3 cok.g (octet_Octets.sc fu (Arr.l x7) _ k15) (.sl 4 1 []) [(4, .row (.int .u8) 5 (t14 : List Int))] 5 (by kernel_rfl) (by kernel_rfl) ?_
 exact fi h (by kernel_rfl)
def shadow_Store_Get.f (fu : Nat) (a0 : S_shadow_Store) (a1 : Int) : Option ((List Int) × Int) := ((press_Read.f fu a0.device a1).bind fun t1 => some (t1.1, t1.2))
theorem shadow_Store_Get.sc (fu : Nat) (a0 : S_shadow_Store) (a1 : Int) (r : (List Int) × Int) (h : shadow_Store_Get.f fu a0 a1 = some r) : SC Tryd.prog CT 20 [.ptr 0 0, vi .i64 a1] [.box 114 (.agg [.ptr 1 0, .ptr 4 0]), .box 105 (.agg [.sl 2 4 [], .agg [.sl 3 1 [], vi .i64 a0.device.plan.at_], vb a0.device.off, vb a0.device.armed, vi .i64 a0.device.left, vi .i64 a0.device.steps]), .row (.st .S_pmem_cell) 125 (a0.device.cells : List S_pmem_cell), .row (.int .i64) 3 (a0.device.plan.list : List Int), .box 108 (.agg [vi .i64 a0.blocks.reserve, .agg [.ptr 5 0, .ptr 7 0, .ptr 9 0, .ptr 11 0]]), .box 112 (.agg [vi .i64 a0.blocks.sets.1.size, .sl 6 1 []]), .row (.int .u64) 119 (a0.blocks.sets.1.words : List Int), .box 112 (.agg [vi .i64 a0.blocks.sets.2.1.size, .sl 8 1 []]), .row (.int .u64) 119 (a0.blocks.sets.2.1.words : List Int), .box 112 (.agg [vi .i64 a0.blocks.sets.2.2.1.size, .sl 10 1 []]), .row (.int .u64) 119 (a0.blocks.sets.2.2.1.words : List Int), .box 112 (.agg [vi .i64 a0.blocks.sets.2.2.2.size, .sl 12 1 []]), .row (.int .u64) 119 (a0.blocks.sets.2.2.2.words : List Int)] (.tup [.sl 13 1 [], vi .i64 r.2]) [.box 114 (.agg [.ptr 1 0, .ptr 4 0]), .box 105 (.agg [.sl 2 4 [], .agg [.sl 3 1 [], vi .i64 a0.device.plan.at_], vb a0.device.off, vb a0.device.armed, vi .i64 a0.device.left, vi .i64 a0.device.steps]), .row (.st .S_pmem_cell) 125 (a0.device.cells : List S_pmem_cell), .row (.int .i64) 3 (a0.device.plan.list : List Int), .box 108 (.agg [vi .i64 a0.blocks.reserve, .agg [.ptr 5 0, .ptr 7 0, .ptr 9 0, .ptr 11 0]]), .box 112 (.agg [vi .i64 a0.blocks.sets.1.size, .sl 6 1 []]), .row (.int .u64) 119 (a0.blocks.sets.1.words : List Int), .box 112 (.agg [vi .i64 a0.blocks.sets.2.1.size, .sl 8 1 []]), .row (.int .u64) 119 (a0.blocks.sets.2.1.words : List Int), .box 112 (.agg [vi .i64 a0.blocks.sets.2.2.1.size, .sl 10 1 []]), .row (.int .u64) 119 (a0.blocks.sets.2.2.1.words : List Int), .box 112 (.agg [vi .i64 a0.blocks.sets.2.2.2.size, .sl 12 1 []]), .row (.int .u64) 119 (a0.blocks.sets.2.2.2.words : List Int), .row (.int .u8) 5 (r.1 : List Int)] := by
 unfold shadow_Store_Get.f at h
 refine sc_of (r := r) (N := 14) (rs := [.tmp 4, .tmp 5]) (V := fun (r : (List Int) × Int) => .tup [.sl 13 1 [], vi .i64 r.2]) (R' := fun (r : (List Int) × Int) => [.box 114 (.agg [.ptr 1 0, .ptr 4 0]), .box 105 (.agg [.sl 2 4 [], .agg [.sl 3 1 [], vi .i64 a0.device.plan.at_], vb a0.device.off, vb a0.device.armed, vi .i64 a0.device.left, vi .i64 a0.device.steps]), .row (.st .S_pmem_cell) 125 (a0.device.cells : List S_pmem_cell), .row (.int .i64) 3 (a0.device.plan.list : List Int), .box 108 (.agg [vi .i64 a0.blocks.reserve, .agg [.ptr 5 0, .ptr 7 0, .ptr 9 0, .ptr 11 0]]), .box 112 (.agg [vi .i64 a0.blocks.sets.1.size, .sl 6 1 []]), .row (.int .u64) 119 (a0.blocks.sets.1.words : List Int), .box 112 (.agg [vi .i64 a0.blocks.sets.2.1.size, .sl 8 1 []]), .row (.int .u64) 119 (a0.blocks.sets.2.1.words : List Int), .box 112 (.agg [vi .i64 a0.blocks.sets.2.2.1.size, .sl 10 1 []]), .row (.int .u64) 119 (a0.blocks.sets.2.2.1.words : List Int), .box 112 (.agg [vi .i64 a0.blocks.sets.2.2.2.size, .sl 12 1 []]), .row (.int .u64) 119 (a0.blocks.sets.2.2.2.words : List Int), .row (.int .u8) 5 (r.1 : List Int)]) cok Tryd.func20 rfl rfl rfl (by kernel_rfl) (by kernel_rfl) rfl rfl fun X => ?_
 refine bk h fun t1 k2 h => ?_
 refine cl3 cok.g (press_Read.sc fu a0.device a1 _ k2) (.tup [.sl 16 1 [], vi .i64 t1.2]) [(1, .box 105 (.agg [.sl 2 4 [], .agg [.sl 3 1 [], vi .i64 a0.device.plan.at_], vb a0.device.off, vb a0.device.armed, vi .i64 a0.device.left, vi .i64 a0.device.steps])), (2, .row (.st .S_pmem_cell) 125 (a0.device.cells : List S_pmem_cell)), (3, .row (.int .i64) 3 (a0.device.plan.list : List Int)), (16, .row (.int .u8) 5 (t1.1 : List Int))] 17 (by kernel_rfl) (by kernel_rfl) ?_
 exact fi h (by kernel_rfl)
def pmem_Device_Fence.s0 (fu : Nat) (a0 : S_pmem_Device) : (Int × (List S_pmem_cell)) → Option (Sum (List S_pmem_cell) (Int × (List S_pmem_cell))) := fun s4 => (if (decide (s4.1 < (List.length a0.cells : Int))) = true then if 0 ≤ s4.1 ∧ s4.1 < (List.length s4.2 : Int) then (((if (ix s4.2 s4.1).flushed = true then ((pmem_cell_keep__i0.f fu s4.2 s4.1 ((ix s4.2 s4.1).sent)).bind fun t14 => some (t14)) else some (s4.2)) : Option (List S_pmem_cell)).bind fun x10 => some (Sum.inr ((IntKind.i64.wrap (s4.1 + 1)), x10))) else none else some (Sum.inl (s4.2)))
def pmem_Device_Fence.f (fu : Nat) (a0 : S_pmem_Device) : Option (Int × S_pmem_Device) := ((pmem_Device_may.f fu a0 0 1).bind fun t1 => (if (!decide (t1 = 0)) = true then some (t1, a0) else ((loopM (pmem_Device_Fence.s0 fu a0) fu (0, a0.cells)).bind fun e5 => ((pmem_Device_step.f fu (⟨e5, a0.plan, a0.off, a0.armed, a0.left, a0.steps⟩ : S_pmem_Device)).bind fun t16 => some (0, t16)))))
theorem pmem_Device_Fence.sc (fu : Nat) (a0 : S_pmem_Device) (r : Int × S_pmem_Device) (h : pmem_Device_Fence.f fu a0 = some r) : SC Tryd.prog CT 97 [.ptr 0 0] [.box 105 (.agg [.sl 1 4 [], .agg [.sl 2 1 [], vi .i64 a0.plan.at_], vb a0.off, vb a0.armed, vi .i64 a0.left, vi .i64 a0.steps]), .row (.st .S_pmem_cell) 125 (a0.cells : List S_pmem_cell), .row (.int .i64) 3 (a0.plan.list : List Int)] (vi .i64 r.1) [.box 105 (.agg [.sl 1 4 [], .agg [.sl 2 1 [], vi .i64 r.2.plan.at_], vb r.2.off, vb r.2.armed, vi .i64 r.2.left, vi .i64 r.2.steps]), .row (.st .S_pmem_cell) 125 (r.2.cells : List S_pmem_cell), .row (.int .i64) 3 (r.2.plan.list : List Int)] := by
 unfold pmem_Device_Fence.f at h
 refine sc_of (r := r) (N := 38) (rs := [.tmp 2]) (V := fun (r : Int × S_pmem_Device) => vi .i64 r.1) (R' := fun (r : Int × S_pmem_Device) => [.box 105 (.agg [.sl 1 4 [], .agg [.sl 2 1 [], vi .i64 r.2.plan.at_], vb r.2.off, vb r.2.armed, vi .i64 r.2.left, vi .i64 r.2.steps]), .row (.st .S_pmem_cell) 125 (r.2.cells : List S_pmem_cell), .row (.int .i64) 3 (r.2.plan.list : List Int)]) cok Tryd.func97 rfl rfl rfl (by kernel_rfl) (by kernel_rfl) rfl rfl fun X => ?_
 refine bk h fun t1 k2 h => ?_
 refine cl3 cok.g (pmem_Device_may.sc fu a0 0 1 _ k2) (vi .i64 t1) [(0, .box 105 (.agg [.sl 1 4 [], .agg [.sl 2 1 [], vi .i64 a0.plan.at_], vb a0.off, vb a0.armed, vi .i64 a0.left, vi .i64 a0.steps])), (1, .row (.st .S_pmem_cell) 125 (a0.cells : List S_pmem_cell)), (2, .row (.int .i64) 3 (a0.plan.list : List Int))] 6 (by kernel_rfl) (by kernel_rfl) ?_
 refine t_cond cok ?_
 refine bi h (fun c3 h => ?_) (fun c3 h => ?_)
 ·skip
  exact fi h (by kernel_rfl)
 refine bk h fun e5 l6 h => ?_
 refine t_cutx cok 0 (fun (e5 : (List S_pmem_cell)) => ⟨[(0, .ptr 0 0)], [.box 105 (.agg [.sl 1 4 [], .agg [.sl 2 1 [], vi .i64 a0.plan.at_], vb a0.off, vb a0.armed, vi .i64 a0.left, vi .i64 a0.steps]), .row (.st .S_pmem_cell) 125 (e5 : List S_pmem_cell), .row (.int .i64) 3 (a0.plan.list : List Int)]⟩) e5 ?_ ?_
 ·skip
  have h7 := h
  refine t_loop cok (fun (s4 : Int × (List S_pmem_cell)) => ⟨[(0, .ptr 0 0), (15, vi .i64 (List.length a0.cells : Int)), (16, vi .i64 s4.1)], [.box 105 (.agg [.sl 1 4 [], .agg [.sl 2 1 [], vi .i64 a0.plan.at_], vb a0.off, vb a0.armed, vi .i64 a0.left, vi .i64 a0.steps]), .row (.st .S_pmem_cell) 125 (s4.2 : List S_pmem_cell), .row (.int .i64) 3 (a0.plan.list : List Int)]⟩) l6 (by kernel_rfl) (fun s4 x8 h => ?_)
  unfold pmem_Device_Fence.s0 at h
  refine t_cond cok ?_
  refine bi h (fun c9 h => ?_) (fun c9 h => ?_)
  ·skip
   refine ag h fun h => ?_
   refine bk h fun x10 j11 h => ?_
   refine t_cut cok (fun (x10 : (List S_pmem_cell)) => ⟨[(0, .ptr 0 0), (15, vi .i64 (List.length a0.cells : Int)), (16, vi .i64 s4.1)], [.box 105 (.agg [.sl 1 4 [], .agg [.sl 2 1 [], vi .i64 a0.plan.at_], vb a0.off, vb a0.armed, vi .i64 a0.left, vi .i64 a0.steps]), .row (.st .S_pmem_cell) 125 (x10 : List S_pmem_cell), .row (.int .i64) 3 (a0.plan.list : List Int)]⟩) x10 ?_ ?_
   ·skip
    have h12 := h
    have h := j11
    refine t_cond cok ?_
    refine bi h (fun c13 h => ?_) (fun c13 h => ?_)
    ·skip
     refine bk h fun t14 k15 h => ?_
     refine cl3 cok.g (pmem_cell_keep__i0.sc fu s4.2 s4.1 ((ix s4.2 s4.1).sent) _ k15) (.tup []) [(1, .row (.st .S_pmem_cell) 125 (t14 : List S_pmem_cell))] 4 (by kernel_rfl) (by kernel_rfl) ?_
     exact em h (by kernel_rfl)
    exact em h (by kernel_rfl)
   exact lpi h (by kernel_rfl)
  exact lpx h (fun hy => em (sj hy) (by kernel_rfl))
 refine bk h fun t16 k17 h => ?_
 refine cl3 cok.g (pmem_Device_step.sc fu (⟨e5, a0.plan, a0.off, a0.armed, a0.left, a0.steps⟩ : S_pmem_Device) _ k17) (.tup []) [(0, .box 105 (.agg [.sl 1 4 [], .agg [.sl 2 1 [], vi .i64 t16.plan.at_], vb t16.off, vb t16.armed, vi .i64 t16.left, vi .i64 t16.steps])), (1, .row (.st .S_pmem_cell) 125 (t16.cells : List S_pmem_cell)), (2, .row (.int .i64) 3 (t16.plan.list : List Int))] 6 (by kernel_rfl) (by kernel_rfl) ?_
 exact fi h (by kernel_rfl)
def press_Sure.f (fu : Nat) (a0 : S_pmem_Device) : Option (Int × S_pmem_Device) := ((pmem_Device_Fence.f fu a0).bind fun t1 => some (t1.1, t1.2))
theorem press_Sure.sc (fu : Nat) (a0 : S_pmem_Device) (r : Int × S_pmem_Device) (h : press_Sure.f fu a0 = some r) : SC Tryd.prog CT 65 [.ptr 0 0] [.box 105 (.agg [.sl 1 4 [], .agg [.sl 2 1 [], vi .i64 a0.plan.at_], vb a0.off, vb a0.armed, vi .i64 a0.left, vi .i64 a0.steps]), .row (.st .S_pmem_cell) 125 (a0.cells : List S_pmem_cell), .row (.int .i64) 3 (a0.plan.list : List Int)] (vi .i64 r.1) [.box 105 (.agg [.sl 1 4 [], .agg [.sl 2 1 [], vi .i64 r.2.plan.at_], vb r.2.off, vb r.2.armed, vi .i64 r.2.left, vi .i64 r.2.steps]), .row (.st .S_pmem_cell) 125 (r.2.cells : List S_pmem_cell), .row (.int .i64) 3 (r.2.plan.list : List Int)] := by
 unfold press_Sure.f at h
 refine sc_of (r := r) (N := 7) (rs := [.tmp 2]) (V := fun (r : Int × S_pmem_Device) => vi .i64 r.1) (R' := fun (r : Int × S_pmem_Device) => [.box 105 (.agg [.sl 1 4 [], .agg [.sl 2 1 [], vi .i64 r.2.plan.at_], vb r.2.off, vb r.2.armed, vi .i64 r.2.left, vi .i64 r.2.steps]), .row (.st .S_pmem_cell) 125 (r.2.cells : List S_pmem_cell), .row (.int .i64) 3 (r.2.plan.list : List Int)]) cok Tryd.func65 rfl rfl rfl (by kernel_rfl) (by kernel_rfl) rfl rfl fun X => ?_
 refine t_cond cok ?_
 refine bk h fun t1 k2 h => ?_
 refine cl3 cok.g (pmem_Device_Fence.sc fu a0 _ k2) (vi .i64 t1.1) [(0, .box 105 (.agg [.sl 1 4 [], .agg [.sl 2 1 [], vi .i64 t1.2.plan.at_], vb t1.2.off, vb t1.2.armed, vi .i64 t1.2.left, vi .i64 t1.2.steps])), (1, .row (.st .S_pmem_cell) 125 (t1.2.cells : List S_pmem_cell)), (2, .row (.int .i64) 3 (t1.2.plan.list : List Int))] 6 (by kernel_rfl) (by kernel_rfl) ?_
 exact fi h (by kernel_rfl)
def shadow_Store_Sure.f (fu : Nat) (a0 : S_shadow_Store) : Option (Int × S_shadow_Store) := ((press_Sure.f fu a0.device).bind fun t1 => some (t1.1, (⟨t1.2, a0.blocks⟩ : S_shadow_Store)))
theorem shadow_Store_Sure.sc (fu : Nat) (a0 : S_shadow_Store) (r : Int × S_shadow_Store) (h : shadow_Store_Sure.f fu a0 = some r) : SC Tryd.prog CT 29 [.ptr 0 0] [.box 114 (.agg [.ptr 1 0, .ptr 4 0]), .box 105 (.agg [.sl 2 4 [], .agg [.sl 3 1 [], vi .i64 a0.device.plan.at_], vb a0.device.off, vb a0.device.armed, vi .i64 a0.device.left, vi .i64 a0.device.steps]), .row (.st .S_pmem_cell) 125 (a0.device.cells : List S_pmem_cell), .row (.int .i64) 3 (a0.device.plan.list : List Int), .box 108 (.agg [vi .i64 a0.blocks.reserve, .agg [.ptr 5 0, .ptr 7 0, .ptr 9 0, .ptr 11 0]]), .box 112 (.agg [vi .i64 a0.blocks.sets.1.size, .sl 6 1 []]), .row (.int .u64) 119 (a0.blocks.sets.1.words : List Int), .box 112 (.agg [vi .i64 a0.blocks.sets.2.1.size, .sl 8 1 []]), .row (.int .u64) 119 (a0.blocks.sets.2.1.words : List Int), .box 112 (.agg [vi .i64 a0.blocks.sets.2.2.1.size, .sl 10 1 []]), .row (.int .u64) 119 (a0.blocks.sets.2.2.1.words : List Int), .box 112 (.agg [vi .i64 a0.blocks.sets.2.2.2.size, .sl 12 1 []]), .row (.int .u64) 119 (a0.blocks.sets.2.2.2.words : List Int)] (vi .i64 r.1) [.box 114 (.agg [.ptr 1 0, .ptr 4 0]), .box 105 (.agg [.sl 2 4 [], .agg [.sl 3 1 [], vi .i64 r.2.device.plan.at_], vb r.2.device.off, vb r.2.device.armed, vi .i64 r.2.device.left, vi .i64 r.2.device.steps]), .row (.st .S_pmem_cell) 125 (r.2.device.cells : List S_pmem_cell), .row (.int .i64) 3 (r.2.device.plan.list : List Int), .box 108 (.agg [vi .i64 r.2.blocks.reserve, .agg [.ptr 5 0, .ptr 7 0, .ptr 9 0, .ptr 11 0]]), .box 112 (.agg [vi .i64 r.2.blocks.sets.1.size, .sl 6 1 []]), .row (.int .u64) 119 (r.2.blocks.sets.1.words : List Int), .box 112 (.agg [vi .i64 r.2.blocks.sets.2.1.size, .sl 8 1 []]), .row (.int .u64) 119 (r.2.blocks.sets.2.1.words : List Int), .box 112 (.agg [vi .i64 r.2.blocks.sets.2.2.1.size, .sl 10 1 []]), .row (.int .u64) 119 (r.2.blocks.sets.2.2.1.words : List Int), .box 112 (.agg [vi .i64 r.2.blocks.sets.2.2.2.size, .sl 12 1 []]), .row (.int .u64) 119 (r.2.blocks.sets.2.2.2.words : List Int)] := by
 unfold shadow_Store_Sure.f at h
 refine sc_of (r := r) (N := 8) (rs := [.tmp 2]) (V := fun (r : Int × S_shadow_Store) => vi .i64 r.1) (R' := fun (r : Int × S_shadow_Store) => [.box 114 (.agg [.ptr 1 0, .ptr 4 0]), .box 105 (.agg [.sl 2 4 [], .agg [.sl 3 1 [], vi .i64 r.2.device.plan.at_], vb r.2.device.off, vb r.2.device.armed, vi .i64 r.2.device.left, vi .i64 r.2.device.steps]), .row (.st .S_pmem_cell) 125 (r.2.device.cells : List S_pmem_cell), .row (.int .i64) 3 (r.2.device.plan.list : List Int), .box 108 (.agg [vi .i64 r.2.blocks.reserve, .agg [.ptr 5 0, .ptr 7 0, .ptr 9 0, .ptr 11 0]]), .box 112 (.agg [vi .i64 r.2.blocks.sets.1.size, .sl 6 1 []]), .row (.int .u64) 119 (r.2.blocks.sets.1.words : List Int), .box 112 (.agg [vi .i64 r.2.blocks.sets.2.1.size, .sl 8 1 []]), .row (.int .u64) 119 (r.2.blocks.sets.2.1.words : List Int), .box 112 (.agg [vi .i64 r.2.blocks.sets.2.2.1.size, .sl 10 1 []]), .row (.int .u64) 119 (r.2.blocks.sets.2.2.1.words : List Int), .box 112 (.agg [vi .i64 r.2.blocks.sets.2.2.2.size, .sl 12 1 []]), .row (.int .u64) 119 (r.2.blocks.sets.2.2.2.words : List Int)]) cok Tryd.func29 rfl rfl rfl (by kernel_rfl) (by kernel_rfl) rfl rfl fun X => ?_
 refine bk h fun t1 k2 h => ?_
 refine cl3 cok.g (press_Sure.sc fu a0.device _ k2) (vi .i64 t1.1) [(1, .box 105 (.agg [.sl 2 4 [], .agg [.sl 3 1 [], vi .i64 t1.2.plan.at_], vb t1.2.off, vb t1.2.armed, vi .i64 t1.2.left, vi .i64 t1.2.steps])), (2, .row (.st .S_pmem_cell) 125 (t1.2.cells : List S_pmem_cell)), (3, .row (.int .i64) 3 (t1.2.plan.list : List Int))] 16 (by kernel_rfl) (by kernel_rfl) ?_
 exact fi h (by kernel_rfl)
end Go.Proofs.YtdifnahlheogdaaDoor
