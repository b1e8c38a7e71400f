/- DirOrder: texts merged, part 5 of 7. The last part proves that the law DirOrder holds for every input. -/
import Derived.Test.YtdifnahlheogdaaDoorPkDirOrder4
import Derived.Shelf.RegionOpenPlain
import Derived.WalkKit
import Derived.Lib.Walk
import Derived.Lib.AppendZeros
import Derived.Lib.Overlaps
import Derived.Laws.Externs
import Derived.Laws.CopyRow
import Derived.Deep.AppendSrc
set_option maxRecDepth 100000
set_option maxHeartbeats 4000000
set_option linter.unusedVariables false
set_option linter.unusedSimpArgs false
set_option linter.unusedSectionVars false
namespace Go.Proofs.YtdifnahlheogdaaDoor
open Go Go.Xw Go.Yw
def shadow_Store_Turn.f (fu : Nat) (a0 : S_shadow_Store) (a1 : Int) (a2 : List Int) : Option (Int × Int × S_shadow_Store) := (if (!decide ((List.length a2 : Int) = 64)) then some (0, 2, a0) else ((alloc_Alloc_Works.f fu a0.blocks).bind fun t2 => ((bits_Set_Has.f fu t2 a1).bind fun t4 => (if (!t4) then some (0, 2, a0) else ((alloc_Alloc_Own.f fu a0.blocks a1).bind fun t7 => (if t7 then ((shadow_Store_written.f fu a0 a1 a2).bind fun t10 => some (t10.1, t10.2.1, t10.2.2)) else ((shadow_Store_Make.f fu a0 a2).bind fun t12 => (if (!decide (t12.2.1 = 0)) then some (0, t12.2.1, t12.2.2) else ((alloc_Alloc_Give.f fu t12.2.2.blocks a1).bind fun t15 => some (t12.1, t15.1, (⟨t12.2.2.device, t15.2⟩ : S_shadow_Store)))))))))))
theorem shadow_Store_Turn.sc (fu : Nat) (a0 : S_shadow_Store) (a1 : Int) (a2 : List Int) (r : Int × Int × S_shadow_Store) (h : shadow_Store_Turn.f fu a0 a1 a2 = some r) : SC Tryd.prog CT 19 [.ptr 0 0, vi .i64 a1, .v (.sl (.int .u8)) (a2 : List Int)] [.box 114 (.agg [.ptr 1 0, .ptr 4 0]), .box 105 (.agg [.sl 2 4 [], .agg [.sl 3 1 [], vi .i64 a0.device.plan.at_], vb a0.device.off, vb a0.device.armed, vi .i64 a0.device.left, vi .i64 a0.device.steps]), .row (.st .S_pmem_cell) 125 (a0.device.cells : List S_pmem_cell), .row (.int .i64) 3 (a0.device.plan.list : List Int), .box 108 (.agg [vi .i64 a0.blocks.reserve, .agg [.ptr 5 0, .ptr 7 0, .ptr 9 0, .ptr 11 0]]), .box 112 (.agg [vi .i64 a0.blocks.sets.1.size, .sl 6 1 []]), .row (.int .u64) 119 (a0.blocks.sets.1.words : List Int), .box 112 (.agg [vi .i64 a0.blocks.sets.2.1.size, .sl 8 1 []]), .row (.int .u64) 119 (a0.blocks.sets.2.1.words : List Int), .box 112 (.agg [vi .i64 a0.blocks.sets.2.2.1.size, .sl 10 1 []]), .row (.int .u64) 119 (a0.blocks.sets.2.2.1.words : List Int), .box 112 (.agg [vi .i64 a0.blocks.sets.2.2.2.size, .sl 12 1 []]), .row (.int .u64) 119 (a0.blocks.sets.2.2.2.words : List Int)] (.tup [vi .i64 r.1, vi .i64 r.2.1]) [.box 114 (.agg [.ptr 1 0, .ptr 4 0]), .box 105 (.agg [.sl 2 4 [], .agg [.sl 3 1 [], vi .i64 r.2.2.device.plan.at_], vb r.2.2.device.off, vb r.2.2.device.armed, vi .i64 r.2.2.device.left, vi .i64 r.2.2.device.steps]), .row (.st .S_pmem_cell) 125 (r.2.2.device.cells : List S_pmem_cell), .row (.int .i64) 3 (r.2.2.device.plan.list : List Int), .box 108 (.agg [vi .i64 r.2.2.blocks.reserve, .agg [.ptr 5 0, .ptr 7 0, .ptr 9 0, .ptr 11 0]]), .box 112 (.agg [vi .i64 r.2.2.blocks.sets.1.size, .sl 6 1 []]), .row (.int .u64) 119 (r.2.2.blocks.sets.1.words : List Int), .box 112 (.agg [vi .i64 r.2.2.blocks.sets.2.1.size, .sl 8 1 []]), .row (.int .u64) 119 (r.2.2.blocks.sets.2.1.words : List Int), .box 112 (.agg [vi .i64 r.2.2.blocks.sets.2.2.1.size, .sl 10 1 []]), .row (.int .u64) 119 (r.2.2.blocks.sets.2.2.1.words : List Int), .box 112 (.agg [vi .i64 r.2.2.blocks.sets.2.2.2.size, .sl 12 1 []]), .row (.int .u64) 119 (r.2.2.blocks.sets.2.2.2.words : List Int)] := by
 unfold shadow_Store_Turn.f at h
 refine sq Tryd.func19 r (fun r => .tup [vi .i64 r.1, vi .i64 r.2.1]) (fun r => [.box 114 (.agg [.ptr 1 0, .ptr 4 0]), .box 105 (.agg [.sl 2 4 [], .agg [.sl 3 1 [], vi .i64 r.2.2.device.plan.at_], vb r.2.2.device.off, vb r.2.2.device.armed, vi .i64 r.2.2.device.left, vi .i64 r.2.2.device.steps]), .row (.st .S_pmem_cell) 125 (r.2.2.device.cells : List S_pmem_cell), .row (.int .i64) 3 (r.2.2.device.plan.list : List Int), .box 108 (.agg [vi .i64 r.2.2.blocks.reserve, .agg [.ptr 5 0, .ptr 7 0, .ptr 9 0, .ptr 11 0]]), .box 112 (.agg [vi .i64 r.2.2.blocks.sets.1.size, .sl 6 1 []]), .row (.int .u64) 119 (r.2.2.blocks.sets.1.words : List Int), .box 112 (.agg [vi .i64 r.2.2.blocks.sets.2.1.size, .sl 8 1 []]), .row (.int .u64) 119 (r.2.2.blocks.sets.2.1.words : List Int), .box 112 (.agg [vi .i64 r.2.2.blocks.sets.2.2.1.size, .sl 10 1 []]), .row (.int .u64) 119 (r.2.2.blocks.sets.2.2.1.words : List Int), .box 112 (.agg [vi .i64 r.2.2.blocks.sets.2.2.2.size, .sl 12 1 []]), .row (.int .u64) 119 (r.2.2.blocks.sets.2.2.2.words : List Int)]) fun X => ?_
 refine t_reg cok ?_
 refine bi h (fun c1 h => ?_) (fun c1 h => ?_)
 ·skip
  refine t_cond cok ?_
  exact fk h
 refine bk h fun t2 k3 h => ?_
 refine cl4 cok.g (alloc_Alloc_Works.sc fu _ _ k3) (.ptr 22 0) [(4, .box 108 (.agg [vi .i64 a0.blocks.reserve, .agg [.ptr 5 0, .ptr 7 0, .ptr 9 0, .ptr 11 0]])), (5, .box 112 (.agg [vi .i64 a0.blocks.sets.1.size, .sl 6 1 []])), (6, .row (.int .u64) 119 (a0.blocks.sets.1.words : List Int)), (7, .box 112 (.agg [vi .i64 a0.blocks.sets.2.1.size, .sl 8 1 []])), (8, .row (.int .u64) 119 (a0.blocks.sets.2.1.words : List Int)), (9, .box 112 (.agg [vi .i64 a0.blocks.sets.2.2.1.size, .sl 10 1 []])), (10, .row (.int .u64) 119 (a0.blocks.sets.2.2.1.words : List Int)), (11, .box 112 (.agg [vi .i64 a0.blocks.sets.2.2.2.size, .sl 12 1 []])), (12, .row (.int .u64) 119 (a0.blocks.sets.2.2.2.words : List Int)), (22, .box 112 (.agg [vi .i64 t2.size, .sl 23 1 []])), (23, .row (.int .u64) 119 (t2.words : List Int))] 24 ?_
 refine bk h fun t4 k5 h => ?_
 refine cl4 cok.g (bits_Set_Has.sc fu _ _ _ k5) (vb t4) [(22, .box 112 (.agg [vi .i64 t2.size, .sl 23 1 []])), (23, .row (.int .u64) 119 (t2.words : List Int))] 26 ?_
 refine t_cond cok ?_
 refine bi h (fun c6 h => ?_) (fun c6 h => ?_)
 ·skip
  exact fk h
 refine bk h fun t7 k8 h => ?_
 refine cl4 cok.g (alloc_Alloc_Own.sc fu _ _ _ k8) (vb t7) [(4, .box 108 (.agg [vi .i64 a0.blocks.reserve, .agg [.ptr 5 0, .ptr 7 0, .ptr 9 0, .ptr 11 0]])), (5, .box 112 (.agg [vi .i64 a0.blocks.sets.1.size, .sl 6 1 []])), (6, .row (.int .u64) 119 (a0.blocks.sets.1.words : List Int)), (7, .box 112 (.agg [vi .i64 a0.blocks.sets.2.1.size, .sl 8 1 []])), (8, .row (.int .u64) 119 (a0.blocks.sets.2.1.words : List Int)), (9, .box 112 (.agg [vi .i64 a0.blocks.sets.2.2.1.size, .sl 10 1 []])), (10, .row (.int .u64) 119 (a0.blocks.sets.2.2.1.words : List Int)), (11, .box 112 (.agg [vi .i64 a0.blocks.sets.2.2.2.size, .sl 12 1 []])), (12, .row (.int .u64) 119 (a0.blocks.sets.2.2.2.words : List Int))] 35 ?_
 refine t_cond cok ?_
 refine bi h (fun c9 h => ?_) (fun c9 h => ?_)
 ·skip
  refine bk h fun t10 k11 h => ?_
  refine cl4 cok.g (shadow_Store_written.sc fu _ _ _ _ k11) (.tup [vi .i64 t10.1, vi .i64 t10.2.1]) [(0, .box 114 (.agg [.ptr 1 0, .ptr 4 0])), (1, .box 105 (.agg [.sl 2 4 [], .agg [.sl 3 1 [], vi .i64 t10.2.2.device.plan.at_], vb t10.2.2.device.off, vb t10.2.2.device.armed, vi .i64 t10.2.2.device.left, vi .i64 t10.2.2.device.steps])), (2, .row (.st .S_pmem_cell) 125 (t10.2.2.device.cells : List S_pmem_cell)), (3, .row (.int .i64) 3 (t10.2.2.device.plan.list : List Int)), (4, .box 108 (.agg [vi .i64 t10.2.2.blocks.reserve, .agg [.ptr 5 0, .ptr 7 0, .ptr 9 0, .ptr 11 0]])), (5, .box 112 (.agg [vi .i64 t10.2.2.blocks.sets.1.size, .sl 6 1 []])), (6, .row (.int .u64) 119 (t10.2.2.blocks.sets.1.words : List Int)), (7, .box 112 (.agg [vi .i64 t10.2.2.blocks.sets.2.1.size, .sl 8 1 []])), (8, .row (.int .u64) 119 (t10.2.2.blocks.sets.2.1.words : List Int)), (9, .box 112 (.agg [vi .i64 t10.2.2.blocks.sets.2.2.1.size, .sl 10 1 []])), (10, .row (.int .u64) 119 (t10.2.2.blocks.sets.2.2.1.words : List Int)), (11, .box 112 (.agg [vi .i64 t10.2.2.blocks.sets.2.2.2.size, .sl 12 1 []])), (12, .row (.int .u64) 119 (t10.2.2.blocks.sets.2.2.2.words : List Int))] 48 ?_
  exact fk h
 refine bk h fun t12 k13 h => ?_
 refine cl4 cok.g (shadow_Store_Make.sc fu _ _ _ k13) (.tup [vi .i64 t12.1, vi .i64 t12.2.1]) [(0, .box 114 (.agg [.ptr 1 0, .ptr 4 0])), (1, .box 105 (.agg [.sl 2 4 [], .agg [.sl 3 1 [], vi .i64 t12.2.2.device.plan.at_], vb t12.2.2.device.off, vb t12.2.2.device.armed, vi .i64 t12.2.2.device.left, vi .i64 t12.2.2.device.steps])), (2, .row (.st .S_pmem_cell) 125 (t12.2.2.device.cells : List S_pmem_cell)), (3, .row (.int .i64) 3 (t12.2.2.device.plan.list : List Int)), (4, .box 108 (.agg [vi .i64 t12.2.2.blocks.reserve, .agg [.ptr 5 0, .ptr 7 0, .ptr 9 0, .ptr 11 0]])), (5, .box 112 (.agg [vi .i64 t12.2.2.blocks.sets.1.size, .sl 6 1 []])), (6, .row (.int .u64) 119 (t12.2.2.blocks.sets.1.words : List Int)), (7, .box 112 (.agg [vi .i64 t12.2.2.blocks.sets.2.1.size, .sl 8 1 []])), (8, .row (.int .u64) 119 (t12.2.2.blocks.sets.2.1.words : List Int)), (9, .box 112 (.agg [vi .i64 t12.2.2.blocks.sets.2.2.1.size, .sl 10 1 []])), (10, .row (.int .u64) 119 (t12.2.2.blocks.sets.2.2.1.words : List Int)), (11, .box 112 (.agg [vi .i64 t12.2.2.blocks.sets.2.2.2.size, .sl 12 1 []])), (12, .row (.int .u64) 119 (t12.2.2.blocks.sets.2.2.2.words : List Int))] 48 ?_
 refine t_cond cok ?_
 refine bi h (fun c14 h => ?_) (fun c14 h => ?_)
 ·skip
  exact fk h
 refine bk h fun t15 k16 h => ?_
 refine cl4 cok.g (alloc_Alloc_Give.sc fu _ _ _ k16) (vi .i64 t15.1) [(4, .box 108 (.agg [vi .i64 t15.2.reserve, .agg [.ptr 5 0, .ptr 7 0, .ptr 9 0, .ptr 11 0]])), (5, .box 112 (.agg [vi .i64 t15.2.sets.1.size, .sl 6 1 []])), (6, .row (.int .u64) 119 (t15.2.sets.1.words : List Int)), (7, .box 112 (.agg [vi .i64 t15.2.sets.2.1.size, .sl 8 1 []])), (8, .row (.int .u64) 119 (t15.2.sets.2.1.words : List Int)), (9, .box 112 (.agg [vi .i64 t15.2.sets.2.2.1.size, .sl 10 1 []])), (10, .row (.int .u64) 119 (t15.2.sets.2.2.1.words : List Int)), (11, .box 112 (.agg [vi .i64 t15.2.sets.2.2.2.size, .sl 12 1 []])), (12, .row (.int .u64) 119 (t15.2.sets.2.2.2.words : List Int))] 57 ?_
 exact fk h
def dir_lay.s0 (fu : Nat) (a2 : List S_dir_listed) : (Int × (List Int)) → Option (Sum (List Int) (Int × (List Int))) := fun s4 => (if (decide (s4.1 < (List.length a2 : Int))) then if 0 ≤ s4.1 ∧ s4.1 < (List.length a2 : Int) then if List.length s4.2 + List.length [(ix a2 s4.1).at_] ≤ LIM then some (Sum.inr ((IntKind.i64.wrap (s4.1 + 1)), (s4.2 ++ [(ix a2 s4.1).at_]))) else none else none else some (Sum.inl (s4.2)))
def dir_lay.f (fu : Nat) (a0 : S_shadow_Store) (a1 : Int) (a2 : List S_dir_listed) : Option (Int × Int × S_shadow_Store) := (if (decide ((List.length a2 : Int) = 0)) then ((shadow_Store_Drop.f fu a0 a1).bind fun t2 => some (0, t2.1, t2.2)) else ((loopM (dir_lay.s0 fu a2) fu (0, ([] : List Int))).bind fun e5 => ((label_PutDir.f fu (⟨e5⟩ : S_api_Dir)).bind fun t10 => (if (!t10.2) then some (0, 31, a0) else (if (decide (a1 = 0)) then ((shadow_Store_Make.f fu a0 t10.1).bind fun t14 => some (t14.1, t14.2.1, t14.2.2)) else ((shadow_Store_Turn.f fu a0 a1 t10.1).bind fun t16 => some (t16.1, t16.2.1, t16.2.2)))))))
theorem dir_lay.sc (fu : Nat) (a0 : S_shadow_Store) (a1 : Int) (a2 : List S_dir_listed) (r : Int × Int × S_shadow_Store) (h : dir_lay.f fu a0 a1 a2 = some r) : SC Tryd.prog CT 86 [.ptr 0 0, vi .i64 a1, .v (.sl (.st .S_dir_listed)) (a2 : List S_dir_listed)] [.box 114 (.agg [.ptr 1 0, .ptr 4 0]), .box 105 (.agg [.sl 2 4 [], .agg [.sl 3 1 [], vi .i64 a0.device.plan.at_], vb a0.device.off, vb a0.device.armed, vi .i64 a0.device.left, vi .i64 a0.device.steps]), .row (.st .S_pmem_cell) 125 (a0.device.cells : List S_pmem_cell), .row (.int .i64) 3 (a0.device.plan.list : List Int), .box 108 (.agg [vi .i64 a0.blocks.reserve, .agg [.ptr 5 0, .ptr 7 0, .ptr 9 0, .ptr 11 0]]), .box 112 (.agg [vi .i64 a0.blocks.sets.1.size, .sl 6 1 []]), .row (.int .u64) 119 (a0.blocks.sets.1.words : List Int), .box 112 (.agg [vi .i64 a0.blocks.sets.2.1.size, .sl 8 1 []]), .row (.int .u64) 119 (a0.blocks.sets.2.1.words : List Int), .box 112 (.agg [vi .i64 a0.blocks.sets.2.2.1.size, .sl 10 1 []]), .row (.int .u64) 119 (a0.blocks.sets.2.2.1.words : List Int), .box 112 (.agg [vi .i64 a0.blocks.sets.2.2.2.size, .sl 12 1 []]), .row (.int .u64) 119 (a0.blocks.sets.2.2.2.words : List Int)] (.tup [vi .i64 r.1, vi .i64 r.2.1]) [.box 114 (.agg [.ptr 1 0, .ptr 4 0]), .box 105 (.agg [.sl 2 4 [], .agg [.sl 3 1 [], vi .i64 r.2.2.device.plan.at_], vb r.2.2.device.off, vb r.2.2.device.armed, vi .i64 r.2.2.device.left, vi .i64 r.2.2.device.steps]), .row (.st .S_pmem_cell) 125 (r.2.2.device.cells : List S_pmem_cell), .row (.int .i64) 3 (r.2.2.device.plan.list : List Int), .box 108 (.agg [vi .i64 r.2.2.blocks.reserve, .agg [.ptr 5 0, .ptr 7 0, .ptr 9 0, .ptr 11 0]]), .box 112 (.agg [vi .i64 r.2.2.blocks.sets.1.size, .sl 6 1 []]), .row (.int .u64) 119 (r.2.2.blocks.sets.1.words : List Int), .box 112 (.agg [vi .i64 r.2.2.blocks.sets.2.1.size, .sl 8 1 []]), .row (.int .u64) 119 (r.2.2.blocks.sets.2.1.words : List Int), .box 112 (.agg [vi .i64 r.2.2.blocks.sets.2.2.1.size, .sl 10 1 []]), .row (.int .u64) 119 (r.2.2.blocks.sets.2.2.1.words : List Int), .box 112 (.agg [vi .i64 r.2.2.blocks.sets.2.2.2.size, .sl 12 1 []]), .row (.int .u64) 119 (r.2.2.blocks.sets.2.2.2.words : List Int)] := by
 unfold dir_lay.f at h
 refine sq Tryd.func86 r (fun r => .tup [vi .i64 r.1, vi .i64 r.2.1]) (fun r => [.box 114 (.agg [.ptr 1 0, .ptr 4 0]), .box 105 (.agg [.sl 2 4 [], .agg [.sl 3 1 [], vi .i64 r.2.2.device.plan.at_], vb r.2.2.device.off, vb r.2.2.device.armed, vi .i64 r.2.2.device.left, vi .i64 r.2.2.device.steps]), .row (.st .S_pmem_cell) 125 (r.2.2.device.cells : List S_pmem_cell), .row (.int .i64) 3 (r.2.2.device.plan.list : List Int), .box 108 (.agg [vi .i64 r.2.2.blocks.reserve, .agg [.ptr 5 0, .ptr 7 0, .ptr 9 0, .ptr 11 0]]), .box 112 (.agg [vi .i64 r.2.2.blocks.sets.1.size, .sl 6 1 []]), .row (.int .u64) 119 (r.2.2.blocks.sets.1.words : List Int), .box 112 (.agg [vi .i64 r.2.2.blocks.sets.2.1.size, .sl 8 1 []]), .row (.int .u64) 119 (r.2.2.blocks.sets.2.1.words : List Int), .box 112 (.agg [vi .i64 r.2.2.blocks.sets.2.2.1.size, .sl 10 1 []]), .row (.int .u64) 119 (r.2.2.blocks.sets.2.2.1.words : List Int), .box 112 (.agg [vi .i64 r.2.2.blocks.sets.2.2.2.size, .sl 12 1 []]), .row (.int .u64) 119 (r.2.2.blocks.sets.2.2.2.words : List Int)]) fun X => ?_
 refine t_cond cok ?_
 refine bi h (fun c1 h => ?_) (fun c1 h => ?_)
 ·skip
  refine bk h fun t2 k3 h => ?_
  refine cl4 cok.g (shadow_Store_Drop.sc fu _ _ _ k3) (vi .i64 t2.1) [(0, .box 114 (.agg [.ptr 1 0, .ptr 4 0])), (1, .box 105 (.agg [.sl 2 4 [], .agg [.sl 3 1 [], vi .i64 t2.2.device.plan.at_], vb t2.2.device.off, vb t2.2.device.armed, vi .i64 t2.2.device.left, vi .i64 t2.2.device.steps])), (2, .row (.st .S_pmem_cell) 125 (t2.2.device.cells : List S_pmem_cell)), (3, .row (.int .i64) 3 (t2.2.device.plan.list : List Int)), (4, .box 108 (.agg [vi .i64 t2.2.blocks.reserve, .agg [.ptr 5 0, .ptr 7 0, .ptr 9 0, .ptr 11 0]])), (5, .box 112 (.agg [vi .i64 t2.2.blocks.sets.1.size, .sl 6 1 []])), (6, .row (.int .u64) 119 (t2.2.blocks.sets.1.words : List Int)), (7, .box 112 (.agg [vi .i64 t2.2.blocks.sets.2.1.size, .sl 8 1 []])), (8, .row (.int .u64) 119 (t2.2.blocks.sets.2.1.words : List Int)), (9, .box 112 (.agg [vi .i64 t2.2.blocks.sets.2.2.1.size, .sl 10 1 []])), (10, .row (.int .u64) 119 (t2.2.blocks.sets.2.2.1.words : List Int)), (11, .box 112 (.agg [vi .i64 t2.2.blocks.sets.2.2.2.size, .sl 12 1 []])), (12, .row (.int .u64) 119 (t2.2.blocks.sets.2.2.2.words : List Int))] 26 ?_
  exact fk h
 refine bk h fun e5 l6 h => ?_
 refine t_cutx cok 0 (fun (e5 : (List Int)) => ⟨[(0, .ptr 0 0), (1, vi .i64 a1), (8, .ptr 13 0)], [.box 114 (.agg [.ptr 1 0, .ptr 4 0]), .box 105 (.agg [.sl 2 4 [], .agg [.sl 3 1 [], vi .i64 a0.device.plan.at_], vb a0.device.off, vb a0.device.armed, vi .i64 a0.device.left, vi .i64 a0.device.steps]), .row (.st .S_pmem_cell) 125 (a0.device.cells : List S_pmem_cell), .row (.int .i64) 3 (a0.device.plan.list : List Int), .box 108 (.agg [vi .i64 a0.blocks.reserve, .agg [.ptr 5 0, .ptr 7 0, .ptr 9 0, .ptr 11 0]]), .box 112 (.agg [vi .i64 a0.blocks.sets.1.size, .sl 6 1 []]), .row (.int .u64) 119 (a0.blocks.sets.1.words : List Int), .box 112 (.agg [vi .i64 a0.blocks.sets.2.1.size, .sl 8 1 []]), .row (.int .u64) 119 (a0.blocks.sets.2.1.words : List Int), .box 112 (.agg [vi .i64 a0.blocks.sets.2.2.1.size, .sl 10 1 []]), .row (.int .u64) 119 (a0.blocks.sets.2.2.1.words : List Int), .box 112 (.agg [vi .i64 a0.blocks.sets.2.2.2.size, .sl 12 1 []]), .row (.int .u64) 119 (a0.blocks.sets.2.2.2.words : List Int), .box 163 (.agg [.sl 14 1 []]), .row (.int .i64) 3 (e5 : List Int)]⟩) e5 ?_ ?_
 ·skip
  have h7 := h
  refine t_loop cok (fun (s4 : Int × (List Int)) => ⟨[(0, .ptr 0 0), (1, vi .i64 a1), (8, .ptr 13 0), (19, .v (.sl (.st .S_dir_listed)) (a2 : List S_dir_listed)), (20, vi .i64 (List.length a2 : Int)), (21, vi .i64 s4.1)], [.box 114 (.agg [.ptr 1 0, .ptr 4 0]), .box 105 (.agg [.sl 2 4 [], .agg [.sl 3 1 [], vi .i64 a0.device.plan.at_], vb a0.device.off, vb a0.device.armed, vi .i64 a0.device.left, vi .i64 a0.device.steps]), .row (.st .S_pmem_cell) 125 (a0.device.cells : List S_pmem_cell), .row (.int .i64) 3 (a0.device.plan.list : List Int), .box 108 (.agg [vi .i64 a0.blocks.reserve, .agg [.ptr 5 0, .ptr 7 0, .ptr 9 0, .ptr 11 0]]), .box 112 (.agg [vi .i64 a0.blocks.sets.1.size, .sl 6 1 []]), .row (.int .u64) 119 (a0.blocks.sets.1.words : List Int), .box 112 (.agg [vi .i64 a0.blocks.sets.2.1.size, .sl 8 1 []]), .row (.int .u64) 119 (a0.blocks.sets.2.1.words : List Int), .box 112 (.agg [vi .i64 a0.blocks.sets.2.2.1.size, .sl 10 1 []]), .row (.int .u64) 119 (a0.blocks.sets.2.2.1.words : List Int), .box 112 (.agg [vi .i64 a0.blocks.sets.2.2.2.size, .sl 12 1 []]), .row (.int .u64) 119 (a0.blocks.sets.2.2.2.words : List Int), .box 163 (.agg [.sl 14 1 []]), .row (.int .i64) 3 (s4.2 : List Int)]⟩) l6 (by kernel_rfl) (fun s4 x8 h => ?_)
  unfold dir_lay.s0 at h
  refine t_cond cok ?_
  refine bi h (fun c9 h => ?_) (fun c9 h => ?_)
  ·skip
   refine ag h fun h => ?_
   refine ag h fun h => ?_
   exact lik h
  exact lpx h fun hy => ek (sj hy)
 refine bk h fun t10 k11 h => ?_
 refine cl4 cok.g (label_PutDir.sc fu _ _ k11) (.tup [.sl 15 1 [], vb t10.2]) [(15, .row (.int .u8) 5 (t10.1 : List Int))] 16 ?_
 refine t_cond cok ?_
 refine bi h (fun c12 h => ?_) (fun c12 h => ?_)
 ·skip
  exact fk h
 refine t_cond cok ?_
 refine bi h (fun c13 h => ?_) (fun c13 h => ?_)
 ·skip
  refine bk h fun t14 k15 h => ?_
  refine cl4 cok.g (shadow_Store_Make.sc fu _ _ _ k15) (.tup [vi .i64 t14.1, vi .i64 t14.2.1]) [(0, .box 114 (.agg [.ptr 1 0, .ptr 4 0])), (1, .box 105 (.agg [.sl 2 4 [], .agg [.sl 3 1 [], vi .i64 t14.2.2.device.plan.at_], vb t14.2.2.device.off, vb t14.2.2.device.armed, vi .i64 t14.2.2.device.left, vi .i64 t14.2.2.device.steps])), (2, .row (.st .S_pmem_cell) 125 (t14.2.2.device.cells : List S_pmem_cell)), (3, .row (.int .i64) 3 (t14.2.2.device.plan.list : List Int)), (4, .box 108 (.agg [vi .i64 t14.2.2.blocks.reserve, .agg [.ptr 5 0, .ptr 7 0, .ptr 9 0, .ptr 11 0]])), (5, .box 112 (.agg [vi .i64 t14.2.2.blocks.sets.1.size, .sl 6 1 []])), (6, .row (.int .u64) 119 (t14.2.2.blocks.sets.1.words : List Int)), (7, .box 112 (.agg [vi .i64 t14.2.2.blocks.sets.2.1.size, .sl 8 1 []])), (8, .row (.int .u64) 119 (t14.2.2.blocks.sets.2.1.words : List Int)), (9, .box 112 (.agg [vi .i64 t14.2.2.blocks.sets.2.2.1.size, .sl 10 1 []])), (10, .row (.int .u64) 119 (t14.2.2.blocks.sets.2.2.1.words : List Int)), (11, .box 112 (.agg [vi .i64 t14.2.2.blocks.sets.2.2.2.size, .sl 12 1 []])), (12, .row (.int .u64) 119 (t14.2.2.blocks.sets.2.2.2.words : List Int))] 29 ?_
  exact fk h
 refine bk h fun t16 k17 h => ?_
 refine cl4 cok.g (shadow_Store_Turn.sc fu _ _ _ _ k17) (.tup [vi .i64 t16.1, vi .i64 t16.2.1]) [(0, .box 114 (.agg [.ptr 1 0, .ptr 4 0])), (1, .box 105 (.agg [.sl 2 4 [], .agg [.sl 3 1 [], vi .i64 t16.2.2.device.plan.at_], vb t16.2.2.device.off, vb t16.2.2.device.armed, vi .i64 t16.2.2.device.left, vi .i64 t16.2.2.device.steps])), (2, .row (.st .S_pmem_cell) 125 (t16.2.2.device.cells : List S_pmem_cell)), (3, .row (.int .i64) 3 (t16.2.2.device.plan.list : List Int)), (4, .box 108 (.agg [vi .i64 t16.2.2.blocks.reserve, .agg [.ptr 5 0, .ptr 7 0, .ptr 9 0, .ptr 11 0]])), (5, .box 112 (.agg [vi .i64 t16.2.2.blocks.sets.1.size, .sl 6 1 []])), (6, .row (.int .u64) 119 (t16.2.2.blocks.sets.1.words : List Int)), (7, .box 112 (.agg [vi .i64 t16.2.2.blocks.sets.2.1.size, .sl 8 1 []])), (8, .row (.int .u64) 119 (t16.2.2.blocks.sets.2.1.words : List Int)), (9, .box 112 (.agg [vi .i64 t16.2.2.blocks.sets.2.2.1.size, .sl 10 1 []])), (10, .row (.int .u64) 119 (t16.2.2.blocks.sets.2.2.1.words : List Int)), (11, .box 112 (.agg [vi .i64 t16.2.2.blocks.sets.2.2.2.size, .sl 12 1 []])), (12, .row (.int .u64) 119 (t16.2.2.blocks.sets.2.2.2.words : List Int))] 29 ?_
 exact fk h
def name_Runes.s0 (fu : Nat) (a0 : List UInt8) : ((List Int) × Int) → Option (Sum ((List Int) × Int) ((List Int) × Int)) := fun s1 => (if (decide (s1.2 < (List.length a0 : Int))) then if List.length s1.1 + List.length [(runeAt a0 s1.2)] ≤ LIM then some (Sum.inr ((s1.1 ++ [(runeAt a0 s1.2)]), (s1.2 + wideAt a0 s1.2))) else none else some (Sum.inl (s1.1, s1.2)))
def name_Runes.f (fu : Nat) (a0 : List UInt8) : Option (List Int) := ((loopM (name_Runes.s0 fu a0) fu (([] : List Int), 0)).bind fun e2 => some (e2.1))
theorem name_Runes.sc (fu : Nat) (a0 : List UInt8) (r : (List Int)) (h : name_Runes.f fu a0 = some r) : SC Tryd.prog CT 128 [vs a0] [] (.sl 0 1 []) [.row (.int .i32) 21 (r : List Int)] := by
 unfold name_Runes.f at h
 refine sq Tryd.func128 r (fun r => .sl 0 1 []) (fun r => [.row (.int .i32) 21 (r : List Int)]) fun X => ?_
 refine bk h fun e2 l3 h => ?_
 refine t_cutx cok 0 (fun (e2 : (List Int) × Int) => ⟨[(3, .sl 0 1 [])], [.row (.int .i32) 21 (e2.1 : List Int)]⟩) e2 ?_ ?_
 ·skip
  have h4 := h
  refine t_loop cok (fun (s1 : (List Int) × Int) => ⟨[(3, .sl 0 1 []), (7, .ptr 1 0)], [.row (.int .i32) 21 (s1.1 : List Int), .itr (a0) (s1.2)]⟩) l3 (by kernel_rfl) (fun s1 x5 h => ?_)
  unfold name_Runes.s0 at h
  refine bi h (fun c6 h => ?_) (fun c6 h => ?_)
  ·skip
   refine t_cond cok ?_
   refine ag h fun h => ?_
   exact lik h
  refine t_cond cok ?_
  exact lpx h fun hy => ek (sj hy)
 exact fk h
def cmp_isNaN.f (fu : Nat) (a0 : Int) : Option Bool := some ((!decide (a0 = a0)))
theorem cmp_isNaN.sc (fu : Nat) (a0 : Int) (r : Bool) (h : cmp_isNaN.f fu a0 = some r) : SC Tryd.prog CT 149 [vi .i32 a0] [] (vb r) [] := by
 unfold cmp_isNaN.f at h
 refine sq Tryd.func149 r (fun r => vb r) (fun r => []) fun X => ?_
 exact fk h
def cmp_Compare.f (fu : Nat) (a0 : Int) (a1 : Int) : Option Int := ((cmp_isNaN.f fu a0).bind fun t1 => ((cmp_isNaN.f fu a1).bind fun t3 => (if t1 then (if t3 then some (0) else some ((-1))) else (if t3 then some (1) else (if (decide (a0 < a1)) then some ((-1)) else (if (decide (a0 > a1)) then some (1) else some (0)))))))
theorem cmp_Compare.sc (fu : Nat) (a0 : Int) (a1 : Int) (r : Int) (h : cmp_Compare.f fu a0 a1 = some r) : SC Tryd.prog CT 142 [vi .i32 a0, vi .i32 a1] [] (vi .i64 r) [] := by
 unfold cmp_Compare.f at h
 refine sq Tryd.func142 r (fun r => vi .i64 r) (fun r => []) fun X => ?_
 refine bk h fun t1 k2 h => ?_
 refine cl4 cok.g (cmp_isNaN.sc fu _ _ k2) (vb t1) [] 0 ?_
 refine bk h fun t3 k4 h => ?_
 refine cl4 cok.g (cmp_isNaN.sc fu _ _ k4) (vb t3) [] 0 ?_
 refine t_cond cok ?_
 refine bi h (fun c5 h => ?_) (fun c5 h => ?_)
 ·skip
  refine t_cond cok ?_
  refine bi h (fun c6 h => ?_) (fun c6 h => ?_)
  ·skip
   exact fk h
  exact fk h
 refine t_cond cok ?_
 refine bi h (fun c7 h => ?_) (fun c7 h => ?_)
 ·skip
  exact fk h
 refine t_cond cok ?_
 refine bi h (fun c8 h => ?_) (fun c8 h => ?_)
 ·skip
  exact fk h
 refine t_cond cok ?_
 refine bi h (fun c9 h => ?_) (fun c9 h => ?_)
 ·skip
  exact fk h
 exact fk h
def slices_Compare.s0 (fu : Nat) (a0 : List Int) (a1 : List Int) : Int → Option (Sum (Sum Int Unit) Int) := fun s1 => (if (decide (s1 < (List.length a0 : Int))) then if 0 ≤ s1 ∧ s1 < (List.length a0 : Int) then (if (decide (s1 ≥ (List.length a1 : Int))) then some (Sum.inl (Sum.inl (1))) else if 0 ≤ s1 ∧ s1 < (List.length a1 : Int) then ((cmp_Compare.f fu (ix a0 s1) (ix a1 s1)).bind fun t9 => (if (!decide (t9 = 0)) then some (Sum.inl (Sum.inl (t9))) else some (Sum.inr ((IntKind.i64.wrap (s1 + 1)))))) else none) else none else some (Sum.inl (Sum.inr ())))
def slices_Compare.f (fu : Nat) (a0 : List Int) (a1 : List Int) : Option Int := ((loopM (slices_Compare.s0 fu a0 a1) fu (0)).bind fun e2 => match e2 with | Sum.inl p => some p | Sum.inr x4 => (if (decide ((List.length a0 : Int) < (List.length a1 : Int))) then some ((-1)) else some (0)))
theorem slices_Compare.sc (fu : Nat) (a0 : List Int) (a1 : List Int) (r : Int) (h : slices_Compare.f fu a0 a1 = some r) : SC Tryd.prog CT 127 [.v (.sl (.int .i32)) (a0 : List Int), .v (.sl (.int .i32)) (a1 : List Int)] [] (vi .i64 r) [] := by
 unfold slices_Compare.f at h
 refine sq Tryd.func127 r (fun r => vi .i64 r) (fun r => []) fun X => ?_
 refine bk h fun e2 l3 h => ?_
 refine t_cutxS cok 0 (fun (_x : Unit) => ⟨[(0, .v (.sl (.int .i32)) (a0 : List Int)), (1, .v (.sl (.int .i32)) (a1 : List Int))], []⟩) e2 ?_ (fun x4 hy => ?_)
 ·skip
  have h5 := h
  refine t_loop cok (fun (s1 : Int) => ⟨[(0, .v (.sl (.int .i32)) (a0 : List Int)), (1, .v (.sl (.int .i32)) (a1 : List Int)), (9, .v (.sl (.int .i32)) (a0 : List Int)), (10, vi .i64 (List.length a0 : Int)), (11, vi .i64 s1)], []⟩) l3 (by kernel_rfl) (fun s1 x6 h => ?_)
  unfold slices_Compare.s0 at h
  refine t_cond cok ?_
  refine bi h (fun c7 h => ?_) (fun c7 h => ?_)
  ·skip
   refine ag h fun h => ?_
   refine t_cond cok ?_
   refine bi h (fun c8 h => ?_) (fun c8 h => ?_)
   ·skip
    refine lpr h (fun hy => ?_)
    have h := h5
    rw [← hy] at h
    exact fk h
   refine ag h fun h => ?_
   refine bk h fun t9 k10 h => ?_
   refine cl4 cok.g (cmp_Compare.sc fu _ _ _ k10) (vi .i64 t9) [] 0 ?_
   refine t_cond cok ?_
   refine bi h (fun c11 h => ?_) (fun c11 h => ?_)
   ·skip
    refine lpr h (fun hy => ?_)
    have h := h5
    rw [← hy] at h
    exact fk h
   exact lik h
  exact lpx h fun hy => esk (sj hy)
 subst hy
 refine t_cond cok ?_
 refine bi h (fun c12 h => ?_) (fun c12 h => ?_)
 ·skip
  exact fk h
 exact fk h
def name_Compare.f (fu : Nat) (a0 : List UInt8) (a1 : List UInt8) : Option Int := ((name_Runes.f fu a0).bind fun t1 => ((name_Runes.f fu a1).bind fun t3 => ((slices_Compare.f fu t1 t3).bind fun t5 => some (t5))))
theorem name_Compare.sc (fu : Nat) (a0 : List UInt8) (a1 : List UInt8) (r : Int) (h : name_Compare.f fu a0 a1 = some r) : SC Tryd.prog CT 106 [vs a0, vs a1] [] (vi .i64 r) [] := by
 unfold name_Compare.f at h
 refine sq Tryd.func106 r (fun r => vi .i64 r) (fun r => []) fun X => ?_
 refine bk h fun t1 k2 h => ?_
 refine cl4 cok.g (name_Runes.sc fu _ _ k2) (.sl 0 1 []) [(0, .row (.int .i32) 21 (t1 : List Int))] 1 ?_
 refine bk h fun t3 k4 h => ?_
 refine cl4 cok.g (name_Runes.sc fu _ _ k4) (.sl 1 1 []) [(1, .row (.int .i32) 21 (t3 : List Int))] 2 ?_
 refine bk h fun t5 k6 h => ?_
 refine cl4 cok.g (slices_Compare.sc fu _ _ _ k6) (vi .i64 t5) [] 2 ?_
 exact fk h
def dir_place_1.f (fu : Nat) (a0 : S_dir_listed) (a1 : List UInt8) : Option Int := ((name_Compare.f fu a0.q.Name a1).bind fun t1 => some (t1))
theorem dir_place_1.sc (fu : Nat) (a0 : S_dir_listed) (a1 : List UInt8) (r : Int) (h : dir_place_1.f fu a0 a1 = some r) : SC Tryd.prog CT 111 [.v (.st .S_dir_listed) (a0 : S_dir_listed), vs a1] [] (vi .i64 r) [] := by
 unfold dir_place_1.f at h
 refine sq Tryd.func111 r (fun r => vi .i64 r) (fun r => []) fun X => ?_
 refine bk h fun t1 k2 h => ?_
 refine cl4 cok.g (name_Compare.sc fu _ _ _ k2) (vi .i64 t1) [] 1 ?_
 exact fk h
def slices_BinarySearchFunc_dir_place_1.s0 (fu : Nat) (a0 : List S_dir_listed) (a1 : List UInt8) : (Int × Int) → Option (Sum Int (Int × Int)) := fun s1 => (if (decide (s1.1 < s1.2)) then if 0 ≤ (IntKind.i64.wrap (shR .u64 (IntKind.u64.wrap (IntKind.i64.wrap (s1.1 + s1.2))) 1)) ∧ (IntKind.i64.wrap (shR .u64 (IntKind.u64.wrap (IntKind.i64.wrap (s1.1 + s1.2))) 1)) < (List.length a0 : Int) then ((dir_place_1.f fu (ix a0 (IntKind.i64.wrap (shR .u64 (IntKind.u64.wrap (IntKind.i64.wrap (s1.1 + s1.2))) 1))) a1).bind fun t7 => (((if (decide (t7 < 0)) then some ((IntKind.i64.wrap ((IntKind.i64.wrap (shR .u64 (IntKind.u64.wrap (IntKind.i64.wrap (s1.1 + s1.2))) 1)) + 1)), s1.2) else some (s1.1, (IntKind.i64.wrap (shR .u64 (IntKind.u64.wrap (IntKind.i64.wrap (s1.1 + s1.2))) 1)))) : Option (Int × Int)).bind fun x9 => some (Sum.inr (x9.1, x9.2)))) else none else some (Sum.inl (s1.1)))
def slices_BinarySearchFunc_dir_place_1.f (fu : Nat) (a0 : List S_dir_listed) (a1 : List UInt8) : Option (Int × Bool) := ((loopM (slices_BinarySearchFunc_dir_place_1.s0 fu a0 a1) fu (0, (List.length a0 : Int))).bind fun e2 => (if (decide (e2 < (List.length a0 : Int))) then if 0 ≤ e2 ∧ e2 < (List.length a0 : Int) then ((dir_place_1.f fu (ix a0 e2) a1).bind fun t14 => some (e2, (decide (t14 = 0)))) else none else some (e2, false)))
theorem slices_BinarySearchFunc_dir_place_1.sc (fu : Nat) (a0 : List S_dir_listed) (a1 : List UInt8) (r : Int × Bool) (h : slices_BinarySearchFunc_dir_place_1.f fu a0 a1 = some r) : SC Tryd.prog CT 110 [.v (.sl (.st .S_dir_listed)) (a0 : List S_dir_listed), vs a1, .fn 111 []] [] (.tup [vi .i64 r.1, vb r.2]) [] := by
 unfold slices_BinarySearchFunc_dir_place_1.f at h
 refine sq Tryd.func110 r (fun r => .tup [vi .i64 r.1, vb r.2]) (fun r => []) fun X => ?_
 refine bk h fun e2 l3 h => ?_
 refine t_cutx cok 0 (fun (e2 : Int) => ⟨[(0, .v (.sl (.st .S_dir_listed)) (a0 : List S_dir_listed)), (1, vs a1), (2, .fn 111 []), (8, vi .i64 (List.length a0 : Int)), (9, vi .i64 e2)], []⟩) e2 ?_ ?_
 ·skip
  have h4 := h
  refine t_loop cok (fun (s1 : Int × Int) => ⟨[(0, .v (.sl (.st .S_dir_listed)) (a0 : List S_dir_listed)), (1, vs a1), (2, .fn 111 []), (8, vi .i64 (List.length a0 : Int)), (9, vi .i64 s1.1), (10, vi .i64 s1.2)], []⟩) l3 (by kernel_rfl) (fun s1 x5 h => ?_)
  unfold slices_BinarySearchFunc_dir_place_1.s0 at h
  refine t_cond cok ?_
  refine bi h (fun c6 h => ?_) (fun c6 h => ?_)
  ·skip
   refine ⟨by decide, ?_⟩
   refine ag h fun h => ?_
   refine bk h fun t7 k8 h => ?_
   refine cl4 cok.g (dir_place_1.sc fu _ _ _ k8) (vi .i64 t7) [] 0 ?_
   refine bk h fun x9 j10 h => ?_
   refine t_cut cok (fun (x9 : Int × Int) => ⟨[(0, .v (.sl (.st .S_dir_listed)) (a0 : List S_dir_listed)), (1, vs a1), (2, .fn 111 []), (8, vi .i64 (List.length a0 : Int)), (9, vi .i64 x9.1), (10, vi .i64 x9.2)], []⟩) x9 ?_ ?_
   ·skip
    have h11 := h
    have h := j10
    refine t_cond cok ?_
    refine bi h (fun c12 h => ?_) (fun c12 h => ?_)
    ·skip
     exact ek h
    exact ek h
   exact lik h
  exact lpx h fun hy => ek (sj hy)
 refine t_reg cok ?_
 refine bi h (fun c13 h => ?_) (fun c13 h => ?_)
 ·skip
  refine ag h fun h => ?_
  refine bk h fun t14 k15 h => ?_
  refine cl4 cok.g (dir_place_1.sc fu _ _ _ k15) (vi .i64 t14) [] 0 ?_
  exact fk h
 exact fk h
def dir_place.f (fu : Nat) (a0 : List S_dir_listed) (a1 : List UInt8) : Option (Int × Bool) := ((slices_BinarySearchFunc_dir_place_1.f fu a0 a1).bind fun t1 => some (t1.1, t1.2))
theorem dir_place.sc (fu : Nat) (a0 : List S_dir_listed) (a1 : List UInt8) (r : Int × Bool) (h : dir_place.f fu a0 a1 = some r) : SC Tryd.prog CT 85 [.v (.sl (.st .S_dir_listed)) (a0 : List S_dir_listed), vs a1] [] (.tup [vi .i64 r.1, vb r.2]) [] := by
 unfold dir_place.f at h
 refine sq Tryd.func85 r (fun r => .tup [vi .i64 r.1, vb r.2]) (fun r => []) fun X => ?_
 refine bk h fun t1 k2 h => ?_
 refine cl4 cok.g (slices_BinarySearchFunc_dir_place_1.sc fu _ _ _ k2) (.tup [vi .i64 t1.1, vb t1.2]) [] 0 ?_
 exact fk h
def crc_Fits.f (fu : Nat) (a0 : Int) (a1 : List (List Int)) : Option Bool := ((crc_Sum.f fu a1).bind fun t1 => some ((decide (t1 = a0))))
theorem crc_Fits.sc (fu : Nat) (a0 : Int) (a1 : List (List Int)) (r : Bool) (h : crc_Fits.f fu a0 a1 = some r) : SC Tryd.prog CT 147 [vi .u32 a0, .v (.sl (.sl (.int .u8))) (a1 : List (List Int))] [] (vb r) [] := by
 unfold crc_Fits.f at h
 refine sq Tryd.func147 r (fun r => vb r) (fun r => []) fun X => ?_
 refine bk h fun t1 k2 h => ?_
 refine cl4 cok.g (crc_Sum.sc fu _ _ k2) (vi .u32 t1) [] 0 ?_
 exact fk h
def octet_there.f (fu : Nat) (a0 : List Int) (a1 : Int) (a2 : Int) : Option Bool := (if (decide (a1 ≥ 0)) then (if (decide (a2 ≥ 0)) then (if (decide (a2 ≤ (List.length a0 : Int))) then some ((decide (a1 ≤ (IntKind.i64.wrap ((List.length a0 : Int) - a2))))) else some (false)) else some (false)) else some (false))
theorem octet_there.sc (fu : Nat) (a0 : List Int) (a1 : Int) (a2 : Int) (r : Bool) (h : octet_there.f fu a0 a1 a2 = some r) : SC Tryd.prog CT 140 [.v (.sl (.int .u8)) (a0 : List Int), vi .i64 a1, vi .i64 a2] [] (vb r) [] := by
 unfold octet_there.f at h
 refine sq Tryd.func140 r (fun r => vb r) (fun r => []) fun X => ?_
 refine t_reg cok ?_
 refine bi h (fun c1 h => ?_) (fun c1 h => ?_)
 ·skip
  refine bi h (fun c2 h => ?_) (fun c2 h => ?_)
  ·skip
   refine bi h (fun c3 h => ?_) (fun c3 h => ?_)
   ·skip
    exact fk h
   exact fk h
  exact fk h
 exact fk h
def octet_Noughts.s0 (fu : Nat) (a0 : List Int) (a1 : Int) (a2 : Int) : Int → Option (Sum (Sum Bool Unit) Int) := fun s4 => (if (decide (s4 < (List.length (cut a0 a1 (IntKind.i64.wrap (a1 + a2))) : Int))) then if 0 ≤ s4 ∧ s4 < (List.length (cut a0 a1 (IntKind.i64.wrap (a1 + a2))) : Int) then (if (!decide ((ix (cut a0 a1 (IntKind.i64.wrap (a1 + a2))) s4) = 0)) then some (Sum.inl (Sum.inl (false))) else some (Sum.inr ((IntKind.i64.wrap (s4 + 1))))) else none else some (Sum.inl (Sum.inr ())))
def octet_Noughts.f (fu : Nat) (a0 : List Int) (a1 : Int) (a2 : Int) : Option Bool := ((octet_there.f fu a0 a1 a2).bind fun t1 => (if (!t1) then some (false) else if (0 : Int) ≤ a1 ∧ a1 ≤ (IntKind.i64.wrap (a1 + a2)) ∧ (IntKind.i64.wrap (a1 + a2)) ≤ (List.length a0 : Int) then ((loopM (octet_Noughts.s0 fu a0 a1 a2) fu (0)).bind fun e5 => match e5 with | Sum.inl p => some p | Sum.inr x7 => some (true)) else none))
theorem octet_Noughts.sc (fu : Nat) (a0 : List Int) (a1 : Int) (a2 : Int) (r : Bool) (h : octet_Noughts.f fu a0 a1 a2 = some r) : SC Tryd.prog CT 124 [.v (.sl (.int .u8)) (a0 : List Int), vi .i64 a1, vi .i64 a2] [] (vb r) [] := by
 unfold octet_Noughts.f at h
 refine sq Tryd.func124 r (fun r => vb r) (fun r => []) fun X => ?_
 refine bk h fun t1 k2 h => ?_
 refine cl4 cok.g (octet_there.sc fu _ _ _ _ k2) (vb t1) [] 0 ?_
 refine t_cond cok ?_
 refine bi h (fun c3 h => ?_) (fun c3 h => ?_)
 ·skip
  exact fk h
 refine ag h fun h => ?_
 refine bk h fun e5 l6 h => ?_
 refine t_cutxS cok 0 (fun (_x : Unit) => ⟨[], []⟩) e5 ?_ (fun x7 hy => ?_)
 ·skip
  have h8 := h
  refine t_loop cok (fun (s4 : Int) => ⟨[(19, .v (.sl (.int .u8)) ((cut a0 a1 (IntKind.i64.wrap (a1 + a2))) : List Int)), (20, vi .i64 (List.length (cut a0 a1 (IntKind.i64.wrap (a1 + a2))) : Int)), (21, vi .i64 s4)], []⟩) l6 (by kernel_rfl) (fun s4 x9 h => ?_)
  unfold octet_Noughts.s0 at h
  refine t_cond cok ?_
  refine bi h (fun c10 h => ?_) (fun c10 h => ?_)
  ·skip
   refine ag h fun h => ?_
   refine t_cond cok ?_
   refine bi h (fun c11 h => ?_) (fun c11 h => ?_)
   ·skip
    refine lpr h (fun hy => ?_)
    have h := h8
    rw [← hy] at h
    exact fk h
   exact lik h
  exact lpx h fun hy => esk (sj hy)
 subst hy
 exact fk h
def block_right.f (fu : Nat) (a0 : List Int) : Option Bool := (if (decide ((List.length a0 : Int) = 64)) then if (4 : Int) < (List.length a0 : Int) then (if (!decide ((ix a0 4) = 0)) then ((octet_Noughts.f fu a0 6 2).bind fun t3 => (if t3 then if (4 : Int) ≤ (List.length a0 : Int) then ((octet_Read.f fu (cut a0 0 4)).bind fun t6 => if (4 : Int) ≤ (List.length a0 : Int) then ((crc_Fits.f fu (IntKind.u32.wrap t6) [(cut a0 4 (List.length a0 : Int))]).bind fun t8 => some (t8)) else none) else none else some (false))) else some (false)) else none else some (false))
theorem block_right.sc (fu : Nat) (a0 : List Int) (r : Bool) (h : block_right.f fu a0 = some r) : SC Tryd.prog CT 138 [.v (.sl (.int .u8)) (a0 : List Int)] [] (vb r) [] := by
 unfold block_right.f at h
 refine sq Tryd.func138 r (fun r => vb r) (fun r => []) fun X => ?_
 refine t_draw cok mo [⟨0, false, [0], [], 0, []⟩, ⟨1, false, [3], [], 0, [0]⟩, ⟨2, false, [4], [], 0, [0, 1]⟩, ⟨3, false, [5], [], 0, [0, 1, 2]⟩, ⟨4, false, [0, 6], [], 0, cl 4⟩, ⟨5, false, [6, 7], [], 0, cl 5⟩, ⟨6, false, [6, 8], [], 0, cl 6⟩, ⟨7, false, [6, 9], [], 0, cl 7⟩, ⟨8, true, [6, 10], [], 0, cl 8⟩, ⟨9, false, [11], [], 0, cl 9⟩, ⟨10, false, [0, 12], [], 0, cl 10⟩, ⟨11, true, [12, 13], [], 0, cl 11⟩, ⟨12, true, [12, 14], [], 0, cl 12⟩, ⟨13, false, [15], [], 0, cl 13⟩, ⟨14, false, [0, 16], [], 0, cl 14⟩, ⟨15, false, [16, 17], [], 0, cl 15⟩, ⟨16, true, [16, 18], [], 0, cl 16⟩, ⟨17, false, [16, 19], [], 0, cl 17⟩, ⟨18, false, [0, 16], [], 0, cl 14⟩, ⟨19, false, [16, 21], [], 0, cl 14 ++ [18]⟩, ⟨20, true, [16, 22], [], 1, cl 14 ++ [18, 19]⟩, ⟨21, true, [16, 20, 23], [0], 0, cl 21⟩, ⟨22, true, [16, 24], [], 0, cl 22⟩, ⟨23, false, [25], [], 0, cl 23⟩] (by kernel_rfl) ?_
 refine bi h (fun c1 h => ?_) (fun c1 h => ?_)
 ·skip
  refine agL h (by decide) fun h => ?_
  refine bi h (fun c2 h => ?_) (fun c2 h => ?_)
  ·skip
   refine bk h fun t3 k4 h => ?_
   refine cl4 cok.g (octet_Noughts.sc fu _ _ _ _ k4) (vb t3) [] 0 ?_
   refine bi h (fun c5 h => ?_) (fun c5 h => ?_)
   ·skip
    refine agL h (by decide) fun h => ?_
    refine bk h fun t6 k7 h => ?_
    refine cl4 cok.g (octet_Read.sc fu _ _ k7) (vi .u64 t6) [] 0 ?_
    refine agL h (by decide) fun h => ?_
    refine bk h fun t8 k9 h => ?_
    refine cl4 cok.g (crc_Fits.sc fu _ _ _ k9) (vb t8) [] 1 ?_
    exact fk h
   exact fk h
  exact fk h
 exact fk h
def bytes_Clone.f (fu : Nat) (a0 : List Int) : Option (List Int) := if List.length a0 ≤ LIM then some a0 else none
theorem bytes_Clone.sc (fu : Nat) (a0 : List Int) (r : List Int) (h : bytes_Clone.f fu a0 = some r) : SC Tryd.prog CT 139 [.v (.sl (.int .u8)) (a0 : List Int)] [] (.sl 0 1 []) [.row (.int .u8) 5 (r : List Int)] := by
 unfold bytes_Clone.f at h
 obtain ⟨g, h⟩ := gs h
 refine sq Tryd.func139 r (fun r => .sl 0 1 []) (fun r => [.row (.int .u8) 5 (r : List Int)]) fun X => ?_
 refine t_nil cok rfl rfl rfl rfl rfl rfl rfl rfl (fun hb => ?_) ?_
 ·obtain rfl : a0 = [] := hb
  refine t_cond cok ?_
  exact fk h
 refine t_cond cok ?_
 have g : List.length ([] : List Int) + List.length a0 ≤ LIM := by simpa using g
 refine ⟨g, ?_⟩
 exact fk h
def block_Open.f (fu : Nat) (a0 : List Int) : Option (Int × Int × (List Int) × Bool) := ((block_right.f fu a0).bind fun t1 => (if (!t1) then some (0, 0, [], false) else if (4 : Int) < (List.length a0 : Int) then if (5 : Int) < (List.length a0 : Int) then if (8 : Int) ≤ (List.length a0 : Int) then ((bytes_Clone.f fu (cut a0 8 (List.length a0 : Int))).bind fun t4 => some ((IntKind.i64.wrap (ix a0 4)), (IntKind.i64.wrap (ix a0 5)), t4, true)) else none else none else none))
theorem block_Open.sc (fu : Nat) (a0 : List Int) (r : Int × Int × (List Int) × Bool) (h : block_Open.f fu a0 = some r) : SC Tryd.prog CT 123 [.v (.sl (.int .u8)) (a0 : List Int)] [] (.tup [vi .i64 r.1, vi .i64 r.2.1, .sl 0 1 [], vb r.2.2.2]) [.row (.int .u8) 5 (r.2.2.1 : List Int)] := by
 unfold block_Open.f at h
 refine sq Tryd.func123 r (fun r => .tup [vi .i64 r.1, vi .i64 r.2.1, .sl 0 1 [], vb r.2.2.2]) (fun r => [.row (.int .u8) 5 (r.2.2.1 : List Int)]) fun X => ?_
 refine bk h fun t1 k2 h => ?_
 refine cl4 cok.g (block_right.sc fu _ _ k2) (vb t1) [] 0 ?_
 refine t_cond cok ?_
 refine bi h (fun c3 h => ?_) (fun c3 h => ?_)
 ·skip
  exact fk h
 refine t_draw cok mo [⟨0, false, [0], [], 0, []⟩, ⟨1, false, [9], [], 0, [0]⟩, ⟨2, false, [10], [], 0, [0, 1]⟩, ⟨3, false, [11], [], 0, [0, 1, 2]⟩, ⟨4, false, [0], [], 0, []⟩, ⟨5, false, [13], [], 0, [4]⟩, ⟨6, false, [14], [], 0, [4, 5]⟩, ⟨7, false, [15], [], 0, [4, 5, 6]⟩, ⟨8, false, [0], [], 0, []⟩, ⟨9, false, [17], [], 0, [8]⟩, ⟨10, true, [18], [], 1, [8, 9]⟩, ⟨11, false, [12], [], 0, cl 4 ++ [8, 9, 10]⟩, ⟨12, false, [16], [], 0, cl 12⟩, ⟨13, false, [19], [], 0, cl 13⟩, ⟨14, false, [], [], 0, cl 14⟩] (by kernel_rfl) ?_
 refine agL h (by decide) fun h => ?_
 refine agL h (by decide) fun h => ?_
 refine agL h (by decide) fun h => ?_
 refine bk h fun t4 k5 h => ?_
 refine cl4 cok.g (bytes_Clone.sc fu _ _ k5) (.sl 0 1 []) [(0, .row (.int .u8) 5 (t4 : List Int))] 1 ?_
 exact fk h
def label_GetDir.s0 (fu : Nat) (t1 : Int × Int × (List Int) × Bool) : (Int × (List Int)) → Option (Sum (List Int) (Int × (List Int))) := fun s9 => (if (decide (s9.1 < t1.2.1)) then if (0 : Int) ≤ (IntKind.i64.wrap (2 * s9.1)) ∧ (IntKind.i64.wrap (2 * s9.1)) ≤ (IntKind.i64.wrap (2 * (IntKind.i64.wrap (s9.1 + 1)))) ∧ (IntKind.i64.wrap (2 * (IntKind.i64.wrap (s9.1 + 1)))) ≤ (List.length t1.2.2.1 : Int) then ((octet_Read.f fu (cut t1.2.2.1 (IntKind.i64.wrap (2 * s9.1)) (IntKind.i64.wrap (2 * (IntKind.i64.wrap (s9.1 + 1)))))).bind fun t15 => if List.length s9.2 + List.length [(IntKind.i64.wrap t15)] ≤ LIM then some (Sum.inr ((IntKind.i64.wrap (s9.1 + 1)), (s9.2 ++ [(IntKind.i64.wrap t15)]))) else none) else none else some (Sum.inl (s9.2)))
def label_GetDir.f (fu : Nat) (a0 : List Int) : Option (S_api_Dir × Bool) := ((block_Open.f fu a0).bind fun t1 => (if (!t1.2.2.2) then some ((⟨[]⟩ : S_api_Dir), false) else (if (!decide (t1.1 = 6)) then some ((⟨[]⟩ : S_api_Dir), false) else (if (decide (t1.2.1 > 16)) then some ((⟨[]⟩ : S_api_Dir), false) else ((octet_Noughts.f fu t1.2.2.1 (IntKind.i64.wrap (2 * t1.2.1)) (IntKind.i64.wrap ((List.length t1.2.2.1 : Int) - (IntKind.i64.wrap (2 * t1.2.1))))).bind fun t6 => (if (!t6) then some ((⟨[]⟩ : S_api_Dir), false) else ((loopM (label_GetDir.s0 fu t1) fu (0, ([] : List Int))).bind fun e10 => ((label_RightDir.f fu (⟨e10⟩ : S_api_Dir)).bind fun t17 => (if (!t17) then some ((⟨[]⟩ : S_api_Dir), false) else some ((⟨e10⟩ : S_api_Dir), true))))))))))
theorem label_GetDir.sc (fu : Nat) (a0 : List Int) (r : S_api_Dir × Bool) (h : label_GetDir.f fu a0 = some r) : SC Tryd.prog CT 104 [.v (.sl (.int .u8)) (a0 : List Int)] [] (.tup [.v (.st .S_api_Dir) (r.1 : S_api_Dir), vb r.2]) [] := by
 unfold label_GetDir.f at h
 refine sq Tryd.func104 r (fun r => .tup [.v (.st .S_api_Dir) (r.1 : S_api_Dir), vb r.2]) (fun r => []) fun X => ?_
 refine bk h fun t1 k2 h => ?_
 refine cl4 cok.g (block_Open.sc fu _ _ k2) (.tup [vi .i64 t1.1, vi .i64 t1.2.1, .sl 1 1 [], vb t1.2.2.2]) [(1, .row (.int .u8) 5 (t1.2.2.1 : List Int))] 2 ?_
 refine t_reg cok ?_
 refine bi h (fun c3 h => ?_) (fun c3 h => ?_)
 ·skip
  refine t_cond cok ?_
  exact fk h
 refine bi h (fun c4 h => ?_) (fun c4 h => ?_)
 ·skip
  refine t_cond cok ?_
  exact fk h
 refine bi h (fun c5 h => ?_) (fun c5 h => ?_)
 ·skip
  refine t_cond cok ?_
  exact fk h
 refine bk h fun t6 k7 h => ?_
 refine cl4 cok.g (octet_Noughts.sc fu _ _ _ _ k7) (vb t6) [] 2 ?_
 refine t_cond cok ?_
 refine bi h (fun c8 h => ?_) (fun c8 h => ?_)
 ·skip
  exact fk h
 refine bk h fun e10 l11 h => ?_
 refine t_cutx cok 0 (fun (e10 : (List Int)) => ⟨[(2, .ptr 0 0), (8, .ptr 1 0)], [.box 163 (.agg [.nils]), .box 163 (.agg [.sl 2 1 []]), .row (.int .i64) 3 (e10 : List Int)]⟩) e10 ?_ ?_
 ·skip
  have h12 := h
  refine t_loop cok (fun (s9 : Int × (List Int)) => ⟨[(2, .ptr 0 0), (6, .sl 1 1 []), (8, .ptr 2 0), (40, vi .i64 t1.2.1), (41, vi .i64 s9.1)], [.box 163 (.agg [.nils]), .row (.int .u8) 5 (t1.2.2.1 : List Int), .box 163 (.agg [.sl 3 1 []]), .row (.int .i64) 3 (s9.2 : List Int)]⟩) l11 (by kernel_rfl) (fun s9 x13 h => ?_)
  unfold label_GetDir.s0 at h
  refine t_cond cok ?_
  refine bi h (fun c14 h => ?_) (fun c14 h => ?_)
  ·skip
   refine t_draw cok mo [⟨0, false, [8], [], 0, []⟩, ⟨1, false, [44], [2], 0, [0]⟩, ⟨2, false, [6], [], 0, []⟩, ⟨3, false, [9], [], 0, []⟩, ⟨4, false, [47], [], 0, [3]⟩, ⟨5, false, [9], [], 0, []⟩, ⟨6, false, [49], [], 0, [5]⟩, ⟨7, false, [50], [], 0, [5, 6]⟩, ⟨8, false, [46, 48, 51], [1], 0, [2, 3, 4, 5, 6, 7]⟩, ⟨9, true, [52], [1], 0, [2, 3, 4, 5, 6, 7, 8]⟩, ⟨10, false, [53], [], 0, [2, 3, 4, 5, 6, 7, 8, 9]⟩, ⟨11, true, [54], [], 1, [2, 3, 4, 5, 6, 7, 8, 9, 10]⟩, ⟨12, true, [45, 55], [3, 4], 1, cl 12⟩, ⟨13, false, [8], [], 0, cl 13⟩, ⟨14, true, [56, 57], [2, 5], 0, cl 14⟩] (by kernel_rfl) ?_
   refine ag h fun h => ?_
   refine bk h fun t15 k16 h => ?_
   refine cl4 cok.g (octet_Read.sc fu _ _ k16) (vi .u64 t15) [] 4 ?_
   refine ag h fun h => ?_
   exact lik h
  exact lpx h fun hy => ek (sj hy)
 refine bk h fun t17 k18 h => ?_
 refine cl4 cok.g (label_RightDir.sc fu _ _ k18) (vb t17) [] 3 ?_
 refine t_cond cok ?_
 refine bi h (fun c19 h => ?_) (fun c19 h => ?_)
 ·skip
  exact fk h
 exact fk h
def name_spans.f (fu : Nat) : Option (Arr 6 S_name_span) := some ((Arr.set (Arr.set (Arr.set (Arr.set (Arr.set (Arr.set (Arr.rep 6 (⟨(0 : Int), (0 : Int)⟩ : S_name_span)) 0 (⟨97, 122⟩ : S_name_span)) 1 (⟨65, 90⟩ : S_name_span)) 2 (⟨48, 57⟩ : S_name_span)) 3 (⟨45, 45⟩ : S_name_span)) 4 (⟨95, 95⟩ : S_name_span)) 5 (⟨161, 65519⟩ : S_name_span)))
theorem name_spans.sc (fu : Nat) (r : (Arr 6 S_name_span)) (h : name_spans.f fu = some r) : SC Tryd.prog CT 150 [] [] (.v (.arr 6 (.st .S_name_span)) (r : Arr 6 S_name_span)) [] := by
 unfold name_spans.f at h
 refine sq Tryd.func150 r (fun r => .v (.arr 6 (.st .S_name_span)) (r : Arr 6 S_name_span)) (fun r => []) fun X => ?_
 exact fk h
def name_Of.s0 (fu : Nat) (a0 : Int) (t1 : (Arr 6 S_name_span)) : Int → Option (Sum (Sum Bool Unit) Int) := fun s3 => (if (decide (s3 < 6)) then if 0 ≤ s3 ∧ s3 < 6 then (if (decide (a0 ≥ ((Arr.get t1 s3).first))) then (if (decide (a0 ≤ ((Arr.get t1 s3).last))) then some (Sum.inl (Sum.inl (true))) else some (Sum.inr ((IntKind.i64.wrap (s3 + 1))))) else some (Sum.inr ((IntKind.i64.wrap (s3 + 1))))) else none else some (Sum.inl (Sum.inr ())))
def name_Of.f (fu : Nat) (a0 : Int) : Option Bool := ((name_spans.f fu).bind fun t1 => ((loopM (name_Of.s0 fu a0 t1) fu (0)).bind fun e4 => match e4 with | Sum.inl p => some p | Sum.inr x6 => some (false)))
theorem name_Of.sc (fu : Nat) (a0 : Int) (r : Bool) (h : name_Of.f fu a0 = some r) : SC Tryd.prog CT 143 [vi .i32 a0] [] (vb r) [] := by
 unfold name_Of.f at h
 refine sq Tryd.func143 r (fun r => vb r) (fun r => []) fun X => ?_
 refine bk h fun t1 k2 h => ?_
 refine cl4 cok.g (name_spans.sc fu _ k2) (.v (.arr 6 (.st .S_name_span)) (t1 : Arr 6 S_name_span)) [] 0 ?_
 refine bk h fun e4 l5 h => ?_
 refine t_cutxS cok 0 (fun (_x : Unit) => ⟨[], []⟩) e4 ?_ (fun x6 hy => ?_)
 ·skip
  have h7 := h
  refine t_loop cok (fun (s3 : Int) => ⟨[(0, vi .i32 a0), (5, .v (.arr 6 (.st .S_name_span)) (t1 : Arr 6 S_name_span)), (6, vi .i64 s3)], []⟩) l5 (by kernel_rfl) (fun s3 x8 h => ?_)
  unfold name_Of.s0 at h
  refine t_cond cok ?_
  refine bi h (fun c9 h => ?_) (fun c9 h => ?_)
  ·skip
   refine ag h fun h => ?_
   refine t_reg cok ?_
   refine bi h (fun c10 h => ?_) (fun c10 h => ?_)
   ·skip
    refine t_cond cok ?_
    refine bi h (fun c11 h => ?_) (fun c11 h => ?_)
    ·skip
     refine lpr h (fun hy => ?_)
     have h := h7
     rw [← hy] at h
     exact fk h
    exact lik h
   refine t_cond cok ?_
   exact lik h
  exact lpx h fun hy => esk (sj hy)
 subst hy
 exact fk h
def name_Right.s0 (fu : Nat) (a0 : List UInt8) : (Int × Int) → Option (Sum (Sum Bool (Int × Int)) (Int × Int)) := fun s1 => (if (decide (s1.2 < (List.length a0 : Int))) then (if (decide ((IntKind.i64.wrap (s1.1 + 1)) > 8)) then some (Sum.inl (Sum.inl (false))) else ((name_Of.f fu (runeAt a0 s1.2)).bind fun t9 => (if (!t9) then some (Sum.inl (Sum.inl (false))) else some (Sum.inr ((IntKind.i64.wrap (s1.1 + 1)), (s1.2 + wideAt a0 s1.2)))))) else some (Sum.inl (Sum.inr (s1.1, s1.2))))
def name_Right.f (fu : Nat) (a0 : List UInt8) : Option Bool := ((loopM (name_Right.s0 fu a0) fu (0, 0)).bind fun e2 => match e2 with | Sum.inl p => some p | Sum.inr x4 => some ((decide (x4.1 > 0))))
theorem name_Right.sc (fu : Nat) (a0 : List UInt8) (r : Bool) (h : name_Right.f fu a0 = some r) : SC Tryd.prog CT 129 [vs a0] [] (vb r) [] := by
 unfold name_Right.f at h
 refine sq Tryd.func129 r (fun r => vb r) (fun r => []) fun X => ?_
 refine bk h fun e2 l3 h => ?_
 refine t_cutxS cok 0 (fun (x4 : Int × Int) => ⟨[(3, vi .i64 x4.1)], []⟩) e2 ?_ (fun x4 hy => ?_)
 ·skip
  have h5 := h
  refine t_loop cok (fun (s1 : Int × Int) => ⟨[(3, vi .i64 s1.1), (7, .ptr 0 0)], [.itr (a0) (s1.2)]⟩) l3 (by kernel_rfl) (fun s1 x6 h => ?_)
  unfold name_Right.s0 at h
  refine bi h (fun c7 h => ?_) (fun c7 h => ?_)
  ·skip
   refine t_cond cok ?_
   refine t_reg cok ?_
   refine bi h (fun c8 h => ?_) (fun c8 h => ?_)
   ·skip
    refine t_cond cok ?_
    refine lpr h (fun hy => ?_)
    have h := h5
    rw [← hy] at h
    exact fk h
   refine bk h fun t9 k10 h => ?_
   refine cl4 cok.g (name_Of.sc fu _ _ k10) (vb t9) [] 1 ?_
   refine t_cond cok ?_
   refine bi h (fun c11 h => ?_) (fun c11 h => ?_)
   ·skip
    refine lpr h (fun hy => ?_)
    have h := h5
    rw [← hy] at h
    exact fk h
   exact lik h
  refine t_cond cok ?_
  exact lpx h fun hy => esk (sj hy)
 subst hy
 exact fk h
def label_RightQueue.s0 (fu : Nat) (a0 : S_api_Queue) : Int → Option (Sum (Sum Bool Unit) Int) := fun s6 => (if (decide (s6 < 12)) then if 0 ≤ s6 ∧ s6 < 12 then if 0 ≤ s6 then (if (decide ((bAnd .i64 (shR .i64 a0.Count s6) 1) = 0)) then (if (!decide ((Arr.get a0.Roots s6) = 0)) then some (Sum.inl (Sum.inl (false))) else if 0 ≤ s6 then (if (decide ((bAnd .i64 (shR .i64 a0.Count s6) 1) = 1)) then ((label_blockNumber.f fu (Arr.get a0.Roots s6)).bind fun t16 => (if (!t16) then some (Sum.inl (Sum.inl (false))) else some (Sum.inr ((IntKind.i64.wrap (s6 + 1)))))) else some (Sum.inr ((IntKind.i64.wrap (s6 + 1))))) else none) else if 0 ≤ s6 then (if (decide ((bAnd .i64 (shR .i64 a0.Count s6) 1) = 1)) then ((label_blockNumber.f fu (Arr.get a0.Roots s6)).bind fun t20 => (if (!t20) then some (Sum.inl (Sum.inl (false))) else some (Sum.inr ((IntKind.i64.wrap (s6 + 1)))))) else some (Sum.inr ((IntKind.i64.wrap (s6 + 1))))) else none) else none else none else some (Sum.inl (Sum.inr ())))
def label_RightQueue.f (fu : Nat) (a0 : S_api_Queue) : Option Bool := ((name_Right.f fu a0.Name).bind fun t1 => (if (!t1) then some (false) else (if (decide (a0.Count < 0)) then some (false) else (if (decide (a0.Count ≥ 4096)) then some (false) else ((loopM (label_RightQueue.s0 fu a0) fu (0)).bind fun e7 => match e7 with | Sum.inl p => some p | Sum.inr x9 => some (true))))))
theorem label_RightQueue.sc (fu : Nat) (a0 : S_api_Queue) (r : Bool) (h : label_RightQueue.f fu a0 = some r) : SC Tryd.prog CT 107 [.v (.st .S_api_Queue) (a0 : S_api_Queue)] [] (vb r) [] := by
 unfold label_RightQueue.f at h
 refine sq Tryd.func107 r (fun r => vb r) (fun r => []) fun X => ?_
 refine t_reg cok ?_
 refine bk h fun t1 k2 h => ?_
 refine cl4 cok.g (name_Right.sc fu _ _ k2) (vb t1) [] 1 ?_
 refine bi h (fun c3 h => ?_) (fun c3 h => ?_)
 ·skip
  refine t_cond cok ?_
  exact fk h
 refine bi h (fun c4 h => ?_) (fun c4 h => ?_)
 ·skip
  refine t_cond cok ?_
  exact fk h
 refine t_cond cok ?_
 refine bi h (fun c5 h => ?_) (fun c5 h => ?_)
 ·skip
  exact fk h
 refine bk h fun e7 l8 h => ?_
 refine t_cutxS cok 0 (fun (_x : Unit) => ⟨[], []⟩) e7 ?_ (fun x9 hy => ?_)
 ·skip
  have h10 := h
  refine t_loop cok (fun (s6 : Int) => ⟨[(1, .ptr 0 0), (20, .v (.arr 12 (.int .i64)) (a0.Roots : Arr 12 Int)), (21, vi .i64 s6)], [.box 95 (.v (.st .S_api_Queue) (a0 : S_api_Queue))]⟩) l8 (by kernel_rfl) (fun s6 x11 h => ?_)
  unfold label_RightQueue.s0 at h
  refine t_cond cok ?_
  refine bi h (fun c12 h => ?_) (fun c12 h => ?_)
  ·skip
   refine ag h fun h => ?_
   refine t_reg cok ?_
   refine ag h fun h => ?_
   refine bi h (fun c13 h => ?_) (fun c13 h => ?_)
   ·skip
    refine bi h (fun c14 h => ?_) (fun c14 h => ?_)
    ·skip
     refine t_cond cok ?_
     refine lpr h (fun hy => ?_)
     have h := h10
     rw [← hy] at h
     exact fk h
    refine ag h fun h => ?_
    refine bi h (fun c15 h => ?_) (fun c15 h => ?_)
    ·skip
     refine bk h fun t16 k17 h => ?_
     refine cl4 cok.g (label_blockNumber.sc fu _ _ k17) (vb t16) [] 1 ?_
     refine t_cond cok ?_
     refine bi h (fun c18 h => ?_) (fun c18 h => ?_)
     ·skip
      refine lpr h (fun hy => ?_)
      have h := h10
      rw [← hy] at h
      exact fk h
     exact lik h
    refine t_cond cok ?_
    exact lik h
   refine ag h fun h => ?_
   refine bi h (fun c19 h => ?_) (fun c19 h => ?_)
   ·skip
    refine bk h fun t20 k21 h => ?_
    refine cl4 cok.g (label_blockNumber.sc fu _ _ k21) (vb t20) [] 1 ?_
    refine t_cond cok ?_
    refine bi h (fun c22 h => ?_) (fun c22 h => ?_)
    ·skip
     refine lpr h (fun hy => ?_)
     have h := h10
     rw [← hy] at h
     exact fk h
    exact lik h
   refine t_cond cok ?_
   exact lik h
  exact lpx h fun hy => esk (sj hy)
 subst hy
 exact fk h
def label_GetQueue.s0 (fu : Nat) (t1 : Int × Int × (List Int) × Bool) : (Int × S_api_Queue) → Option (Sum S_api_Queue (Int × S_api_Queue)) := fun s11 => (if (decide (s11.1 < 12)) then if (0 : Int) ≤ (IntKind.i64.wrap (4 + (IntKind.i64.wrap (2 * s11.1)))) ∧ (IntKind.i64.wrap (4 + (IntKind.i64.wrap (2 * s11.1)))) ≤ (IntKind.i64.wrap ((IntKind.i64.wrap (4 + (IntKind.i64.wrap (2 * s11.1)))) + 2)) ∧ (IntKind.i64.wrap ((IntKind.i64.wrap (4 + (IntKind.i64.wrap (2 * s11.1)))) + 2)) ≤ (List.length t1.2.2.1 : Int) then ((octet_Read.f fu (cut t1.2.2.1 (IntKind.i64.wrap (4 + (IntKind.i64.wrap (2 * s11.1)))) (IntKind.i64.wrap ((IntKind.i64.wrap (4 + (IntKind.i64.wrap (2 * s11.1)))) + 2)))).bind fun t17 => if 0 ≤ s11.1 ∧ s11.1 < 12 then some (Sum.inr ((IntKind.i64.wrap (s11.1 + 1)), (⟨s11.2.Name, s11.2.Count, (Arr.set s11.2.Roots s11.1 (IntKind.i64.wrap t17))⟩ : S_api_Queue))) else none) else none else some (Sum.inl (s11.2)))
def label_GetQueue.f (fu : Nat) (a0 : List Int) : Option (S_api_Queue × Bool) := ((block_Open.f fu a0).bind fun t1 => (if (!t1.2.2.2) then some ((⟨[], (0 : Int), (Arr.rep 12 (0 : Int))⟩ : S_api_Queue), false) else (if (!decide (t1.1 = 5)) then some ((⟨[], (0 : Int), (Arr.rep 12 (0 : Int))⟩ : S_api_Queue), false) else (if (decide (t1.2.1 > 24)) then some ((⟨[], (0 : Int), (Arr.rep 12 (0 : Int))⟩ : S_api_Queue), false) else ((octet_Noughts.f fu t1.2.2.1 (IntKind.i64.wrap (28 + t1.2.1)) (IntKind.i64.wrap ((IntKind.i64.wrap ((List.length t1.2.2.1 : Int) - 28)) - t1.2.1))).bind fun t6 => (if (!t6) then some ((⟨[], (0 : Int), (Arr.rep 12 (0 : Int))⟩ : S_api_Queue), false) else if (0 : Int) ≤ 28 ∧ 28 ≤ (IntKind.i64.wrap (28 + t1.2.1)) ∧ (IntKind.i64.wrap (28 + t1.2.1)) ≤ (List.length t1.2.2.1 : Int) then if (4 : Int) ≤ (List.length t1.2.2.1 : Int) then ((octet_Read.f fu (cut t1.2.2.1 0 4)).bind fun t9 => ((loopM (label_GetQueue.s0 fu t1) fu (0, (⟨(List.map toB (cut t1.2.2.1 28 (IntKind.i64.wrap (28 + t1.2.1)))), (IntKind.i64.wrap t9), (Arr.rep 12 (0 : Int))⟩ : S_api_Queue))).bind fun e12 => ((label_RightQueue.f fu e12).bind fun t19 => (if (!t19) then some ((⟨[], (0 : Int), (Arr.rep 12 (0 : Int))⟩ : S_api_Queue), false) else some (e12, true))))) else none else none))))))
theorem label_GetQueue.sc (fu : Nat) (a0 : List Int) (r : S_api_Queue × Bool) (h : label_GetQueue.f fu a0 = some r) : SC Tryd.prog CT 105 [.v (.sl (.int .u8)) (a0 : List Int)] [] (.tup [.v (.st .S_api_Queue) (r.1 : S_api_Queue), vb r.2]) [] := by
 unfold label_GetQueue.f at h
 refine sq Tryd.func105 r (fun r => .tup [.v (.st .S_api_Queue) (r.1 : S_api_Queue), vb r.2]) (fun r => []) fun X => ?_
 refine bk h fun t1 k2 h => ?_
 refine cl4 cok.g (block_Open.sc fu _ _ k2) (.tup [vi .i64 t1.1, vi .i64 t1.2.1, .sl 1 1 [], vb t1.2.2.2]) [(1, .row (.int .u8) 5 (t1.2.2.1 : List Int))] 2 ?_
 refine t_reg cok ?_
 refine bi h (fun c3 h => ?_) (fun c3 h => ?_)
 ·skip
  refine t_cond cok ?_
  exact fk h
 refine bi h (fun c4 h => ?_) (fun c4 h => ?_)
 ·skip
  refine t_cond cok ?_
  exact fk h
 refine bi h (fun c5 h => ?_) (fun c5 h => ?_)
 ·skip
  refine t_cond cok ?_
  exact fk h
 refine bk h fun t6 k7 h => ?_
 refine cl4 cok.g (octet_Noughts.sc fu _ _ _ _ k7) (vb t6) [] 2 ?_
 refine t_cond cok ?_
 refine bi h (fun c8 h => ?_) (fun c8 h => ?_)
 ·skip
  exact fk h
 refine t_emb cok (fun (_x : Unit) => ⟨[(2, .ptr 0 0), (5, vi .i64 t1.2.1), (6, .v (.sl (.int .u8)) (t1.2.2.1 : List Int))], [.box 95 (.v (.st .S_api_Queue) ((⟨[], (0 : Int), (Arr.rep 12 (0 : Int))⟩ : S_api_Queue) : S_api_Queue))]⟩) () (by kernel_rfl) ?_
 refine t_draw cok mo [⟨0, false, [6], [], 0, []⟩, ⟨1, false, [5], [], 0, []⟩, ⟨2, false, [42], [], 0, [1]⟩, ⟨3, false, [41, 43], [], 0, [0, 1, 2]⟩, ⟨4, false, [44], [], 0, cl 4⟩, ⟨5, false, [6], [], 0, []⟩, ⟨6, false, [46], [], 0, [5]⟩, ⟨7, true, [47], [], 0, [5, 6]⟩, ⟨8, false, [48], [], 0, [5, 6, 7]⟩, ⟨9, false, [45, 49], [], 0, cl 9⟩, ⟨10, true, [], [], 1, []⟩, ⟨11, true, [8, 50], [1], 0, cl 11⟩] (by kernel_rfl) ?_
 refine ag h fun h => ?_
 refine agL h (by decide) fun h => ?_
 refine bk h fun t9 k10 h => ?_
 refine cl4 cok.g (octet_Read.sc fu _ _ k10) (vi .u64 t9) [] 1 ?_
 refine bk h fun e12 l13 h => ?_
 refine t_cutx cok 0 (fun (e12 : S_api_Queue) => ⟨[(2, .ptr 0 0), (8, .ptr 1 0)], [.box 95 (.v (.st .S_api_Queue) ((⟨[], (0 : Int), (Arr.rep 12 (0 : Int))⟩ : S_api_Queue) : S_api_Queue)), .box 95 (.v (.st .S_api_Queue) (e12 : S_api_Queue))]⟩) e12 ?_ ?_
 ·skip
  have h14 := h
  refine t_loop cok (fun (s11 : Int × S_api_Queue) => ⟨[(2, .ptr 0 0), (6, .v (.sl (.int .u8)) (t1.2.2.1 : List Int)), (8, .ptr 1 0), (51, vi .i64 s11.1)], [.box 95 (.v (.st .S_api_Queue) ((⟨[], (0 : Int), (Arr.rep 12 (0 : Int))⟩ : S_api_Queue) : S_api_Queue)), .box 95 (.v (.st .S_api_Queue) (s11.2 : S_api_Queue))]⟩) l13 (by kernel_rfl) (fun s11 x15 h => ?_)
  unfold label_GetQueue.s0 at h
  refine t_cond cok ?_
  refine bi h (fun c16 h => ?_) (fun c16 h => ?_)
  ·skip
   refine ag h fun h => ?_
   refine bk h fun t17 k18 h => ?_
   refine cl4 cok.g (octet_Read.sc fu _ _ k18) (vi .u64 t17) [] 2 ?_
   refine ag h fun h => ?_
   exact lik h
  exact lpx h fun hy => ek (sj hy)
 refine bk h fun t19 k20 h => ?_
 refine cl4 cok.g (label_RightQueue.sc fu _ _ k20) (vb t19) [] 2 ?_
 refine t_cond cok ?_
 refine bi h (fun c21 h => ?_) (fun c21 h => ?_)
 ·skip
  exact fk h
 exact fk h
def octet_Octets.s0 (fu : Nat) (a0 : List Int) : ((List Int) × Int) → Option (Sum (List Int) ((List Int) × Int)) := fun s1 => (if (decide (s1.2 < (List.length a0 : Int))) then if 0 ≤ s1.2 ∧ s1.2 < (List.length a0 : Int) then ((octet_Lay.f fu (ix a0 s1.2) 8).bind fun t7 => if List.length s1.1 + List.length t7 ≤ LIM then some (Sum.inr ((s1.1 ++ t7), (IntKind.i64.wrap (s1.2 + 1)))) else none) else none else some (Sum.inl (s1.1)))
def octet_Octets.f (fu : Nat) (a0 : List Int) : Option (List Int) := ((loopM (octet_Octets.s0 fu a0) fu (([] : List Int), 0)).bind fun e2 => some (e2))
theorem octet_Octets.sc (fu : Nat) (a0 : List Int) (r : (List Int)) (h : octet_Octets.f fu a0 = some r) : SC Tryd.prog CT 96 [.v (.sl (.int .u64)) (a0 : List Int)] [] (.sl 0 1 []) [.row (.int .u8) 5 (r : List Int)] := by
 unfold octet_Octets.f at h
 refine sq Tryd.func96 r (fun r => .sl 0 1 []) (fun r => [.row (.int .u8) 5 (r : List Int)]) fun X => ?_
 refine bk h fun e2 l3 h => ?_
 refine t_cutx cok 0 (fun (e2 : (List Int)) => ⟨[(3, .sl 0 1 [])], [.row (.int .u8) 5 (e2 : List Int)]⟩) e2 ?_ ?_
 ·skip
  have h4 := h
  refine t_loop cok (fun (s1 : (List Int) × Int) => ⟨[(3, .sl 0 1 []), (6, .v (.sl (.int .u64)) (a0 : List Int)), (7, vi .i64 (List.length a0 : Int)), (8, vi .i64 s1.2)], [.row (.int .u8) 5 (s1.1 : List Int)]⟩) l3 (by kernel_rfl) (fun s1 x5 h => ?_)
  unfold octet_Octets.s0 at h
  refine t_cond cok ?_
  refine bi h (fun c6 h => ?_) (fun c6 h => ?_)
  ·skip
   refine ag h fun h => ?_
   refine bk h fun t7 k8 h => ?_
   refine cl4 cok.g (octet_Lay.sc fu _ _ _ k8) (.sl 1 1 []) [(1, .row (.int .u8) 5 (t7 : List Int))] 2 ?_
   refine ag h fun h => ?_
   exact lik h
  exact lpx h fun hy => ek (sj hy)
 exact fk h
def pmem_Device_Load.f (fu : Nat) (a0 : S_pmem_Device) (a1 : Int) : Option (Int × Int) := ((pmem_Device_may.f fu a0 a1 (List.length a0.cells : Int)).bind fun t1 => (if (!decide (t1 = 0)) then some (0, t1) else if 0 ≤ a1 ∧ a1 < (List.length a0.cells : Int) then some ((ix a0.cells a1).stored, 0) else none))
theorem pmem_Device_Load.sc (fu : Nat) (a0 : S_pmem_Device) (a1 : Int) (r : Int × Int) (h : pmem_Device_Load.f fu a0 a1 = some r) : SC Tryd.prog CT 95 [.ptr 0 0, vi .i64 a1] [.box 105 (.agg [.sl 1 4 [], .agg [.sl 2 1 [], vi .i64 a0.plan.at_], vb a0.off, vb a0.armed, vi .i64 a0.left, vi .i64 a0.steps]), .row (.st .S_pmem_cell) 125 (a0.cells : List S_pmem_cell), .row (.int .i64) 3 (a0.plan.list : List Int)] (.tup [vi .u64 r.1, vi .i64 r.2]) [.box 105 (.agg [.sl 1 4 [], .agg [.sl 2 1 [], vi .i64 a0.plan.at_], vb a0.off, vb a0.armed, vi .i64 a0.left, vi .i64 a0.steps]), .row (.st .S_pmem_cell) 125 (a0.cells : List S_pmem_cell), .row (.int .i64) 3 (a0.plan.list : List Int)] := by
 unfold pmem_Device_Load.f at h
 refine sq Tryd.func95 r (fun r => .tup [vi .u64 r.1, vi .i64 r.2]) (fun r => [.box 105 (.agg [.sl 1 4 [], .agg [.sl 2 1 [], vi .i64 a0.plan.at_], vb a0.off, vb a0.armed, vi .i64 a0.left, vi .i64 a0.steps]), .row (.st .S_pmem_cell) 125 (a0.cells : List S_pmem_cell), .row (.int .i64) 3 (a0.plan.list : List Int)]) fun X => ?_
 refine bk h fun t1 k2 h => ?_
 refine cl4 cok.g (pmem_Device_may.sc fu _ _ _ _ k2) (vi .i64 t1) [(0, .box 105 (.agg [.sl 1 4 [], .agg [.sl 2 1 [], vi .i64 a0.plan.at_], vb a0.off, vb a0.armed, vi .i64 a0.left, vi .i64 a0.steps])), (1, .row (.st .S_pmem_cell) 125 (a0.cells : List S_pmem_cell)), (2, .row (.int .i64) 3 (a0.plan.list : List Int))] 6 ?_
 refine t_cond cok ?_
 refine bi h (fun c3 h => ?_) (fun c3 h => ?_)
 ·skip
  exact fk h
 refine ag h fun h => ?_
 exact fk h
def press_Read.s0 (fu : Nat) (a0 : S_pmem_Device) (a1 : Int) : (Int × (Arr 8 Int)) → Option (Sum (Sum ((List Int) × Int) (Arr 8 Int)) (Int × (Arr 8 Int))) := fun s4 => (if (decide (s4.1 < 8)) then ((pmem_Device_Load.f fu a0 (IntKind.i64.wrap ((IntKind.i64.wrap (a1 * 8)) + s4.1))).bind fun t11 => (if (!decide (t11.2 = 0)) then some (Sum.inl (Sum.inl ([], t11.2))) else if 0 ≤ s4.1 ∧ s4.1 < 8 then some (Sum.inr ((IntKind.i64.wrap (s4.1 + 1)), (Arr.set s4.2 s4.1 t11.1))) else none)) else some (Sum.inl (Sum.inr (s4.2))))
def press_Read.f (fu : Nat) (a0 : S_pmem_Device) (a1 : Int) : Option ((List Int) × Int) := ((press_may.f fu a0 a1).bind fun t1 => (if (!decide (t1 = 0)) then some ([], t1) else ((loopM (press_Read.s0 fu a0 a1) fu (0, (Arr.rep 8 (0 : Int)))).bind fun e5 => match e5 with | Sum.inl p => some p | Sum.inr x7 => ((octet_Octets.f fu (Arr.l x7)).bind fun t14 => some (t14, 0)))))
theorem press_Read.sc (fu : Nat) (a0 : S_pmem_Device) (a1 : Int) (r : (List Int) × Int) (h : press_Read.f fu a0 a1 = some r) : SC Tryd.prog CT 63 [.ptr 0 0, vi .i64 a1] [.box 105 (.agg [.sl 1 4 [], .agg [.sl 2 1 [], vi .i64 a0.plan.at_], vb a0.off, vb a0.armed, vi .i64 a0.left, vi .i64 a0.steps]), .row (.st .S_pmem_cell) 125 (a0.cells : List S_pmem_cell), .row (.int .i64) 3 (a0.plan.list : List Int)] (.tup [.sl 3 1 [], vi .i64 r.2]) [.box 105 (.agg [.sl 1 4 [], .agg [.sl 2 1 [], vi .i64 a0.plan.at_], vb a0.off, vb a0.armed, vi .i64 a0.left, vi .i64 a0.steps]), .row (.st .S_pmem_cell) 125 (a0.cells : List S_pmem_cell), .row (.int .i64) 3 (a0.plan.list : List Int), .row (.int .u8) 5 (r.1 : List Int)] := by
 unfold press_Read.f at h
 refine sq Tryd.func63 r (fun r => .tup [.sl 3 1 [], vi .i64 r.2]) (fun r => [.box 105 (.agg [.sl 1 4 [], .agg [.sl 2 1 [], vi .i64 a0.plan.at_], vb a0.off, vb a0.armed, vi .i64 a0.left, vi .i64 a0.steps]), .row (.st .S_pmem_cell) 125 (a0.cells : List S_pmem_cell), .row (.int .i64) 3 (a0.plan.list : List Int), .row (.int .u8) 5 (r.1 : List Int)]) fun X => ?_
 refine bk h fun t1 k2 h => ?_
 refine cl4 cok.g (press_may.sc fu _ _ _ k2) (vi .i64 t1) [(0, .box 105 (.agg [.sl 1 4 [], .agg [.sl 2 1 [], vi .i64 a0.plan.at_], vb a0.off, vb a0.armed, vi .i64 a0.left, vi .i64 a0.steps])), (1, .row (.st .S_pmem_cell) 125 (a0.cells : List S_pmem_cell)), (2, .row (.int .i64) 3 (a0.plan.list : List Int))] 6 ?_
 refine t_cond cok ?_
 refine bi h (fun c3 h => ?_) (fun c3 h => ?_)
 ·skip
  exact fk h
 refine bk h fun e5 l6 h => ?_
 refine t_cutxS cok 0 (fun (x7 : (Arr 8 Int)) => ⟨[(7, .ptr 3 0)], [.box 105 (.agg [.sl 1 4 [], .agg [.sl 2 1 [], vi .i64 a0.plan.at_], vb a0.off, vb a0.armed, vi .i64 a0.left, vi .i64 a0.steps]), .row (.st .S_pmem_cell) 125 (a0.cells : List S_pmem_cell), .row (.int .i64) 3 (a0.plan.list : List Int), .box 153 (.v (.arr 8 (.int .u64)) (x7 : Arr 8 Int))]⟩) e5 ?_ (fun x7 hy => ?_)
 ·skip
  have h8 := h
  refine t_loop cok (fun (s4 : Int × (Arr 8 Int)) => ⟨[(0, .ptr 0 0), (1, vi .i64 a1), (7, .ptr 3 0), (17, vi .i64 s4.1)], [.box 105 (.agg [.sl 1 4 [], .agg [.sl 2 1 [], vi .i64 a0.plan.at_], vb a0.off, vb a0.armed, vi .i64 a0.left, vi .i64 a0.steps]), .row (.st .S_pmem_cell) 125 (a0.cells : List S_pmem_cell), .row (.int .i64) 3 (a0.plan.list : List Int), .box 153 (.v (.arr 8 (.int .u64)) (s4.2 : Arr 8 Int))]⟩) l6 (by kernel_rfl) (fun s4 x9 h => ?_)
  unfold press_Read.s0 at h
  refine t_cond cok ?_
  refine bi h (fun c10 h => ?_) (fun c10 h => ?_)
  ·skip
   refine bk h fun t11 k12 h => ?_
   refine cl4 cok.g (pmem_Device_Load.sc fu _ _ _ k12) (.tup [vi .u64 t11.1, vi .i64 t11.2]) [(0, .box 105 (.agg [.sl 1 4 [], .agg [.sl 2 1 [], vi .i64 a0.plan.at_], vb a0.off, vb a0.armed, vi .i64 a0.left, vi .i64 a0.steps])), (1, .row (.st .S_pmem_cell) 125 (a0.cells : List S_pmem_cell)), (2, .row (.int .i64) 3 (a0.plan.list : List Int))] 7 ?_
   refine t_cond cok ?_
   refine bi h (fun c13 h => ?_) (fun c13 h => ?_)
   ·skip
    refine lpr h (fun hy => ?_)
    have h := h8
    rw [← hy] at h
    exact fk h
   refine ag h fun h => ?_
   exact lik h
  exact lpx h fun hy => esk (sj hy)
 subst hy
 refine bk h fun t14 k15 h => ?_
 refine cl4 cok.g (octet_Octets.sc fu _ _ k15) (.sl 4 1 []) [(4, .row (.int .u8) 5 (t14 : List Int))] 5 ?_
 exact fk h
def shadow_Store_Get.f (fu : Nat) (a0 : S_shadow_Store) (a1 : Int) : Option ((List Int) × Int) := ((press_Read.f fu a0.device a1).bind fun t1 => some (t1.1, t1.2))
theorem shadow_Store_Get.sc (fu : Nat) (a0 : S_shadow_Store) (a1 : Int) (r : (List Int) × Int) (h : shadow_Store_Get.f fu a0 a1 = some r) : SC Tryd.prog CT 20 [.ptr 0 0, vi .i64 a1] [.box 114 (.agg [.ptr 1 0, .ptr 4 0]), .box 105 (.agg [.sl 2 4 [], .agg [.sl 3 1 [], vi .i64 a0.device.plan.at_], vb a0.device.off, vb a0.device.armed, vi .i64 a0.device.left, vi .i64 a0.device.steps]), .row (.st .S_pmem_cell) 125 (a0.device.cells : List S_pmem_cell), .row (.int .i64) 3 (a0.device.plan.list : List Int), .box 108 (.agg [vi .i64 a0.blocks.reserve, .agg [.ptr 5 0, .ptr 7 0, .ptr 9 0, .ptr 11 0]]), .box 112 (.agg [vi .i64 a0.blocks.sets.1.size, .sl 6 1 []]), .row (.int .u64) 119 (a0.blocks.sets.1.words : List Int), .box 112 (.agg [vi .i64 a0.blocks.sets.2.1.size, .sl 8 1 []]), .row (.int .u64) 119 (a0.blocks.sets.2.1.words : List Int), .box 112 (.agg [vi .i64 a0.blocks.sets.2.2.1.size, .sl 10 1 []]), .row (.int .u64) 119 (a0.blocks.sets.2.2.1.words : List Int), .box 112 (.agg [vi .i64 a0.blocks.sets.2.2.2.size, .sl 12 1 []]), .row (.int .u64) 119 (a0.blocks.sets.2.2.2.words : List Int)] (.tup [.sl 13 1 [], vi .i64 r.2]) [.box 114 (.agg [.ptr 1 0, .ptr 4 0]), .box 105 (.agg [.sl 2 4 [], .agg [.sl 3 1 [], vi .i64 a0.device.plan.at_], vb a0.device.off, vb a0.device.armed, vi .i64 a0.device.left, vi .i64 a0.device.steps]), .row (.st .S_pmem_cell) 125 (a0.device.cells : List S_pmem_cell), .row (.int .i64) 3 (a0.device.plan.list : List Int), .box 108 (.agg [vi .i64 a0.blocks.reserve, .agg [.ptr 5 0, .ptr 7 0, .ptr 9 0, .ptr 11 0]]), .box 112 (.agg [vi .i64 a0.blocks.sets.1.size, .sl 6 1 []]), .row (.int .u64) 119 (a0.blocks.sets.1.words : List Int), .box 112 (.agg [vi .i64 a0.blocks.sets.2.1.size, .sl 8 1 []]), .row (.int .u64) 119 (a0.blocks.sets.2.1.words : List Int), .box 112 (.agg [vi .i64 a0.blocks.sets.2.2.1.size, .sl 10 1 []]), .row (.int .u64) 119 (a0.blocks.sets.2.2.1.words : List Int), .box 112 (.agg [vi .i64 a0.blocks.sets.2.2.2.size, .sl 12 1 []]), .row (.int .u64) 119 (a0.blocks.sets.2.2.2.words : List Int), .row (.int .u8) 5 (r.1 : List Int)] := by
 unfold shadow_Store_Get.f at h
 refine sq Tryd.func20 r (fun r => .tup [.sl 13 1 [], vi .i64 r.2]) (fun r => [.box 114 (.agg [.ptr 1 0, .ptr 4 0]), .box 105 (.agg [.sl 2 4 [], .agg [.sl 3 1 [], vi .i64 a0.device.plan.at_], vb a0.device.off, vb a0.device.armed, vi .i64 a0.device.left, vi .i64 a0.device.steps]), .row (.st .S_pmem_cell) 125 (a0.device.cells : List S_pmem_cell), .row (.int .i64) 3 (a0.device.plan.list : List Int), .box 108 (.agg [vi .i64 a0.blocks.reserve, .agg [.ptr 5 0, .ptr 7 0, .ptr 9 0, .ptr 11 0]]), .box 112 (.agg [vi .i64 a0.blocks.sets.1.size, .sl 6 1 []]), .row (.int .u64) 119 (a0.blocks.sets.1.words : List Int), .box 112 (.agg [vi .i64 a0.blocks.sets.2.1.size, .sl 8 1 []]), .row (.int .u64) 119 (a0.blocks.sets.2.1.words : List Int), .box 112 (.agg [vi .i64 a0.blocks.sets.2.2.1.size, .sl 10 1 []]), .row (.int .u64) 119 (a0.blocks.sets.2.2.1.words : List Int), .box 112 (.agg [vi .i64 a0.blocks.sets.2.2.2.size, .sl 12 1 []]), .row (.int .u64) 119 (a0.blocks.sets.2.2.2.words : List Int), .row (.int .u8) 5 (r.1 : List Int)]) fun X => ?_
 refine bk h fun t1 k2 h => ?_
 refine cl4 cok.g (press_Read.sc fu _ _ _ k2) (.tup [.sl 16 1 [], vi .i64 t1.2]) [(1, .box 105 (.agg [.sl 2 4 [], .agg [.sl 3 1 [], vi .i64 a0.device.plan.at_], vb a0.device.off, vb a0.device.armed, vi .i64 a0.device.left, vi .i64 a0.device.steps])), (2, .row (.st .S_pmem_cell) 125 (a0.device.cells : List S_pmem_cell)), (3, .row (.int .i64) 3 (a0.device.plan.list : List Int)), (16, .row (.int .u8) 5 (t1.1 : List Int))] 17 ?_
 exact fk h
def dir_read.s0 (fu : Nat) (a0 : S_shadow_Store) (t5 : S_api_Dir × Bool) : ((List S_dir_listed) × Int) → Option (Sum (Sum ((List S_dir_listed) × Int) (List S_dir_listed)) ((List S_dir_listed) × Int)) := fun s8 => (if (decide (s8.2 < (List.length t5.1.Queues : Int))) then if 0 ≤ s8.2 ∧ s8.2 < (List.length t5.1.Queues : Int) then ((shadow_Store_Get.f fu a0 (ix t5.1.Queues s8.2)).bind fun t15 => (if (!decide (t15.2 = 0)) then some (Sum.inl (Sum.inl ([], t15.2))) else ((label_GetQueue.f fu t15.1).bind fun t18 => (if (!t18.2) then some (Sum.inl (Sum.inl ([], 31))) else (if (decide ((List.length s8.1 : Int) > 0)) then if 0 ≤ (IntKind.i64.wrap ((List.length s8.1 : Int) - 1)) ∧ (IntKind.i64.wrap ((List.length s8.1 : Int) - 1)) < (List.length s8.1 : Int) then ((name_Compare.f fu (((ix s8.1 (IntKind.i64.wrap ((List.length s8.1 : Int) - 1))).q).Name) t18.1.Name).bind fun t22 => (if (decide (t22 ≥ 0)) then some (Sum.inl (Sum.inl ([], 31))) else if List.length s8.1 + List.length [(⟨t18.1, (ix t5.1.Queues s8.2)⟩ : S_dir_listed)] ≤ LIM then some (Sum.inr ((s8.1 ++ [(⟨t18.1, (ix t5.1.Queues s8.2)⟩ : S_dir_listed)]), (IntKind.i64.wrap (s8.2 + 1)))) else none)) else none else if List.length s8.1 + List.length [(⟨t18.1, (ix t5.1.Queues s8.2)⟩ : S_dir_listed)] ≤ LIM then some (Sum.inr ((s8.1 ++ [(⟨t18.1, (ix t5.1.Queues s8.2)⟩ : S_dir_listed)]), (IntKind.i64.wrap (s8.2 + 1)))) else none))))) else none else some (Sum.inl (Sum.inr (s8.1))))
def dir_read.f (fu : Nat) (a0 : S_shadow_Store) (a1 : Int) : Option ((List S_dir_listed) × Int) := (if (decide (a1 = 0)) then some ([], 0) else ((shadow_Store_Get.f fu a0 a1).bind fun t2 => (if (!decide (t2.2 = 0)) then some ([], t2.2) else ((label_GetDir.f fu t2.1).bind fun t5 => (if (!t5.2) then some ([], 31) else ((loopM (dir_read.s0 fu a0 t5) fu (([] : List S_dir_listed), 0)).bind fun e9 => match e9 with | Sum.inl p => some p | Sum.inr x11 => some (x11, 0)))))))
theorem dir_read.sc (fu : Nat) (a0 : S_shadow_Store) (a1 : Int) (r : (List S_dir_listed) × Int) (h : dir_read.f fu a0 a1 = some r) : SC Tryd.prog CT 83 [.ptr 0 0, vi .i64 a1] [.box 114 (.agg [.ptr 1 0, .ptr 4 0]), .box 105 (.agg [.sl 2 4 [], .agg [.sl 3 1 [], vi .i64 a0.device.plan.at_], vb a0.device.off, vb a0.device.armed, vi .i64 a0.device.left, vi .i64 a0.device.steps]), .row (.st .S_pmem_cell) 125 (a0.device.cells : List S_pmem_cell), .row (.int .i64) 3 (a0.device.plan.list : List Int), .box 108 (.agg [vi .i64 a0.blocks.reserve, .agg [.ptr 5 0, .ptr 7 0, .ptr 9 0, .ptr 11 0]]), .box 112 (.agg [vi .i64 a0.blocks.sets.1.size, .sl 6 1 []]), .row (.int .u64) 119 (a0.blocks.sets.1.words : List Int), .box 112 (.agg [vi .i64 a0.blocks.sets.2.1.size, .sl 8 1 []]), .row (.int .u64) 119 (a0.blocks.sets.2.1.words : List Int), .box 112 (.agg [vi .i64 a0.blocks.sets.2.2.1.size, .sl 10 1 []]), .row (.int .u64) 119 (a0.blocks.sets.2.2.1.words : List Int), .box 112 (.agg [vi .i64 a0.blocks.sets.2.2.2.size, .sl 12 1 []]), .row (.int .u64) 119 (a0.blocks.sets.2.2.2.words : List Int)] (.tup [.sl 13 15 [], vi .i64 r.2]) [.box 114 (.agg [.ptr 1 0, .ptr 4 0]), .box 105 (.agg [.sl 2 4 [], .agg [.sl 3 1 [], vi .i64 a0.device.plan.at_], vb a0.device.off, vb a0.device.armed, vi .i64 a0.device.left, vi .i64 a0.device.steps]), .row (.st .S_pmem_cell) 125 (a0.device.cells : List S_pmem_cell), .row (.int .i64) 3 (a0.device.plan.list : List Int), .box 108 (.agg [vi .i64 a0.blocks.reserve, .agg [.ptr 5 0, .ptr 7 0, .ptr 9 0, .ptr 11 0]]), .box 112 (.agg [vi .i64 a0.blocks.sets.1.size, .sl 6 1 []]), .row (.int .u64) 119 (a0.blocks.sets.1.words : List Int), .box 112 (.agg [vi .i64 a0.blocks.sets.2.1.size, .sl 8 1 []]), .row (.int .u64) 119 (a0.blocks.sets.2.1.words : List Int), .box 112 (.agg [vi .i64 a0.blocks.sets.2.2.1.size, .sl 10 1 []]), .row (.int .u64) 119 (a0.blocks.sets.2.2.1.words : List Int), .box 112 (.agg [vi .i64 a0.blocks.sets.2.2.2.size, .sl 12 1 []]), .row (.int .u64) 119 (a0.blocks.sets.2.2.2.words : List Int), .row (.st .S_dir_listed) 148 (r.1 : List S_dir_listed)] := by
 unfold dir_read.f at h
 refine sq Tryd.func83 r (fun r => .tup [.sl 13 15 [], vi .i64 r.2]) (fun r => [.box 114 (.agg [.ptr 1 0, .ptr 4 0]), .box 105 (.agg [.sl 2 4 [], .agg [.sl 3 1 [], vi .i64 a0.device.plan.at_], vb a0.device.off, vb a0.device.armed, vi .i64 a0.device.left, vi .i64 a0.device.steps]), .row (.st .S_pmem_cell) 125 (a0.device.cells : List S_pmem_cell), .row (.int .i64) 3 (a0.device.plan.list : List Int), .box 108 (.agg [vi .i64 a0.blocks.reserve, .agg [.ptr 5 0, .ptr 7 0, .ptr 9 0, .ptr 11 0]]), .box 112 (.agg [vi .i64 a0.blocks.sets.1.size, .sl 6 1 []]), .row (.int .u64) 119 (a0.blocks.sets.1.words : List Int), .box 112 (.agg [vi .i64 a0.blocks.sets.2.1.size, .sl 8 1 []]), .row (.int .u64) 119 (a0.blocks.sets.2.1.words : List Int), .box 112 (.agg [vi .i64 a0.blocks.sets.2.2.1.size, .sl 10 1 []]), .row (.int .u64) 119 (a0.blocks.sets.2.2.1.words : List Int), .box 112 (.agg [vi .i64 a0.blocks.sets.2.2.2.size, .sl 12 1 []]), .row (.int .u64) 119 (a0.blocks.sets.2.2.2.words : List Int), .row (.st .S_dir_listed) 148 (r.1 : List S_dir_listed)]) fun X => ?_
 refine t_cond cok ?_
 refine t_cond cok ?_
 refine bi h (fun c1 h => ?_) (fun c1 h => ?_)
 ·skip
  exact fk h
 refine bk h fun t2 k3 h => ?_
 refine cl4 cok.g (shadow_Store_Get.sc fu _ _ _ k3) (.tup [.sl 26 1 [], vi .i64 t2.2]) [(0, .box 114 (.agg [.ptr 1 0, .ptr 4 0])), (1, .box 105 (.agg [.sl 2 4 [], .agg [.sl 3 1 [], vi .i64 a0.device.plan.at_], vb a0.device.off, vb a0.device.armed, vi .i64 a0.device.left, vi .i64 a0.device.steps])), (2, .row (.st .S_pmem_cell) 125 (a0.device.cells : List S_pmem_cell)), (3, .row (.int .i64) 3 (a0.device.plan.list : List Int)), (4, .box 108 (.agg [vi .i64 a0.blocks.reserve, .agg [.ptr 5 0, .ptr 7 0, .ptr 9 0, .ptr 11 0]])), (5, .box 112 (.agg [vi .i64 a0.blocks.sets.1.size, .sl 6 1 []])), (6, .row (.int .u64) 119 (a0.blocks.sets.1.words : List Int)), (7, .box 112 (.agg [vi .i64 a0.blocks.sets.2.1.size, .sl 8 1 []])), (8, .row (.int .u64) 119 (a0.blocks.sets.2.1.words : List Int)), (9, .box 112 (.agg [vi .i64 a0.blocks.sets.2.2.1.size, .sl 10 1 []])), (10, .row (.int .u64) 119 (a0.blocks.sets.2.2.1.words : List Int)), (11, .box 112 (.agg [vi .i64 a0.blocks.sets.2.2.2.size, .sl 12 1 []])), (12, .row (.int .u64) 119 (a0.blocks.sets.2.2.2.words : List Int)), (26, .row (.int .u8) 5 (t2.1 : List Int))] 27 ?_
 refine t_cond cok ?_
 refine bi h (fun c4 h => ?_) (fun c4 h => ?_)
 ·skip
  exact fk h
 refine bk h fun t5 k6 h => ?_
 refine cl4 cok.g (label_GetDir.sc fu _ _ k6) (.tup [.v (.st .S_api_Dir) (t5.1 : S_api_Dir), vb t5.2]) [(26, .fz (.int .u8) (t2.1 : List Int))] 27 ?_
 refine t_cond cok ?_
 refine bi h (fun c7 h => ?_) (fun c7 h => ?_)
 ·skip
  exact fk h
 refine bk h fun e9 l10 h => ?_
 refine t_cutxS cok 0 (fun (x11 : (List S_dir_listed)) => ⟨[(10, .sl 13 15 [])], [.box 114 (.agg [.ptr 1 0, .ptr 4 0]), .box 105 (.agg [.sl 2 4 [], .agg [.sl 3 1 [], vi .i64 a0.device.plan.at_], vb a0.device.off, vb a0.device.armed, vi .i64 a0.device.left, vi .i64 a0.device.steps]), .row (.st .S_pmem_cell) 125 (a0.device.cells : List S_pmem_cell), .row (.int .i64) 3 (a0.device.plan.list : List Int), .box 108 (.agg [vi .i64 a0.blocks.reserve, .agg [.ptr 5 0, .ptr 7 0, .ptr 9 0, .ptr 11 0]]), .box 112 (.agg [vi .i64 a0.blocks.sets.1.size, .sl 6 1 []]), .row (.int .u64) 119 (a0.blocks.sets.1.words : List Int), .box 112 (.agg [vi .i64 a0.blocks.sets.2.1.size, .sl 8 1 []]), .row (.int .u64) 119 (a0.blocks.sets.2.1.words : List Int), .box 112 (.agg [vi .i64 a0.blocks.sets.2.2.1.size, .sl 10 1 []]), .row (.int .u64) 119 (a0.blocks.sets.2.2.1.words : List Int), .box 112 (.agg [vi .i64 a0.blocks.sets.2.2.2.size, .sl 12 1 []]), .row (.int .u64) 119 (a0.blocks.sets.2.2.2.words : List Int), .row (.st .S_dir_listed) 148 (x11 : List S_dir_listed)]⟩) e9 ?_ (fun x11 hy => ?_)
 ·skip
  have h12 := h
  refine t_loop cok (fun (s8 : (List S_dir_listed) × Int) => ⟨[(0, .ptr 0 0), (10, .sl 13 15 []), (38, .v (.sl (.int .i64)) (t5.1.Queues : List Int)), (39, vi .i64 (List.length t5.1.Queues : Int)), (40, vi .i64 s8.2)], [.box 114 (.agg [.ptr 1 0, .ptr 4 0]), .box 105 (.agg [.sl 2 4 [], .agg [.sl 3 1 [], vi .i64 a0.device.plan.at_], vb a0.device.off, vb a0.device.armed, vi .i64 a0.device.left, vi .i64 a0.device.steps]), .row (.st .S_pmem_cell) 125 (a0.device.cells : List S_pmem_cell), .row (.int .i64) 3 (a0.device.plan.list : List Int), .box 108 (.agg [vi .i64 a0.blocks.reserve, .agg [.ptr 5 0, .ptr 7 0, .ptr 9 0, .ptr 11 0]]), .box 112 (.agg [vi .i64 a0.blocks.sets.1.size, .sl 6 1 []]), .row (.int .u64) 119 (a0.blocks.sets.1.words : List Int), .box 112 (.agg [vi .i64 a0.blocks.sets.2.1.size, .sl 8 1 []]), .row (.int .u64) 119 (a0.blocks.sets.2.1.words : List Int), .box 112 (.agg [vi .i64 a0.blocks.sets.2.2.1.size, .sl 10 1 []]), .row (.int .u64) 119 (a0.blocks.sets.2.2.1.words : List Int), .box 112 (.agg [vi .i64 a0.blocks.sets.2.2.2.size, .sl 12 1 []]), .row (.int .u64) 119 (a0.blocks.sets.2.2.2.words : List Int), .row (.st .S_dir_listed) 148 (s8.1 : List S_dir_listed)]⟩) l10 (by kernel_rfl) (fun s8 x13 h => ?_)
  unfold dir_read.s0 at h
  refine t_cond cok ?_
  refine bi h (fun c14 h => ?_) (fun c14 h => ?_)
  ·skip
   refine ag h fun h => ?_
   refine bk h fun t15 k16 h => ?_
   refine cl4 cok.g (shadow_Store_Get.sc fu _ _ _ k16) (.tup [.sl 27 1 [], vi .i64 t15.2]) [(0, .box 114 (.agg [.ptr 1 0, .ptr 4 0])), (1, .box 105 (.agg [.sl 2 4 [], .agg [.sl 3 1 [], vi .i64 a0.device.plan.at_], vb a0.device.off, vb a0.device.armed, vi .i64 a0.device.left, vi .i64 a0.device.steps])), (2, .row (.st .S_pmem_cell) 125 (a0.device.cells : List S_pmem_cell)), (3, .row (.int .i64) 3 (a0.device.plan.list : List Int)), (4, .box 108 (.agg [vi .i64 a0.blocks.reserve, .agg [.ptr 5 0, .ptr 7 0, .ptr 9 0, .ptr 11 0]])), (5, .box 112 (.agg [vi .i64 a0.blocks.sets.1.size, .sl 6 1 []])), (6, .row (.int .u64) 119 (a0.blocks.sets.1.words : List Int)), (7, .box 112 (.agg [vi .i64 a0.blocks.sets.2.1.size, .sl 8 1 []])), (8, .row (.int .u64) 119 (a0.blocks.sets.2.1.words : List Int)), (9, .box 112 (.agg [vi .i64 a0.blocks.sets.2.2.1.size, .sl 10 1 []])), (10, .row (.int .u64) 119 (a0.blocks.sets.2.2.1.words : List Int)), (11, .box 112 (.agg [vi .i64 a0.blocks.sets.2.2.2.size, .sl 12 1 []])), (12, .row (.int .u64) 119 (a0.blocks.sets.2.2.2.words : List Int)), (27, .row (.int .u8) 5 (t15.1 : List Int))] 28 ?_
   refine t_cond cok ?_
   refine bi h (fun c17 h => ?_) (fun c17 h => ?_)
   ·skip
    refine lpr h (fun hy => ?_)
    have h := h12
    rw [← hy] at h
    exact fk h
   refine bk h fun t18 k19 h => ?_
   refine cl4 cok.g (label_GetQueue.sc fu _ _ k19) (.tup [.v (.st .S_api_Queue) (t18.1 : S_api_Queue), vb t18.2]) [] 28 ?_
   refine t_draw cok mo [⟨0, false, [16], [], 0, []⟩, ⟨1, false, [58], [], 0, [0]⟩, ⟨2, false, [59], [], 0, [0, 1]⟩, ⟨3, false, [10, 60], [], 0, [0, 1, 2]⟩, ⟨4, false, [60, 61], [13], 0, cl 4⟩, ⟨5, false, [60, 62], [], 0, cl 5⟩, ⟨6, false, [60, 63], [], 0, cl 6⟩, ⟨7, false, [10, 64], [], 0, cl 7⟩, ⟨8, false, [10, 64], [], 0, cl 7⟩, ⟨9, false, [64, 66], [13], 0, cl 7 ++ [8]⟩, ⟨10, false, [64, 67], [], 0, cl 7 ++ [8, 9]⟩, ⟨11, false, [64, 65, 68], [13], 0, cl 11⟩, ⟨12, false, [64, 69], [], 0, cl 12⟩, ⟨13, false, [64, 70], [], 0, cl 13⟩, ⟨14, false, [64, 71], [13], 0, cl 14⟩, ⟨15, false, [15, 64], [], 0, cl 7⟩, ⟨16, false, [64, 73], [28], 0, cl 7 ++ [15]⟩, ⟨17, true, [64, 72, 74], [], 0, cl 17⟩, ⟨18, false, [64, 75], [], 0, cl 18⟩, ⟨19, true, [60, 64, 76], [], 0, cl 19⟩, ⟨20, true, [60, 77], [], 0, cl 20⟩] (by kernel_rfl) ?_
   refine bi h (fun c20 h => ?_) (fun c20 h => ?_)
   ·skip
    refine t_cond cok ?_
    refine lpr h (fun hy => ?_)
    have h := h12
    rw [← hy] at h
    exact fk h
   refine bi h (fun c21 h => ?_) (fun c21 h => ?_)
   ·skip
    refine ag h fun h => ?_
    refine bk h fun t22 k23 h => ?_
    refine cl4 cok.g (name_Compare.sc fu _ _ _ k23) (vi .i64 t22) [] 29 ?_
    refine t_cond cok ?_
    refine bi h (fun c24 h => ?_) (fun c24 h => ?_)
    ·skip
     refine lpr h (fun hy => ?_)
     have h := h12
     rw [← hy] at h
     exact fk h
    refine ag h fun h => ?_
    exact lik h
   refine t_cond cok ?_
   refine ag h fun h => ?_
   exact lik h
  exact lpx h fun hy => esk (sj hy)
 subst hy
 exact fk h
def label_PutQueue.s0 (fu : Nat) (a0 : S_api_Queue) : ((List Int) × Int) → Option (Sum (List Int) ((List Int) × Int)) := fun s6 => (if (decide (s6.2 < 12)) then if 0 ≤ s6.2 ∧ s6.2 < 12 then ((octet_Lay.f fu (IntKind.u64.wrap (Arr.get a0.Roots s6.2)) 2).bind fun t12 => if List.length s6.1 + List.length t12 ≤ LIM then some (Sum.inr ((s6.1 ++ t12), (IntKind.i64.wrap (s6.2 + 1)))) else none) else none else some (Sum.inl (s6.1)))
def label_PutQueue.f (fu : Nat) (a0 : S_api_Queue) : Option ((List Int) × Bool) := ((label_RightQueue.f fu a0).bind fun t1 => (if (!t1) then some ([], false) else ((octet_Lay.f fu (IntKind.u64.wrap a0.Count) 4).bind fun t4 => ((loopM (label_PutQueue.s0 fu a0) fu (t4, 0)).bind fun e7 => if List.length e7 + List.length a0.Name ≤ LIM then ((block_Seal.f fu 5 (List.length a0.Name : Int) (e7 ++ (List.map ofB a0.Name))).bind fun t14 => some (t14.1, t14.2)) else none))))
theorem label_PutQueue.sc (fu : Nat) (a0 : S_api_Queue) (r : (List Int) × Bool) (h : label_PutQueue.f fu a0 = some r) : SC Tryd.prog CT 84 [.v (.st .S_api_Queue) (a0 : S_api_Queue)] [] (.tup [.sl 0 1 [], vb r.2]) [.row (.int .u8) 5 (r.1 : List Int)] := by
 unfold label_PutQueue.f at h
 refine sq Tryd.func84 r (fun r => .tup [.sl 0 1 [], vb r.2]) (fun r => [.row (.int .u8) 5 (r.1 : List Int)]) fun X => ?_
 refine bk h fun t1 k2 h => ?_
 refine cl4 cok.g (label_RightQueue.sc fu _ _ k2) (vb t1) [] 1 ?_
 refine t_cond cok ?_
 refine bi h (fun c3 h => ?_) (fun c3 h => ?_)
 ·skip
  exact fk h
 refine bk h fun t4 k5 h => ?_
 refine cl4 cok.g (octet_Lay.sc fu _ _ _ k5) (.sl 1 1 []) [(1, .row (.int .u8) 5 (t4 : List Int))] 2 ?_
 refine bk h fun e7 l8 h => ?_
 refine t_cutx cok 0 (fun (e7 : (List Int)) => ⟨[(1, .ptr 0 0), (4, .sl 1 1 [])], [.box 95 (.v (.st .S_api_Queue) (a0 : S_api_Queue)), .row (.int .u8) 5 (e7 : List Int)]⟩) e7 ?_ ?_
 ·skip
  have h9 := h
  refine t_loop cok (fun (s6 : (List Int) × Int) => ⟨[(1, .ptr 0 0), (4, .sl 1 1 []), (15, .v (.arr 12 (.int .i64)) (a0.Roots : Arr 12 Int)), (16, vi .i64 s6.2)], [.box 95 (.v (.st .S_api_Queue) (a0 : S_api_Queue)), .row (.int .u8) 5 (s6.1 : List Int)]⟩) l8 (by kernel_rfl) (fun s6 x10 h => ?_)
  unfold label_PutQueue.s0 at h
  refine t_cond cok ?_
  refine bi h (fun c11 h => ?_) (fun c11 h => ?_)
  ·skip
   refine ag h fun h => ?_
   refine bk h fun t12 k13 h => ?_
   refine cl4 cok.g (octet_Lay.sc fu _ _ _ k13) (.sl 2 1 []) [(2, .row (.int .u8) 5 (t12 : List Int))] 3 ?_
   refine ag h fun h => ?_
   exact lik h
  exact lpx h fun hy => ek (sj hy)
 refine ag h fun h => ?_
 refine bk h fun t14 k15 h => ?_
 refine cl4 cok.g (block_Seal.sc fu _ _ _ _ k15) (.tup [.sl 3 1 [], vb t14.2]) [(3, .row (.int .u8) 5 (t14.1 : List Int))] 4 ?_
 exact fk h
end Go.Proofs.YtdifnahlheogdaaDoor
namespace Go.Yw
open Go Go.Xw
section
variable {P : Program}
theorem run_copy_rowS (w : World) (dT sT ty elem : TypeId) (g o dLen dCap s k : Nat) (a : Addr) (sLen sCap : Nat) (cur : Array Value) (t : TypeId) (cs : List Value)
    (hu : P.underlying dT = some (.slice elem)) (hs : (P.info? elem).map (·.size) = some s)
    (hg : w.heap[g]? = some (.cells cur t (0, 0))) (hk : Nat.min sLen dLen = k) (hn : cs.length = k * s)
    (hsrc : ∀ j v, cs[j]? = some v → w.cell? (a.add j) = some v) (hfit : o + cs.length ≤ cur.size) (h1 : ∀ v ∈ cs, v.oneCell' = true) :
    (Builtin.copy_ #[dT, sT] ty #[.slice (some ⟨g, o, none⟩) dLen dCap, .slice (some a) sLen sCap]).run P w =
      .ok (goInt k) (w.setRow g (cur.toList.take o ++ cs ++ cur.toList.drop (o + cs.length)).toArray) := by
  have hl := run_loadCells_list (P := P) w a cs hsrc
  have hst := run_storeCells_at P g o t cs 0 cur w hg (by simpa using hfit) h1
  cases hq : P.info? elem with
  | none => simp [hq] at hs
  | some i =>
    have hi : i.size = s := by simpa [hq] using hs
    simp [Builtin.copy_, run_underlying hu, Builtin.lenOf, Builtin.firstCells, sizeOf, typeInfo, hq, hi, hk, ← hn, hl, hst]
theorem run_append_zeros_grow (w : World) (t tn ty e : TypeId) (i : TypeInfo) (z : Value) (k kn : IntKind) (ht : P.underlying t = some (.slice e)) (htn : P.underlying tn = some (.int kn)) (hi : P.info? e = some i) (hz : i.zero = some z)
    (g o sLen sCap n : Nat) (olds : List Value) (hold : olds.length = sLen * i.size) (hsrc : ∀ j v, olds[j]? = some v → w.cell? ((⟨g, o, none⟩ : Addr).add j) = some v) (hg : sCap < sLen + n) (hs : 0 < i.size) (h0 : 0 < n) (h63 : ((sLen + n : Nat) : Int) ≤ 4294967296 * 2) (h48 : n * i.bytes ≤ 281474976710656) (hfit : Builtin.nextslicecap (sLen + n) sCap * i.bytes ≤ 281474976710656) :
    (Builtin.append_ #[t, tn] ty #[.slice (some ⟨g, o, none⟩) sLen sCap, .int k n]).run P w =
      .ok (.slice (some ⟨w.heap.size, 0, none⟩) (sLen + n) (grownCap w (sLen + n) sCap e)) (w.drew.alloc (.cells (olds.toArray ++ (Builtin.zeroCells z.cells n ++ Builtin.zeroCells z.cells (grownCap w (sLen + n) sCap e - (sLen + n)))) e)) := by
  have hn : ¬ (sLen + n ≤ sCap) := by omega
  have hw : IntKind.i64.wrap (n : Int) = n := by rw [IntKind.wrap_i64]; omega
  have h63' : ¬ (9223372036854775807 < ((sLen : Int) + (n : Int))) := by omega
  have h48' : ¬ (281474976710656 < Builtin.nextslicecap (sLen + n) sCap * i.bytes) := by omega
  have h48i : ¬ (281474976710656 < (n : Int) * (i.bytes : Int)) := by
    rw [← Int.natCast_mul]
    omega
  have hneg : ¬ ((n : Int) < 0) := by omega
  have hns : ¬ (n * i.size = 0) := Nat.mul_ne_zero (by omega) (by omega)
  have hl := run_loadCells_list (P := P) w.drew ⟨g, o, none⟩ olds hsrc
  have hold2 : (Builtin.firstCells i.size sLen (.slice (some ⟨g, o, none⟩) sLen sCap)).run P w.drew = .ok olds.toArray w.drew := by
    rw [hold] at hl
    simpa [Builtin.firstCells] using hl
  simp [Builtin.append_, run_underlying ht, run_underlying htn, sizeOf, typeInfo, zeroValue, hi, hz, asInt, asIntOf, hw, hn, hneg, hns, h63', h48', h48i, Question.forced, hold2, newRow, grownCap]
theorem step_copy_runJ {ops : Array Oper} {o : Oper} {a : Act} {w : World} {K : Act → World → Prop} {Q : Exit → Act → World → Prop} {E : Prop}
    (hg : o.guard = none) (d x : Operand) (dT sT : TypeId) (hop : o.op = Op.call { callee := Callee.builtin Builtin.copy, args := #[d, x], argTypes := #[dT, sT] })
    (v u : Value) (hd : a.eval d = v) (hx : a.eval x = u) {v' : Value} {w' : World} (hr : (Builtin.copy_ #[dT, sT] o.type #[v, u]).run P w = .ok v' w') (hK : K (a.put o.dst v') w') :
    if Region.wanted o (yielded ops a.tmps) = true then Oper.wp P o a w K Q else E := by
  have hw : Region.wanted o (yielded ops a.tmps) = true := by simp [Region.wanted, hg]
  rw [if_pos hw]
  unfold Oper.wp
  simp [execOp, hop, resolve, invoke, builtin, hd, hx, hr, Result.andThen]
  exact hK
theorem wpList_copy_runJ (w : World) {ops : Array Oper} {rest : List Oper} {o : Oper} {a : Act} {Q : Exit → Act → World → Prop} (hgd : o.guard = none) (d s : Operand) (t t' : TypeId)
    (ho : o.op = .call { callee := .builtin .copy, args := #[d, s], argTypes := #[t, t'] }) (v u : Value) (hd : a.eval d = v) (hs : a.eval s = u) {v' : Value} {w' : World}
    (hr : (Builtin.copy_ #[t, t'] o.type #[v, u]).run P w = .ok v' w') (h : wpList P ops Q rest (a.put o.dst v') w') : wpList P ops Q (o :: rest) a w :=
  wpList_plain hgd fun _ hK => by
    unfold Oper.wp execOp
    simp only [ho, resolve, invoke, builtin, Sem.run_bind, Sem.run_pure, Result.andThen_ok, List.map_toArray, List.map_cons, List.map_nil, hd, hs, hr]
    exact hK _ _ h
structure InsW (P : Program) (f : FuncId) (T E : TypeId) (s : Nat) : Prop where
  shift : ∀ (b n c i vb vc : Nat) (w W1 W2 : World) (cur curx : Array Value), i < n → n + 1 ≤ c → c ≤ 9223372036854775807 → n ≤ 4294967296 → vb ≠ b → w.heap[b]? = some (.cells cur E (0, 0)) → w.heap[vb]? = some (.cells curx E (0, 0)) → cur.size ≠ 0 →
    (∀ ty dc sc, (Builtin.copy_ #[T, T] ty #[.slice (some ⟨b, (i + 1) * s, none⟩) (n - i) dc, .slice (some ⟨b, i * s, none⟩) (n + 1 - i) sc]).run P w.drew = .ok (goInt (n - i : Nat)) W1) →
    (∀ ty dc, (Builtin.copy_ #[T, T] ty #[.slice (some ⟨b, i * s, none⟩) (n + 1 - i) dc, .slice (some ⟨vb, 0, none⟩) 1 vc]).run P W1 = .ok (goInt 1) W2) →
    Calls P f #[.slice (some ⟨b, 0, none⟩) n c, .int .i64 i, .slice (some ⟨vb, 0, none⟩) 1 vc] w fun e w' => e = .returned (.slice (some ⟨b, 0, none⟩) (n + 1) c) ∧ w' = W2
  grow : ∀ (b n c i vb vc g' c' : Nat) (w W0 W1 W2 : World), i < n → n ≤ c → c < n + 1 → c ≤ 9223372036854775807 → n ≤ 4294967296 → n + 1 ≤ c' → c' ≤ 9223372036854775807 →
    (∀ ty, (Builtin.append_ #[T, 3] ty #[.slice (some ⟨b, 0, none⟩) i c, .int .i64 ((n : Int) + 1 - i)]).run P w = .ok (.slice (some ⟨g', 0, none⟩) (n + 1) c') W0) →
    (∀ ty dc, (Builtin.copy_ #[T, T] ty #[.slice (some ⟨g', i * s, none⟩) (n + 1 - i) dc, .slice (some ⟨vb, 0, none⟩) 1 vc]).run P W0 = .ok (goInt 1) W1) →
    (∀ ty dc sc, (Builtin.copy_ #[T, T] ty #[.slice (some ⟨g', (i + 1) * s, none⟩) (n - i) dc, .slice (some ⟨b, i * s, none⟩) (n - i) sc]).run P W1.drew = .ok (goInt (n - i : Nat)) W2) →
    Calls P f #[.slice (some ⟨b, 0, none⟩) n c, .int .i64 i, .slice (some ⟨vb, 0, none⟩) 1 vc] w fun e w' => e = .returned (.slice (some ⟨g', 0, none⟩) (n + 1) c') ∧ w' = W2
  fin : ∀ (v v' : Value) (A : Option Addr) (n c vb vc : Nat) (w W2 : World), v = .slice A n c → n ≤ c → c ≤ 9223372036854775807 → n ≤ 4294967296 →
    (∀ ty, (Builtin.append_ #[T, T] ty #[v, .slice (some ⟨vb, 0, none⟩) 1 vc]).run P w = .ok v' W2) →
    Calls P f #[v, .int .i64 n, .slice (some ⟨vb, 0, none⟩) 1 vc] w fun e w' => e = .returned v' ∧ w' = W2
structure DelW (P : Program) (f : FuncId) (T : TypeId) (s : Nat) : Prop where
  one : ∀ (b n c i : Nat) (w : World) (A : Addr) (W1 W2 : World), i < n → n ≤ c → c ≤ 9223372036854775807 → n ≤ 4294967296 →
    (if c = i + 1 then some (⟨b, 0, none⟩ : Addr) else some ⟨b, (i + 1) * s, none⟩) = some A →
    (∀ ty, (Builtin.append_ #[T, T] ty #[.slice (some ⟨b, 0, none⟩) i c, .slice (some A) (n - (i + 1)) (c - (i + 1))]).run P w.drew = .ok (.slice (some ⟨b, 0, none⟩) (n - 1) c) W1) →
    (∀ ty, (Builtin.clear_ #[T] ty #[.slice (some ⟨b, (n - 1) * s, none⟩) 1 (c - (n - 1))]).run P W1 = .ok (.tuple #[]) W2) →
    Calls P f #[.slice (some ⟨b, 0, none⟩) n c, .int .i64 i, .int .i64 ((i : Int) + 1)] w fun e w' => e = .returned (.slice (some ⟨b, 0, none⟩) (n - 1) c) ∧ w' = W2
theorem ck_split {s : Nat} (l : List (Ck s)) (i : Nat) : l.flatMap (kC s).enc = (l.take i).flatMap (kC s).enc ++ (l.drop i).flatMap (kC s).enc := by rw [← List.flatMap_append, List.take_append_drop]
theorem ck_tlen {s : Nat} (l : List (Ck s)) (i : Nat) (hi : i ≤ l.length) : ((l.take i).flatMap (kC s).enc).length = i * s := by
  rw [len_flat, List.length_take, Nat.min_eq_left hi]
  rfl
theorem ck_take {s : Nat} (l : List (Ck s)) (i : Nat) (hi : i ≤ l.length) : (l.take i).flatMap (kC s).enc = (l.flatMap (kC s).enc).take (i * s) := by
  have h := ck_tlen l i hi
  rw [ck_split l i, List.take_append_of_le_length (Nat.le_of_eq h.symm), List.take_of_length_le (Nat.le_of_eq h)]
theorem ck_drop {s : Nat} (l : List (Ck s)) (i : Nat) (hi : i ≤ l.length) : (l.drop i).flatMap (kC s).enc = (l.flatMap (kC s).enc).drop (i * s) := by
  have h := ck_tlen l i hi
  rw [ck_split l i, List.drop_append_of_le_length (Nat.le_of_eq h.symm), List.drop_of_length_le (Nat.le_of_eq h), List.nil_append]
theorem gc_ok (w : World) {n c : Nat} (E : TypeId) (h : n ≤ 4294967297) : n ≤ grownCap w n c E ∧ grownCap w n c E ≤ maxLen := ⟨grownCap_ge _ _ _ _, grownCap_le_maxLen _ _ _ _ (by simp only [maxLen]; omega)⟩
theorem own_slot {α : Type} {K : Kd α} {E : TypeId} {w : World} {v : Value} {l : List α} (h : Own K E w 0 v l) (hne : 0 < l.length) : ∃ g cap cur, v = .slice (some ⟨g, 0, none⟩) l.length cap ∧ w.heap[g]? = some (.cells cur E (0, 0)) ∧ l.length ≤ cap ∧ cap ≤ maxLen ∧ cur.size = cap * K.size ∧ cur.toList.take (l.length * K.size) = l.flatMap K.enc := by
  rcases h.2 with ⟨_, h0⟩ | ⟨g, cap, cur, h1, _, h2, h3, h4, h5, h6⟩
  · omega
  · exact ⟨g, cap, cur, h1, h2, h3, h4, h5, h6⟩
theorem cells_of {w : World} {g : Nat} {cur : Array Value} {E : TypeId} {fz : Nat × Nat} (h : w.heap[g]? = some (.cells cur E fz)) {m o : Nat} {xs : List Value} (ht : (cur.toList.drop o).take m = xs) : ∀ j v, xs[j]? = some v → w.cell? ((⟨g, o, none⟩ : Addr).add j) = some v := by
  intro j v hj
  rw [Addr.add_lit]
  unfold World.cell?
  simp only [h]
  rw [← ht, List.getElem?_take] at hj
  split at hj
  · rw [List.getElem?_drop] at hj
    rw [← Array.getElem?_toList]
    exact hj
  · cases hj
theorem ins_own {f : FuncId} {T E : TypeId} {s bs : Nat} {zv : Value} (hW : InsW P f T E s) (hT : P.underlying T = some (.slice E)) (hU : P.underlying 3 = some (.int .i64)) (hE : elB P E = some (some zv, s, bs)) (hz : zv.cells.size = s) (hs : 0 < s) (hbs : Nat.ble bs 32768 = true)
    {w : World} {v vx : Value} {css : List (Ck s)} {cx : Ck s} (hv : Own (kC s) E w 0 v css) (hx : Own (kC s) E w 0 vx [cx]) (hne : ∀ g, v.ownBlock = some g → vx.ownBlock ≠ some g) {i : Nat} (hi : i ≤ css.length) (hlim : css.length + 1 ≤ LIM) :
    Calls P f #[v, .int .i64 i, vx] w fun e w' => ∃ v', e = .returned v' ∧ AppR (kC s) E 0 w v (css.take i ++ cx :: css.drop i) v' w' := by
  have ks : (kC s).size = s := rfl
  obtain ⟨inf, hinf, hinz, hins, hinb⟩ := elB_parts hE
  unfold LIM at hlim
  obtain ⟨vb, vc, curx, rfl, hbx, hcx, hmx, hsx, htx⟩ := own_slot hx (by simp)
  simp only [List.length_singleton, Nat.one_mul, ks, List.flatMap_cons, List.flatMap_nil, List.append_nil] at hcx hsx htx ⊢
  have hxl : cx.1.length = s := cx.2.1
  rcases Nat.eq_or_lt_of_le hi with he | hlt
  · subst he
    obtain ⟨v', w', hrun, hR⟩ := hv.append (P := P) (T := T) hx.rd 0 hT hE hz hs hbs (by unfold LIM; simpa using hlim) (Nat.zero_le _)
    obtain ⟨A, c, hve, hnc, hcm⟩ : ∃ A c, v = .slice A css.length c ∧ css.length ≤ c ∧ c ≤ 9223372036854775807 := by
      rcases hv.2 with ⟨rfl, h0⟩ | ⟨g, cap, cur, h1, _, h2, h3, h4, h5, h6⟩
      · exact ⟨none, 0, by rw [h0], by omega, by omega⟩
      · exact ⟨_, cap, h1, h3, by simp only [maxLen] at h4; omega⟩
    refine (hW.fin v v' A css.length c vb vc w w' hve hnc hcm (by omega) (fun ty => hrun)).mono ?_
    rintro e w'' ⟨rfl, rfl⟩
    refine ⟨v', rfl, ?_⟩
    rw [List.take_length, List.drop_length]
    exact hR
  · obtain ⟨g, cap, cur, rfl, hb, hcap, hmax, hcs, htk⟩ := own_slot hv (by omega)
    rw [ks] at hcs htk
    generalize hn : css.length = n at *
    generalize hF : css.flatMap (kC s).enc = F at *
    have hFl : F.length = n * s := by rw [← hF, len_flat, hn]; rfl
    have hcs' : cur.toList.length = cap * s := by simpa using hcs
    have hne' : vb ≠ g := fun e => hne g rfl (by rw [← e]; rfl)
    have e1 : i * s + (n - i) * s = n * s := by rw [← Nat.add_mul]; congr 1; omega
    have e2 : (i + 1) * s + (n - i) * s = (n + 1) * s := by rw [← Nat.add_mul]; congr 1; omega
    have e3 : (i + 1) * s = i * s + s := by rw [Nat.add_mul, Nat.one_mul]
    have hdl : (F.drop (i * s)).length = (n - i) * s := by rw [List.length_drop, hFl]; omega
    have hFc : ∀ {o m : Nat}, o + m ≤ n * s → (cur.toList.drop o).take m = (F.drop o).take m := fun {o m} h => by
      rw [← htk, List.drop_take, List.take_take, Nat.min_eq_left (by omega)]
    have hFd : (F.drop (i * s)).take ((n - i) * s) = F.drop (i * s) := List.take_of_length_le (by omega)
    have hinfs : (P.info? E).map (·.size) = some s := by rw [hinf]; simpa using hins
    have hFone : ∀ v ∈ F, v.oneCell' = true := by rw [← hF]; exact one_flat _ _
    have hout : ∀ {c2 : List Value}, (c2.take (i * s) = F.take (i * s)) → ((c2.drop (i * s)).take s = cx.1) → ((c2.drop ((i + 1) * s)).take ((n - i) * s) = F.drop (i * s)) → c2.take ((n + 1) * s) = (css.take i ++ cx :: css.drop i).flatMap (kC s).enc := fun {c2} h1 h2 h3 => by
      rw [List.flatMap_append, List.flatMap_cons, ck_take _ _ (by omega), ck_drop _ _ (by omega), hF]
      rw [← e2, List.take_add, e3, List.take_add, h1, h2, ← e3, h3, List.append_assoc]
      rfl
    by_cases hroom : n + 1 ≤ cap
    · have hcapm : (n + 1) * s ≤ cap * s := Nat.mul_le_mul_right _ hroom
      have hd : w.drew.heap[g]? = some (.cells cur E (0, 0)) := hb
      have hcp1 := fun ty dc sc => run_copy_rowS (P := P) w.drew T T ty E g ((i + 1) * s) (n - i) dc s (n - i) ⟨g, i * s, none⟩ (n + 1 - i) sc cur E (F.drop (i * s)) hT hinfs hd (by simp only [Nat.min_def]; split <;> omega) hdl
        (cells_of (m := (n - i) * s) hd (by rw [hFc (by omega), hFd])) (by rw [hdl, hcs]; omega) (fun v hv => hFone v (List.mem_of_mem_drop hv))
      rw [hdl] at hcp1
      generalize hC1 : cur.toList.take ((i + 1) * s) ++ F.drop (i * s) ++ cur.toList.drop ((i + 1) * s + (n - i) * s) = C1 at hcp1
      have hC1l : C1.length = cap * s := by rw [← hC1]; simp only [List.length_append, List.length_take, List.length_drop, hFl, hcs']; omega
      have hb1 : (w.drew.setRow g C1.toArray).heap[g]? = some (.cells C1.toArray E (0, 0)) := setRow_heap _ g cur _ E _ hd
      have hbx1 : (w.drew.setRow g C1.toArray).heap[vb]? = some (.cells curx E (0, 0)) := (setRow_other _ g vb _ hne').trans hbx
      have hcp2 := fun ty dc => run_copy_rowS (P := P) (w.drew.setRow g C1.toArray) T T ty E g (i * s) (n + 1 - i) dc s 1 ⟨vb, 0, none⟩ 1 vc C1.toArray E cx.1 hT hinfs hb1 (by simp only [Nat.min_def]; split <;> omega) (by rw [Nat.one_mul]; exact hxl)
        (cells_of (m := s) hbx1 (by rw [List.drop_zero]; exact htx)) (by simp only [List.size_toArray, hC1l, hxl]; omega) cx.2.2
      rw [hxl] at hcp2
      generalize hC2 : C1.toArray.toList.take (i * s) ++ cx.1 ++ C1.toArray.toList.drop (i * s + s) = C2 at hcp2
      simp only at hC2
      have hC2l : C2.length = cap * s := by rw [← hC2]; simp only [List.length_append, List.length_take, List.length_drop, hC1l, hxl]; omega
      have hc63 : cap ≤ 9223372036854775807 := by simp only [maxLen] at hmax; omega
      refine (hW.shift g n cap i vb vc w _ _ cur curx hlt hroom hc63 (by omega) hne' hb hbx (by rw [hcs]; exact Nat.mul_ne_zero (by omega) (by omega)) hcp1 hcp2).mono ?_
      rintro e w' ⟨rfl, rfl⟩
      have hb2 := setRow_heap (w.drew.setRow g C1.toArray) g C1.toArray C2.toArray E _ hb1
      refine ⟨_, rfl, ⟨?_, .inr ⟨g, cap, _, by simp [hn]; omega, Nat.zero_le _, hb2, ?_, hmax, ?_, ?_⟩⟩, ⟨rfl, rfl, rfl, by simp, fun k hk hn' => ?_⟩, fun g' hg' h => h⟩
      · rw [len_flat]
      · simp only [List.length_append, List.length_take, List.length_cons, List.length_drop, hn]; omega
      · rw [ks]; simpa using hC2l
      · rw [ks]
        simp only [List.length_append, List.length_take, List.length_cons, List.length_drop, hn]
        rw [show min i n + (n - i + 1) = n + 1 by omega]
        have l1 : (F.take (i * s)).length = i * s := by rw [List.length_take, hFl]; omega
        have hC1a : C1.take (i * s) = F.take (i * s) := by rw [← hC1, List.append_assoc, List.take_append_of_le_length (by rw [List.length_take, hcs']; omega), List.take_take, Nat.min_eq_left (by omega), ← htk, List.take_take, Nat.min_eq_left (by omega)]
        have hC1b : C1.drop (i * s + s) = F.drop (i * s) ++ cur.toList.drop ((i + 1) * s + (n - i) * s) := by rw [← e3, ← hC1, List.append_assoc, List.drop_append_of_le_length (by rw [List.length_take, hcs']; omega), List.drop_of_length_le (by rw [List.length_take, hcs']; omega), List.nil_append]
        have hC2' : C2 = F.take (i * s) ++ (cx.1 ++ (F.drop (i * s) ++ cur.toList.drop ((i + 1) * s + (n - i) * s))) := by rw [← hC2, hC1a, hC1b, List.append_assoc]
        refine hout ?_ ?_ ?_
        · rw [hC2', List.take_append_of_le_length (by omega), List.take_take, Nat.min_self]
        · rw [hC2', List.drop_append_of_le_length (by omega), List.drop_of_length_le (by omega), List.nil_append, List.take_append_of_le_length (by omega), List.take_of_length_le (by omega)]
        · rw [hC2', ← List.append_assoc, List.drop_append_of_le_length (by rw [List.length_append, l1, hxl]; omega), List.drop_of_length_le (by rw [List.length_append, l1, hxl]; omega), List.nil_append, List.take_append_of_le_length (by omega), hFd]
      · have : k ≠ g := fun e => hn' (by rw [e]; rfl)
        rw [setRow_other _ g k _ this, setRow_other _ g k _ this]
        rfl
    · have hcn : cap = n := by omega
      have hbi : (n + 1 - i) * inf.bytes ≤ 281474976710656 := by
        rw [hinb]
        have := Nat.mul_le_mul (show n + 1 - i ≤ 4294967297 by omega) (Nat.le_of_ble_eq_true hbs)
        omega
      have hfit : Builtin.nextslicecap (i + (n + 1 - i)) cap * inf.bytes ≤ 281474976710656 := by
        rw [hinb]
        refine growslice_fits (by omega) ?_
        have := Nat.mul_le_mul (show i + (n + 1 - i) ≤ 4294967296 by omega) (Nat.le_of_ble_eq_true hbs)
        omega
      have hFi : (F.take (i * s)).length = i * inf.size := by rw [hins, List.length_take, hFl]; omega
      have hap := fun ty => run_append_zeros_grow (P := P) w T 3 ty E inf zv .i64 .i64 hT hU hinf hinz g 0 i cap (n + 1 - i) (F.take (i * s)) hFi (cells_of (m := i * s) hb (by rw [List.drop_zero, ← htk, List.take_take, Nat.min_eq_left (by omega)])) (by omega) (by omega) (by omega) (by omega) hbi hfit
      rw [show i + (n + 1 - i) = n + 1 by omega, show (((n + 1 - i : Nat)) : Int) = (n : Int) + 1 - i by omega] at hap
      have hgc := gc_ok w (n := n + 1) (c := cap) E (by omega)
      generalize grownCap w (n + 1) cap E = c' at hap hgc
      have hzz : ∀ k, (Builtin.zeroCells zv.cells k).size = k * s := fun k => by rw [size_zeroCells, hz]
      generalize hC0 : (F.take (i * s)).toArray ++ (Builtin.zeroCells zv.cells (n + 1 - i) ++ Builtin.zeroCells zv.cells (c' - (n + 1))) = C0 at hap
      have hC0l : C0.toList.length = c' * s := by
        have : C0.size = i * s + ((n + 1 - i) * s + (c' - (n + 1)) * s) := by rw [← hC0, Array.size_append, Array.size_append, hzz, hzz, List.size_toArray, hFi, hins]
        rw [Array.length_toList, this, ← Nat.add_mul, ← Nat.add_mul]
        congr 1
        have := hgc.1
        omega
      have hC0t : C0.toList.take (i * s) = F.take (i * s) := by
        rw [← hC0]
        simp only [Array.toList_append]
        rw [List.take_append_of_le_length (by rw [hFi, hins]; exact Nat.le_refl _), List.take_take, Nat.min_self]
      have hwa : (w.drew.alloc (.cells C0 E)).heap[w.heap.size]? = some (.cells C0 E (0, 0)) := heap_alloc_new w.drew _
      have hlt' : ∀ k, k < w.heap.size → (w.drew.alloc (.cells C0 E)).heap[k]? = w.heap[k]? := fun k hk => heap_alloc_old w.drew _ hk
      have hgl : g < w.heap.size := (Array.getElem?_eq_some_iff.1 hb).1
      have hvl : vb < w.heap.size := (Array.getElem?_eq_some_iff.1 hbx).1
      have hcm : (n + 1) * s ≤ c' * s := Nat.mul_le_mul_right _ hgc.1
      generalize hW0 : w.drew.alloc (.cells C0 E) = W0 at *
      obtain ⟨G, hG⟩ : ∃ G, G = w.heap.size := ⟨_, rfl⟩
      rw [← hG] at hwa hap hgl hvl
      have hcp1 := fun ty dc => run_copy_rowS (P := P) W0 T T ty E G (i * s) (n + 1 - i) dc s 1 ⟨vb, 0, none⟩ 1 vc C0 E cx.1 hT hinfs hwa (by simp only [Nat.min_def]; split <;> omega) (by rw [Nat.one_mul]; exact hxl)
        (cells_of (m := s) ((hlt' vb (by omega)).trans hbx) (by rw [List.drop_zero]; exact htx)) (by rw [← Array.length_toList, hC0l, hxl]; omega) cx.2.2
      rw [hxl] at hcp1
      generalize hC1 : C0.toList.take (i * s) ++ cx.1 ++ C0.toList.drop (i * s + s) = C1 at hcp1
      have hC1l : C1.length = c' * s := by rw [← hC1]; simp only [List.length_append, List.length_take, List.length_drop, hC0l, hxl]; omega
      have hb1 : (W0.setRow G C1.toArray).drew.heap[G]? = some (.cells C1.toArray E (0, 0)) := setRow_heap _ G C0 _ E _ hwa
      have hb1o : ∀ k, k < G → (W0.setRow G C1.toArray).drew.heap[k]? = w.heap[k]? := fun k hk => (setRow_other _ G k _ (by omega)).trans (hlt' k (by omega))
      have hcp2 := fun ty dc sc => run_copy_rowS (P := P) (W0.setRow G C1.toArray).drew T T ty E G ((i + 1) * s) (n - i) dc s (n - i) ⟨g, i * s, none⟩ (n - i) sc C1.toArray E (F.drop (i * s)) hT hinfs hb1 (by simp) hdl
        (cells_of (m := (n - i) * s) ((hb1o g hgl).trans hb) (by rw [hFc (by omega), hFd])) (by rw [hdl, List.size_toArray, hC1l]; omega) (fun v hv => hFone v (List.mem_of_mem_drop hv))
      rw [hdl] at hcp2
      generalize hC2 : C1.toArray.toList.take ((i + 1) * s) ++ F.drop (i * s) ++ C1.toArray.toList.drop ((i + 1) * s + (n - i) * s) = C2 at hcp2
      simp only at hC2
      have hC2l : C2.length = c' * s := by rw [← hC2]; simp only [List.length_append, List.length_take, List.length_drop, hC1l, hdl]; omega
      have hc63 : cap ≤ 9223372036854775807 := by omega
      have hc63' : c' ≤ 9223372036854775807 := by have := hgc.2; simp only [maxLen] at this; omega
      refine (hW.grow g n cap i vb vc G c' w _ _ _ hlt hcap (by omega) hc63 (by omega) hgc.1 hc63' hap hcp1 hcp2).mono ?_
      rintro e w' ⟨rfl, rfl⟩
      have hb2 := setRow_heap (W0.setRow G C1.toArray).drew G C1.toArray C2.toArray E _ hb1
      have hsz : W0.heap.size = w.heap.size + 1 := by rw [← hW0]; simp
      refine ⟨_, rfl, ⟨?_, .inr ⟨G, c', _, by simp [hn]; omega, Nat.zero_le _, hb2, ?_, hgc.2, ?_, ?_⟩⟩, ⟨by rw [← hW0]; rfl, by rw [← hW0]; rfl, by rw [← hW0]; rfl, ?_, fun k hk hn' => ?_⟩, fun g' hg' h => ?_⟩
      · rw [len_flat]
      · simp only [List.length_append, List.length_take, List.length_cons, List.length_drop, hn]; omega
      · rw [ks]; simpa using hC2l
      · rw [ks]
        simp only [List.length_append, List.length_take, List.length_cons, List.length_drop, hn]
        rw [show min i n + (n - i + 1) = n + 1 by omega]
        have hC1d : C1.take ((i + 1) * s) = F.take (i * s) ++ cx.1 := by
          rw [← hC1, e3, ← hC0t]
          exact List.take_left' (by rw [List.length_append, List.length_take, hxl, hC0l]; omega)
        have hC2' : C2 = (F.take (i * s) ++ cx.1) ++ (F.drop (i * s) ++ C1.drop ((i + 1) * s + (n - i) * s)) := by rw [← hC2, ← hC1d, List.append_assoc]
        have l1 : (F.take (i * s)).length = i * s := by rw [List.length_take, hFl]; omega
        refine hout ?_ ?_ ?_
        · rw [hC2', List.append_assoc, List.take_append_of_le_length (by omega), List.take_take, Nat.min_self]
        · rw [hC2', List.append_assoc, List.drop_append_of_le_length (by omega), List.drop_of_length_le (by omega), List.nil_append, List.take_append_of_le_length (by omega), List.take_of_length_le (by omega)]
        · rw [hC2', List.drop_append_of_le_length (by rw [List.length_append, l1, hxl]; omega), List.drop_of_length_le (by rw [List.length_append, l1, hxl]; omega), List.nil_append, List.take_append_of_le_length (by omega), hFd]
      · simp only [setRow_size]
        show w.heap.size ≤ (W0.setRow G C1.toArray).heap.size
        rw [setRow_size, hsz]
        omega
      · have : k ≠ G := by omega
        exact (setRow_other _ G k _ this).trans (hb1o k (by omega))
      · intro e
        simp only [Value.ownBlock, Option.some.injEq] at e
        omega
end
section
variable {Γ : Gm} {P : Program} {C : Ct Γ} {w w' : World} {F : Nat → Prop} {β : Bt}
theorem lk_gone {n k : Nat} {q r : Res Γ} (h : lk (List.replicate n .gone ++ [q]) k = some r) : r = .gone ∨ k = n ∧ r = q := by
  unfold lk at h
  rcases Nat.lt_trichotomy k n with hk | hk | hk
  · rw [List.getElem?_append_left (by simpa using hk), List.getElem?_replicate, if_pos hk] at h
    cases h
    exact .inl rfl
  · subst hk
    rw [List.getElem?_append_right (by simp)] at h
    simp at h
    exact .inr ⟨rfl, h.symm⟩
  · rw [List.getElem?_eq_none (by simp; omega)] at h
    cases h
theorem left_row {A : List (SV Γ)} {R : List (Res Γ)} (hs : HS C β F w (lk R)) (hn : ∀ b, R.length ≤ b → β b = none) {t : Ty Γ.S} {E : TypeId} {v u : Value} {css : List (Ck (sz Γ t))} {l : List (el Γ.toSg t)} {n : Nat}
    (h0 : ∀ g, v.ownBlock = some g → ∃ b, own β (lk R) b g) (hR : AppR (kC (sz Γ t)) E 0 w v css u w') (hk : CK w F t l css) :
    Left C (st0 A R) β F w (.sl R.length n []) (st0 [] (List.replicate R.length .gone ++ [.row t E l])) u w' := by
  obtain ⟨hO, fr, hoff⟩ := hR
  have same : ∀ k, F k → w'.heap[k]? = w.heap[k]? := fun k hk => fr.blk k (hs.fsz k hk) (fun h => by obtain ⟨b, hb⟩ := h0 k h.symm; exact hs.dis b k hb hk)
  have hub : ∀ g, blk u = some g → (∃ b, own β (lk R) b g) ∨ w.heap.size ≤ g := fun g hg => by
    have hg' := blk_ob (own_slice hO) hg
    rcases Nat.lt_or_ge g w.heap.size with h | h
    · by_cases e : v.ownBlock = some g
      · exact .inl (h0 g e)
      · exact absurd hg' (hoff g h e)
    · exact .inr h
  have hβ : ∀ r v1 (k : Nat), lk (List.replicate R.length .gone ++ [.row t E l]) k = some r → mtb r = true → (fun b => if b = R.length then some u else β b) k = some v1 → k = R.length ∧ v1 = u := fun r v1 k a b c => by
    rcases lk_gone a with rfl | ⟨rfl, rfl⟩
    · cases b
    · simp at c
      exact ⟨rfl, c.symm⟩
  refine ⟨fun b => if b = R.length then some u else β b, F, ⟨fun k v1 hk => ?_, fun _ h => h, fr.mono fun j hj => h0 j hj.symm, fun _ h => .inl h⟩, ⟨fun k r hk' => ?_, fun k k' g h1 h2 => ?_, fun k g h1 => ?_, fun k hk => Nat.lt_of_lt_of_le (hs.fsz k hk) fr.size, ?_⟩, fun k hk => ?_, vr_sl (by simp) (own_slice hO), fun k g h1 => ?_⟩
  · have : k ≠ R.length := fun e => by rw [hn k (by omega)] at hk; cases hk
    simpa [this] using hk
  · rcases lk_gone hk' with rfl | ⟨rfl, rfl⟩
    · trivial
    · exact ⟨u, css, by simp, hO, hk.mono (fun _ h => h) same⟩
  · obtain ⟨r1, v1, a1, b1, c1, d1⟩ := h1
    obtain ⟨r2, v2, a2, b2, c2, d2⟩ := h2
    rw [(hβ _ _ _ a1 b1 c1).1, (hβ _ _ _ a2 b2 c2).1]
  · obtain ⟨r1, v1, a1, b1, c1, d1⟩ := h1
    obtain ⟨_, rfl⟩ := hβ _ _ _ a1 b1 c1
    intro hF
    rcases hub g d1 with ⟨b, hb⟩ | h
    · exact hs.dis b g hb hF
    · exact absurd (hs.fsz g hF) (by omega)
  · exact gl_mono (s := st0 A R) (β' := β) hs (fun _ h => h) same
  · have hk' : R.length + 1 ≤ k := by simpa [st0] using hk
    have : k ≠ R.length := by omega
    simp only [this, if_false]
    exact hn k (by omega)
  · obtain ⟨r1, v1, a1, b1, c1, d1⟩ := h1
    obtain ⟨_, rfl⟩ := hβ _ _ _ a1 b1 c1
    exact hub g d1
def rowB (P : Program) (E : TypeId) (n : Nat) : Bool := match P.info? E with
  | some i => match i.zero with
    | some z => Nat.beq z.cells.size n && z.cells.toList.all (·.oneCell') && Nat.beq i.size n && Nat.ble i.bytes 32768
    | none => false
  | none => false
theorem rowB_ok {E : TypeId} {n : Nat} (h : rowB P E n = true) : ∃ zv bs, elB P E = some (some zv, n, bs) ∧ zv.cells.size = n ∧ zv.cells.toList.all (·.oneCell') = true ∧ Nat.ble bs 32768 = true := by
  unfold rowB at h
  split at h
  · rename_i i hi
    split at h
    · rename_i z hz
      simp only [Bool.and_eq_true] at h
      obtain ⟨⟨⟨h1, h2⟩, h3⟩, h4⟩ := h
      refine ⟨z, i.bytes, ?_, Nat.eq_of_beq_eq_true h1, h2, h4⟩
      unfold elB
      rw [hi, Option.map_some, hz, Nat.eq_of_beq_eq_true h3]
    · cases h
  · cases h
theorem sc_ins {f : FuncId} {T E : TypeId} {t : Ty Γ.S} (hcal : calB P f = some true) (hW : InsW P f T E (sz Γ t)) (hT : P.underlying T = some (.slice E)) (hU : P.underlying 3 = some (.int .i64)) (hB : rowB P E (sz Γ t) = true) (hp : Nat.blt 0 (sz Γ t) = true)
    {l m : List (el Γ.toSg t)} {i : Int} (h0 : 0 ≤ i ∧ i ≤ (l.length : Int)) (hm : m.length = 1) (hlim : l.length + 1 ≤ LIM) :
    SC P C f [.sl 0 (sz Γ t) [], .v (.int .i64) i, .sl 1 (sz Γ t) []] [.row t E l, .row t E m] (.sl 2 (sz Γ t) []) [.gone, .gone, .row t E (l.take i.toNat ++ (m ++ l.drop i.toNat))] := by
  obtain ⟨zv, bs, hE, hz, hz1, hbs⟩ := rowB_ok hB
  match m, hm with
  | [x], _ =>
  refine ⟨hcal, fun β F w us hs hn hu => ?_⟩
  obtain ⟨u0, r, rfl, h1, hr⟩ := hu.cons_inv
  obtain ⟨u1, r', rfl, h2, hr'⟩ := hr.cons_inv
  obtain ⟨u2, r'', rfl, h3, hr''⟩ := hr'.cons_inv
  cases hr''
  obtain ⟨v0, e0, _, hv⟩ := h1.sl
  have hv : u0 = v0 := hv
  subst hv
  obtain ⟨v2, e2, _, hv⟩ := h3.sl
  have hv : u2 = v2 := hv
  subst hv
  have h2 := h2.int
  subst h2
  obtain ⟨v, css, e1, hO, hK⟩ := hs.rr 0 _ rfl
  rw [e0] at e1
  cases e1
  obtain ⟨v, csx, e1, hOx, hKx⟩ := hs.rr 1 _ rfl
  rw [e2] at e1
  cases e1
  cases hKx with
  | @cons _ cx _ css' hcx hnil =>
  cases hnil
  have hlen := hK.len
  obtain ⟨k, rfl⟩ := Int.eq_ofNat_of_zero_le h0.1
  have ow : ∀ {b : Nat} {v g}, b < 2 → β b = some v → v.ownBlock = some g → own β (lk [(.row t E l : Res Γ), .row t E [x]]) b g := fun {b v g} hb h1 h2 => by
    match b, hb with
    | 0, _ => exact ⟨_, _, rfl, rfl, h1, by cases v <;> simp [Value.ownBlock] at h2; rename_i a _ _; cases a <;> simp at h2; simp [blk, h2]⟩
    | 1, _ => exact ⟨_, _, rfl, rfl, h1, by cases v <;> simp [Value.ownBlock] at h2; rename_i a _ _; cases a <;> simp at h2; simp [blk, h2]⟩
  refine Calls.mono (ins_own (i := k) hW hT hU hE hz (by simpa [Nat.blt_eq] using hp) hbs hO hOx (fun g h1 h2 => absurd (hs.sep 0 1 g (ow (by omega) e0 h1) (ow (by omega) e2 h2)) (by decide)) (by omega) (by omega)) ?_
  rintro e w' ⟨v', rfl, hR⟩
  refine ⟨v', rfl, ?_⟩
  have hk2 : CK w F t (l.take k ++ (x :: l.drop k)) (css.take k ++ cx :: css.drop k) := (hK.take k).append (.cons hcx (hK.drop k))
  exact left_row (R := [.row t E l, .row t E [x]]) hs hn (fun g h => ⟨0, ow (by omega) e0 h⟩) hR hk2
end
end Go.Yw
namespace Go.Proofs.YtdifnahlheogdaaDoor
open Go Go.Xw Go.Yw
theorem slices_Insert.shift (b n c i vb vc : Nat) (w W1 W2 : World) (cur curx : Array Value) (hi : i < n) (hroom : n + 1 ≤ c) (hc63 : c ≤ 9223372036854775807) (hn : n ≤ 4294967296) (hvb : vb ≠ b) (hb : w.heap[b]? = some (.cells cur 148 (0, 0))) (hx : w.heap[vb]? = some (.cells curx 148 (0, 0))) (hz : cur.size ≠ 0)
  (hcp1 : ∀ ty dc sc, (Builtin.copy_ #[138, 138] ty #[.slice (some ⟨b, (i + 1) * 15, none⟩) (n - i) dc, .slice (some ⟨b, i * 15, none⟩) (n + 1 - i) sc]).run Tryd.prog w.drew = .ok (goInt (n - i : Nat)) W1)
  (hcp2 : ∀ ty dc, (Builtin.copy_ #[138, 138] ty #[.slice (some ⟨b, i * 15, none⟩) (n + 1 - i) dc, .slice (some ⟨vb, 0, none⟩) 1 vc]).run Tryd.prog W1 = .ok (goInt 1) W2) :
  Calls Tryd.prog 87 #[.slice (some ⟨b, 0, none⟩) n c, .int .i64 i, .slice (some ⟨vb, 0, none⟩) 1 vc] w fun e w' => e = .returned (.slice (some ⟨b, 0, none⟩) (n + 1) c) ∧ w' = W2 := by
 have hov : ∀ lb cb, (callFunc 113 #[.slice (some ⟨vb, 0, none⟩) 1 vc, .slice (some ⟨b, (i + 1) * 15, none⟩) lb cb]).run Tryd.prog w = .ok (.value (.bool false)) w := fun lb cb => by
  rw [run_callFunc_extern Tryd.func113 (by kernel_rfl) (by kernel_rfl) (by kernel_rfl) (e := Extern.SlicesOverlaps.overlaps #[138, 138] #[4]) (by kernel_rfl),
   Lib.run_overlaps_apart w 138 4 148 Tryd.underlying138 15 Tryd.sizeOf148 ⟨vb, 0, none⟩ ⟨b, (i + 1) * 15, none⟩ 1 vc lb cb hvb 148 148 curx.size cur.size (by simp [World.shape?, hx]) (by simp [World.shape?, hb]) hz (by simp [World.frozen?, hx]) (by simp [World.frozen?, hx])]
  rfl
 have hz2 : ¬ ((i : Int) = (n : Int)) := by omega
 have hw1 : IntKind.i64.wrap ((i : Int) + (1 : Int)) = (i : Int) + (1 : Int) := by rw [IntKind.wrap_i64]; omega
 have hw2 : IntKind.i64.wrap ((n : Int) + (1 : Int)) = (n : Int) + (1 : Int) := by rw [IntKind.wrap_i64]; omega
 have hb1 : (0 : Int) ≤ (i : Int) + (1 : Int) := by omega
 have hin : i ≤ n := by omega
 have htn : ((i : Int) + (1 : Int)).toNat = i + 1 := by omega
 have hb2 : ¬ (c = i + 1) := by omega
 have hb3 : (i : Int) ≤ (n : Int) + (1 : Int) := by omega
 have hb4 : ¬ (c = i) := by omega
 have mixed : Tryd.prog.follows .mixedOrders = true := by kernel_rfl
 go_enter Tryd.func87, Tryd.ntmps87
 go_wp2_with (simp only [hov])
 go_region_law_o (refine step_copy_runJ rfl _ _ 138 138 rfl _ _ (by simp [Act.eval, Act.put]) (by simp [Act.eval, Act.put]) (hcp1 _ _ _) ?_)
 go_wp2_with (at_builtin; refine wpList_copy_runJ _ rfl _ _ 138 138 rfl _ _ rfl rfl (hcp2 _ _) ?_)
 go_ret
 exact ⟨rfl, rfl⟩
theorem slices_Insert.grow (b n c i vb vc g' c' : Nat) (w W0 W1 W2 : World) (hi : i < n) (hnc : n ≤ c) (hroom : c < n + 1) (hc63 : c ≤ 9223372036854775807) (hn : n ≤ 4294967296) (hgc : n + 1 ≤ c') (hc63' : c' ≤ 9223372036854775807)
 (hap : ∀ ty, (Builtin.append_ #[138, 3] ty #[.slice (some ⟨b, 0, none⟩) i c, .int .i64 ((n : Int) + 1 - i)]).run Tryd.prog w = .ok (.slice (some ⟨g', 0, none⟩) (n + 1) c') W0)
 (hcp1 : ∀ ty dc, (Builtin.copy_ #[138, 138] ty #[.slice (some ⟨g', i * 15, none⟩) (n + 1 - i) dc, .slice (some ⟨vb, 0, none⟩) 1 vc]).run Tryd.prog W0 = .ok (goInt 1) W1)
 (hcp2 : ∀ ty dc sc, (Builtin.copy_ #[138, 138] ty #[.slice (some ⟨g', (i + 1) * 15, none⟩) (n - i) dc, .slice (some ⟨b, i * 15, none⟩) (n - i) sc]).run Tryd.prog W1.drew = .ok (goInt (n - i : Nat)) W2) :
  Calls Tryd.prog 87 #[.slice (some ⟨b, 0, none⟩) n c, .int .i64 i, .slice (some ⟨vb, 0, none⟩) 1 vc] w fun e w' =>
   e = .returned (.slice (some ⟨g', 0, none⟩) (n + 1) c') ∧ w' = W2 := by
 have hz2 : ¬ ((i : Int) = (n : Int)) := by omega
 have hw1 : IntKind.i64.wrap ((i : Int) + (1 : Int)) = (i : Int) + (1 : Int) := by rw [IntKind.wrap_i64]; omega
 have hw2 : IntKind.i64.wrap ((n : Int) + (1 : Int)) = (n : Int) + (1 : Int) := by rw [IntKind.wrap_i64]; omega
 have hw3 : IntKind.i64.wrap ((n : Int) + (1 : Int) - (i : Int)) = (n : Int) + (1 : Int) - (i : Int) := by rw [IntKind.wrap_i64]; omega
 have hb1 : (0 : Int) ≤ (i : Int) + (1 : Int) := by omega
 have hin : i ≤ n := by omega
 have htn : ((i : Int) + (1 : Int)).toNat = i + 1 := by omega
 have hb2 : ¬ (c' = i + 1) := by omega
 have hb3 : (i : Int) ≤ (n : Int) + (1 : Int) := by omega
 have hb4 : ¬ (c = i) := by omega
 have hb5 : ¬ (c' = i) := by omega
 have mixed : Tryd.prog.follows .mixedOrders = true := by kernel_rfl
 go_enter Tryd.func87, Tryd.ntmps87
 go_wp2_with (at_builtin; first | refine Lib.wpList_append_run _ rfl _ _ _ _ rfl _ _ rfl rfl _ _ (hap _) ?_ | refine wpList_copy_runJ _ rfl _ _ 138 138 rfl _ _ rfl rfl (hcp1 _ _) ?_)
 go_region_law_o (refine step_copy_runJ rfl _ _ 138 138 rfl _ _ (by simp [Act.eval, Act.put]) (by simp [Act.eval, Act.put]) (hcp2 _ _ _) ?_)
 go_wp2
 go_ret
 exact ⟨rfl, rfl⟩
theorem slices_Insert.fin (v v' : Value) (A : Option Addr) (n c vb vc : Nat) (w W2 : World) (hv : v = .slice A n c) (hnc : n ≤ c) (hc63 : c ≤ 9223372036854775807) (hn : n ≤ 4294967296)
 (hap : ∀ ty, (Builtin.append_ #[138, 138] ty #[v, .slice (some ⟨vb, 0, none⟩) 1 vc]).run Tryd.prog w = .ok v' W2) :
  Calls Tryd.prog 87 #[v, .int .i64 n, .slice (some ⟨vb, 0, none⟩) 1 vc] w fun e w' => e = .returned v' ∧ w' = W2 := by
 subst hv
 have mixed : Tryd.prog.follows .mixedOrders = true := by kernel_rfl
 go_enter Tryd.func87, Tryd.ntmps87
 cases A with
 | none =>
  go_wp2_with (at_builtin; refine Lib.wpList_append_run _ rfl _ _ _ _ rfl _ _ rfl rfl _ _ (hap _) ?_)
  go_ret
  exact ⟨rfl, rfl⟩
 | some a =>
  obtain ⟨ab, ao, asp⟩ := a
  go_wp2_with (at_builtin; refine Lib.wpList_append_run _ rfl _ _ _ _ rfl _ _ rfl rfl _ _ (hap _) ?_)
  all_goals (go_ret; exact ⟨rfl, rfl⟩)
theorem slices_Insert.ins : InsW Tryd.prog 87 138 148 15 := ⟨slices_Insert.shift, slices_Insert.grow, slices_Insert.fin⟩
def slices_Insert.f (fu : Nat) (a0 : List S_dir_listed) (a1 : Int) (a2 : List S_dir_listed) : Option (List S_dir_listed) := if (0 ≤ a1 ∧ a1 ≤ (List.length a0 : Int)) ∧ List.length a2 = 1 ∧ List.length a0 + 1 ≤ LIM then some (a0.take a1.toNat ++ (a2 ++ a0.drop a1.toNat)) else none
theorem slices_Insert.sc (fu : Nat) (a0 : List S_dir_listed) (a1 : Int) (a2 : List S_dir_listed) (r : List S_dir_listed) (h : slices_Insert.f fu a0 a1 a2 = some r) : SC Tryd.prog CT 87 [.sl 0 15 [], vi .i64 a1, .sl 1 15 []] [.row (.st .S_dir_listed) 148 (a0 : List S_dir_listed), .row (.st .S_dir_listed) 148 (a2 : List S_dir_listed)] (.sl 2 15 []) [.gone, .gone, .row (.st .S_dir_listed) 148 (r : List S_dir_listed)] := by
 unfold slices_Insert.f at h
 obtain ⟨g, h⟩ := gs h
 cases h
 exact sc_ins (Γ := G) (t := .st .S_dir_listed) (by kernel_rfl) slices_Insert.ins Tryd.underlying138 Tryd.underlying3 (by kernel_rfl) (by kernel_rfl) g.1 g.2.1 g.2.2
def dir_Add.f (fu : Nat) (a0 : S_shadow_Store) (a1 : Int) (a2 : List UInt8) : Option (Int × Int × S_shadow_Store) := ((dir_read.f fu a0 a1).bind fun t1 => (if (!decide (t1.2 = 0)) then some (0, t1.2, a0) else ((label_PutQueue.f fu (⟨a2, (0 : Int), (Arr.rep 12 (0 : Int))⟩ : S_api_Queue)).bind fun t4 => (if (!t4.2) then some (0, 14, a0) else ((dir_place.f fu t1.1 a2).bind fun t7 => (if t7.2 then some (0, 16, a0) else (if (decide ((List.length t1.1 : Int) = 16)) then some (0, 20, a0) else ((shadow_Store_Make.f fu a0 t4.1).bind fun t11 => (if (!decide (t11.2.1 = 0)) then some (0, t11.2.1, t11.2.2) else ((slices_Insert.f fu t1.1 t7.1 [(⟨(⟨a2, (0 : Int), (Arr.rep 12 (0 : Int))⟩ : S_api_Queue), t11.1⟩ : S_dir_listed)]).bind fun t14 => ((dir_lay.f fu t11.2.2 a1 t14).bind fun t16 => some (t16.1, t16.2.1, t16.2.2))))))))))))
theorem dir_Add.sc (fu : Nat) (a0 : S_shadow_Store) (a1 : Int) (a2 : List UInt8) (r : Int × Int × S_shadow_Store) (h : dir_Add.f fu a0 a1 a2 = some r) : SC Tryd.prog CT 48 [.ptr 0 0, vi .i64 a1, vs a2] [.box 114 (.agg [.ptr 1 0, .ptr 4 0]), .box 105 (.agg [.sl 2 4 [], .agg [.sl 3 1 [], vi .i64 a0.device.plan.at_], vb a0.device.off, vb a0.device.armed, vi .i64 a0.device.left, vi .i64 a0.device.steps]), .row (.st .S_pmem_cell) 125 (a0.device.cells : List S_pmem_cell), .row (.int .i64) 3 (a0.device.plan.list : List Int), .box 108 (.agg [vi .i64 a0.blocks.reserve, .agg [.ptr 5 0, .ptr 7 0, .ptr 9 0, .ptr 11 0]]), .box 112 (.agg [vi .i64 a0.blocks.sets.1.size, .sl 6 1 []]), .row (.int .u64) 119 (a0.blocks.sets.1.words : List Int), .box 112 (.agg [vi .i64 a0.blocks.sets.2.1.size, .sl 8 1 []]), .row (.int .u64) 119 (a0.blocks.sets.2.1.words : List Int), .box 112 (.agg [vi .i64 a0.blocks.sets.2.2.1.size, .sl 10 1 []]), .row (.int .u64) 119 (a0.blocks.sets.2.2.1.words : List Int), .box 112 (.agg [vi .i64 a0.blocks.sets.2.2.2.size, .sl 12 1 []]), .row (.int .u64) 119 (a0.blocks.sets.2.2.2.words : List Int)] (.tup [vi .i64 r.1, vi .i64 r.2.1]) [.box 114 (.agg [.ptr 1 0, .ptr 4 0]), .box 105 (.agg [.sl 2 4 [], .agg [.sl 3 1 [], vi .i64 r.2.2.device.plan.at_], vb r.2.2.device.off, vb r.2.2.device.armed, vi .i64 r.2.2.device.left, vi .i64 r.2.2.device.steps]), .row (.st .S_pmem_cell) 125 (r.2.2.device.cells : List S_pmem_cell), .row (.int .i64) 3 (r.2.2.device.plan.list : List Int), .box 108 (.agg [vi .i64 r.2.2.blocks.reserve, .agg [.ptr 5 0, .ptr 7 0, .ptr 9 0, .ptr 11 0]]), .box 112 (.agg [vi .i64 r.2.2.blocks.sets.1.size, .sl 6 1 []]), .row (.int .u64) 119 (r.2.2.blocks.sets.1.words : List Int), .box 112 (.agg [vi .i64 r.2.2.blocks.sets.2.1.size, .sl 8 1 []]), .row (.int .u64) 119 (r.2.2.blocks.sets.2.1.words : List Int), .box 112 (.agg [vi .i64 r.2.2.blocks.sets.2.2.1.size, .sl 10 1 []]), .row (.int .u64) 119 (r.2.2.blocks.sets.2.2.1.words : List Int), .box 112 (.agg [vi .i64 r.2.2.blocks.sets.2.2.2.size, .sl 12 1 []]), .row (.int .u64) 119 (r.2.2.blocks.sets.2.2.2.words : List Int)] := by
 unfold dir_Add.f at h
 refine sq Tryd.func48 r (fun r => .tup [vi .i64 r.1, vi .i64 r.2.1]) (fun r => [.box 114 (.agg [.ptr 1 0, .ptr 4 0]), .box 105 (.agg [.sl 2 4 [], .agg [.sl 3 1 [], vi .i64 r.2.2.device.plan.at_], vb r.2.2.device.off, vb r.2.2.device.armed, vi .i64 r.2.2.device.left, vi .i64 r.2.2.device.steps]), .row (.st .S_pmem_cell) 125 (r.2.2.device.cells : List S_pmem_cell), .row (.int .i64) 3 (r.2.2.device.plan.list : List Int), .box 108 (.agg [vi .i64 r.2.2.blocks.reserve, .agg [.ptr 5 0, .ptr 7 0, .ptr 9 0, .ptr 11 0]]), .box 112 (.agg [vi .i64 r.2.2.blocks.sets.1.size, .sl 6 1 []]), .row (.int .u64) 119 (r.2.2.blocks.sets.1.words : List Int), .box 112 (.agg [vi .i64 r.2.2.blocks.sets.2.1.size, .sl 8 1 []]), .row (.int .u64) 119 (r.2.2.blocks.sets.2.1.words : List Int), .box 112 (.agg [vi .i64 r.2.2.blocks.sets.2.2.1.size, .sl 10 1 []]), .row (.int .u64) 119 (r.2.2.blocks.sets.2.2.1.words : List Int), .box 112 (.agg [vi .i64 r.2.2.blocks.sets.2.2.2.size, .sl 12 1 []]), .row (.int .u64) 119 (r.2.2.blocks.sets.2.2.2.words : List Int)]) fun X => ?_
 refine bk h fun t1 k2 h => ?_
 refine cl4 cok.g (dir_read.sc fu _ _ _ k2) (.tup [.sl 26 15 [], vi .i64 t1.2]) [(0, .box 114 (.agg [.ptr 1 0, .ptr 4 0])), (1, .box 105 (.agg [.sl 2 4 [], .agg [.sl 3 1 [], vi .i64 a0.device.plan.at_], vb a0.device.off, vb a0.device.armed, vi .i64 a0.device.left, vi .i64 a0.device.steps])), (2, .row (.st .S_pmem_cell) 125 (a0.device.cells : List S_pmem_cell)), (3, .row (.int .i64) 3 (a0.device.plan.list : List Int)), (4, .box 108 (.agg [vi .i64 a0.blocks.reserve, .agg [.ptr 5 0, .ptr 7 0, .ptr 9 0, .ptr 11 0]])), (5, .box 112 (.agg [vi .i64 a0.blocks.sets.1.size, .sl 6 1 []])), (6, .row (.int .u64) 119 (a0.blocks.sets.1.words : List Int)), (7, .box 112 (.agg [vi .i64 a0.blocks.sets.2.1.size, .sl 8 1 []])), (8, .row (.int .u64) 119 (a0.blocks.sets.2.1.words : List Int)), (9, .box 112 (.agg [vi .i64 a0.blocks.sets.2.2.1.size, .sl 10 1 []])), (10, .row (.int .u64) 119 (a0.blocks.sets.2.2.1.words : List Int)), (11, .box 112 (.agg [vi .i64 a0.blocks.sets.2.2.2.size, .sl 12 1 []])), (12, .row (.int .u64) 119 (a0.blocks.sets.2.2.2.words : List Int)), (26, .row (.st .S_dir_listed) 148 (t1.1 : List S_dir_listed))] 27 ?_
 refine t_cond cok ?_
 refine bi h (fun c3 h => ?_) (fun c3 h => ?_)
 ·skip
  exact fk h
 refine bk h fun t4 k5 h => ?_
 refine cl4 cok.g (label_PutQueue.sc fu _ _ k5) (.tup [.sl 28 1 [], vb t4.2]) [(28, .row (.int .u8) 5 (t4.1 : List Int))] 29 ?_
 refine t_cond cok ?_
 refine bi h (fun c6 h => ?_) (fun c6 h => ?_)
 ·skip
  exact fk h
 refine bk h fun t7 k8 h => ?_
 refine cl4 cok.g (dir_place.sc fu _ _ _ k8) (.tup [vi .i64 t7.1, vb t7.2]) [] 29 ?_
 refine t_cond cok ?_
 refine bi h (fun c9 h => ?_) (fun c9 h => ?_)
 ·skip
  exact fk h
 refine t_cond cok ?_
 refine bi h (fun c10 h => ?_) (fun c10 h => ?_)
 ·skip
  exact fk h
 refine bk h fun t11 k12 h => ?_
 refine cl4 cok.g (shadow_Store_Make.sc fu _ _ _ k12) (.tup [vi .i64 t11.1, vi .i64 t11.2.1]) [(0, .box 114 (.agg [.ptr 1 0, .ptr 4 0])), (1, .box 105 (.agg [.sl 2 4 [], .agg [.sl 3 1 [], vi .i64 t11.2.2.device.plan.at_], vb t11.2.2.device.off, vb t11.2.2.device.armed, vi .i64 t11.2.2.device.left, vi .i64 t11.2.2.device.steps])), (2, .row (.st .S_pmem_cell) 125 (t11.2.2.device.cells : List S_pmem_cell)), (3, .row (.int .i64) 3 (t11.2.2.device.plan.list : List Int)), (4, .box 108 (.agg [vi .i64 t11.2.2.blocks.reserve, .agg [.ptr 5 0, .ptr 7 0, .ptr 9 0, .ptr 11 0]])), (5, .box 112 (.agg [vi .i64 t11.2.2.blocks.sets.1.size, .sl 6 1 []])), (6, .row (.int .u64) 119 (t11.2.2.blocks.sets.1.words : List Int)), (7, .box 112 (.agg [vi .i64 t11.2.2.blocks.sets.2.1.size, .sl 8 1 []])), (8, .row (.int .u64) 119 (t11.2.2.blocks.sets.2.1.words : List Int)), (9, .box 112 (.agg [vi .i64 t11.2.2.blocks.sets.2.2.1.size, .sl 10 1 []])), (10, .row (.int .u64) 119 (t11.2.2.blocks.sets.2.2.1.words : List Int)), (11, .box 112 (.agg [vi .i64 t11.2.2.blocks.sets.2.2.2.size, .sl 12 1 []])), (12, .row (.int .u64) 119 (t11.2.2.blocks.sets.2.2.2.words : List Int))] 42 ?_
 refine t_cond cok ?_
 refine bi h (fun c13 h => ?_) (fun c13 h => ?_)
 ·skip
  exact fk h
 refine bk h fun t14 k15 h => ?_
 refine cl4 cok.g (slices_Insert.sc fu _ _ _ _ k15) (.sl 45 15 []) [(26, .gone), (42, .gone), (45, .row (.st .S_dir_listed) 148 (t14 : List S_dir_listed))] 46 ?_
 refine bk h fun t16 k17 h => ?_
 refine cl4 cok.g (dir_lay.sc fu _ _ _ _ k17) (.tup [vi .i64 t16.1, vi .i64 t16.2.1]) [(0, .box 114 (.agg [.ptr 1 0, .ptr 4 0])), (1, .box 105 (.agg [.sl 2 4 [], .agg [.sl 3 1 [], vi .i64 t16.2.2.device.plan.at_], vb t16.2.2.device.off, vb t16.2.2.device.armed, vi .i64 t16.2.2.device.left, vi .i64 t16.2.2.device.steps])), (2, .row (.st .S_pmem_cell) 125 (t16.2.2.device.cells : List S_pmem_cell)), (3, .row (.int .i64) 3 (t16.2.2.device.plan.list : List Int)), (4, .box 108 (.agg [vi .i64 t16.2.2.blocks.reserve, .agg [.ptr 5 0, .ptr 7 0, .ptr 9 0, .ptr 11 0]])), (5, .box 112 (.agg [vi .i64 t16.2.2.blocks.sets.1.size, .sl 6 1 []])), (6, .row (.int .u64) 119 (t16.2.2.blocks.sets.1.words : List Int)), (7, .box 112 (.agg [vi .i64 t16.2.2.blocks.sets.2.1.size, .sl 8 1 []])), (8, .row (.int .u64) 119 (t16.2.2.blocks.sets.2.1.words : List Int)), (9, .box 112 (.agg [vi .i64 t16.2.2.blocks.sets.2.2.1.size, .sl 10 1 []])), (10, .row (.int .u64) 119 (t16.2.2.blocks.sets.2.2.1.words : List Int)), (11, .box 112 (.agg [vi .i64 t16.2.2.blocks.sets.2.2.2.size, .sl 12 1 []])), (12, .row (.int .u64) 119 (t16.2.2.blocks.sets.2.2.2.words : List Int))] 59 ?_
 exact fk h
def dir_List.s0 (fu : Nat) (t1 : (List S_dir_listed) × Int) : ((List S_api_Queue) × Int) → Option (Sum (List S_api_Queue) ((List S_api_Queue) × Int)) := fun s3 => (if (decide (s3.2 < (List.length t1.1 : Int))) then if 0 ≤ s3.2 ∧ s3.2 < (List.length t1.1 : Int) then if List.length s3.1 + List.length [(ix t1.1 s3.2).q] ≤ LIM then some (Sum.inr ((s3.1 ++ [(ix t1.1 s3.2).q]), (IntKind.i64.wrap (s3.2 + 1)))) else none else none else some (Sum.inl (s3.1)))
def dir_List.f (fu : Nat) (a0 : S_shadow_Store) (a1 : Int) : Option ((List S_api_Queue) × Int) := ((dir_read.f fu a0 a1).bind fun t1 => ((loopM (dir_List.s0 fu t1) fu (([] : List S_api_Queue), 0)).bind fun e4 => some (e4, t1.2)))
theorem dir_List.sc (fu : Nat) (a0 : S_shadow_Store) (a1 : Int) (r : (List S_api_Queue) × Int) (h : dir_List.f fu a0 a1 = some r) : SC Tryd.prog CT 49 [.ptr 0 0, vi .i64 a1] [.box 114 (.agg [.ptr 1 0, .ptr 4 0]), .box 105 (.agg [.sl 2 4 [], .agg [.sl 3 1 [], vi .i64 a0.device.plan.at_], vb a0.device.off, vb a0.device.armed, vi .i64 a0.device.left, vi .i64 a0.device.steps]), .row (.st .S_pmem_cell) 125 (a0.device.cells : List S_pmem_cell), .row (.int .i64) 3 (a0.device.plan.list : List Int), .box 108 (.agg [vi .i64 a0.blocks.reserve, .agg [.ptr 5 0, .ptr 7 0, .ptr 9 0, .ptr 11 0]]), .box 112 (.agg [vi .i64 a0.blocks.sets.1.size, .sl 6 1 []]), .row (.int .u64) 119 (a0.blocks.sets.1.words : List Int), .box 112 (.agg [vi .i64 a0.blocks.sets.2.1.size, .sl 8 1 []]), .row (.int .u64) 119 (a0.blocks.sets.2.1.words : List Int), .box 112 (.agg [vi .i64 a0.blocks.sets.2.2.1.size, .sl 10 1 []]), .row (.int .u64) 119 (a0.blocks.sets.2.2.1.words : List Int), .box 112 (.agg [vi .i64 a0.blocks.sets.2.2.2.size, .sl 12 1 []]), .row (.int .u64) 119 (a0.blocks.sets.2.2.2.words : List Int)] (.tup [.sl 13 14 [], vi .i64 r.2]) [.box 114 (.agg [.ptr 1 0, .ptr 4 0]), .box 105 (.agg [.sl 2 4 [], .agg [.sl 3 1 [], vi .i64 a0.device.plan.at_], vb a0.device.off, vb a0.device.armed, vi .i64 a0.device.left, vi .i64 a0.device.steps]), .row (.st .S_pmem_cell) 125 (a0.device.cells : List S_pmem_cell), .row (.int .i64) 3 (a0.device.plan.list : List Int), .box 108 (.agg [vi .i64 a0.blocks.reserve, .agg [.ptr 5 0, .ptr 7 0, .ptr 9 0, .ptr 11 0]]), .box 112 (.agg [vi .i64 a0.blocks.sets.1.size, .sl 6 1 []]), .row (.int .u64) 119 (a0.blocks.sets.1.words : List Int), .box 112 (.agg [vi .i64 a0.blocks.sets.2.1.size, .sl 8 1 []]), .row (.int .u64) 119 (a0.blocks.sets.2.1.words : List Int), .box 112 (.agg [vi .i64 a0.blocks.sets.2.2.1.size, .sl 10 1 []]), .row (.int .u64) 119 (a0.blocks.sets.2.2.1.words : List Int), .box 112 (.agg [vi .i64 a0.blocks.sets.2.2.2.size, .sl 12 1 []]), .row (.int .u64) 119 (a0.blocks.sets.2.2.2.words : List Int), .row (.st .S_api_Queue) 95 (r.1 : List S_api_Queue)] := by
 unfold dir_List.f at h
 refine sq Tryd.func49 r (fun r => .tup [.sl 13 14 [], vi .i64 r.2]) (fun r => [.box 114 (.agg [.ptr 1 0, .ptr 4 0]), .box 105 (.agg [.sl 2 4 [], .agg [.sl 3 1 [], vi .i64 a0.device.plan.at_], vb a0.device.off, vb a0.device.armed, vi .i64 a0.device.left, vi .i64 a0.device.steps]), .row (.st .S_pmem_cell) 125 (a0.device.cells : List S_pmem_cell), .row (.int .i64) 3 (a0.device.plan.list : List Int), .box 108 (.agg [vi .i64 a0.blocks.reserve, .agg [.ptr 5 0, .ptr 7 0, .ptr 9 0, .ptr 11 0]]), .box 112 (.agg [vi .i64 a0.blocks.sets.1.size, .sl 6 1 []]), .row (.int .u64) 119 (a0.blocks.sets.1.words : List Int), .box 112 (.agg [vi .i64 a0.blocks.sets.2.1.size, .sl 8 1 []]), .row (.int .u64) 119 (a0.blocks.sets.2.1.words : List Int), .box 112 (.agg [vi .i64 a0.blocks.sets.2.2.1.size, .sl 10 1 []]), .row (.int .u64) 119 (a0.blocks.sets.2.2.1.words : List Int), .box 112 (.agg [vi .i64 a0.blocks.sets.2.2.2.size, .sl 12 1 []]), .row (.int .u64) 119 (a0.blocks.sets.2.2.2.words : List Int), .row (.st .S_api_Queue) 95 (r.1 : List S_api_Queue)]) fun X => ?_
 refine bk h fun t1 k2 h => ?_
 refine cl4 cok.g (dir_read.sc fu _ _ _ k2) (.tup [.sl 26 15 [], vi .i64 t1.2]) [(0, .box 114 (.agg [.ptr 1 0, .ptr 4 0])), (1, .box 105 (.agg [.sl 2 4 [], .agg [.sl 3 1 [], vi .i64 a0.device.plan.at_], vb a0.device.off, vb a0.device.armed, vi .i64 a0.device.left, vi .i64 a0.device.steps])), (2, .row (.st .S_pmem_cell) 125 (a0.device.cells : List S_pmem_cell)), (3, .row (.int .i64) 3 (a0.device.plan.list : List Int)), (4, .box 108 (.agg [vi .i64 a0.blocks.reserve, .agg [.ptr 5 0, .ptr 7 0, .ptr 9 0, .ptr 11 0]])), (5, .box 112 (.agg [vi .i64 a0.blocks.sets.1.size, .sl 6 1 []])), (6, .row (.int .u64) 119 (a0.blocks.sets.1.words : List Int)), (7, .box 112 (.agg [vi .i64 a0.blocks.sets.2.1.size, .sl 8 1 []])), (8, .row (.int .u64) 119 (a0.blocks.sets.2.1.words : List Int)), (9, .box 112 (.agg [vi .i64 a0.blocks.sets.2.2.1.size, .sl 10 1 []])), (10, .row (.int .u64) 119 (a0.blocks.sets.2.2.1.words : List Int)), (11, .box 112 (.agg [vi .i64 a0.blocks.sets.2.2.2.size, .sl 12 1 []])), (12, .row (.int .u64) 119 (a0.blocks.sets.2.2.2.words : List Int)), (26, .row (.st .S_dir_listed) 148 (t1.1 : List S_dir_listed))] 27 ?_
 refine bk h fun e4 l5 h => ?_
 refine t_cutx cok 0 (fun (e4 : (List S_api_Queue)) => ⟨[(7, vi .i64 t1.2), (8, .sl 13 14 [])], [.box 114 (.agg [.ptr 1 0, .ptr 4 0]), .box 105 (.agg [.sl 2 4 [], .agg [.sl 3 1 [], vi .i64 a0.device.plan.at_], vb a0.device.off, vb a0.device.armed, vi .i64 a0.device.left, vi .i64 a0.device.steps]), .row (.st .S_pmem_cell) 125 (a0.device.cells : List S_pmem_cell), .row (.int .i64) 3 (a0.device.plan.list : List Int), .box 108 (.agg [vi .i64 a0.blocks.reserve, .agg [.ptr 5 0, .ptr 7 0, .ptr 9 0, .ptr 11 0]]), .box 112 (.agg [vi .i64 a0.blocks.sets.1.size, .sl 6 1 []]), .row (.int .u64) 119 (a0.blocks.sets.1.words : List Int), .box 112 (.agg [vi .i64 a0.blocks.sets.2.1.size, .sl 8 1 []]), .row (.int .u64) 119 (a0.blocks.sets.2.1.words : List Int), .box 112 (.agg [vi .i64 a0.blocks.sets.2.2.1.size, .sl 10 1 []]), .row (.int .u64) 119 (a0.blocks.sets.2.2.1.words : List Int), .box 112 (.agg [vi .i64 a0.blocks.sets.2.2.2.size, .sl 12 1 []]), .row (.int .u64) 119 (a0.blocks.sets.2.2.2.words : List Int), .row (.st .S_api_Queue) 95 (e4 : List S_api_Queue)]⟩) e4 ?_ ?_
 ·skip
  have h6 := h
  refine t_loop cok (fun (s3 : (List S_api_Queue) × Int) => ⟨[(7, vi .i64 t1.2), (8, .sl 13 14 []), (17, .sl 14 15 []), (18, vi .i64 (List.length t1.1 : Int)), (19, vi .i64 s3.2)], [.box 114 (.agg [.ptr 1 0, .ptr 4 0]), .box 105 (.agg [.sl 2 4 [], .agg [.sl 3 1 [], vi .i64 a0.device.plan.at_], vb a0.device.off, vb a0.device.armed, vi .i64 a0.device.left, vi .i64 a0.device.steps]), .row (.st .S_pmem_cell) 125 (a0.device.cells : List S_pmem_cell), .row (.int .i64) 3 (a0.device.plan.list : List Int), .box 108 (.agg [vi .i64 a0.blocks.reserve, .agg [.ptr 5 0, .ptr 7 0, .ptr 9 0, .ptr 11 0]]), .box 112 (.agg [vi .i64 a0.blocks.sets.1.size, .sl 6 1 []]), .row (.int .u64) 119 (a0.blocks.sets.1.words : List Int), .box 112 (.agg [vi .i64 a0.blocks.sets.2.1.size, .sl 8 1 []]), .row (.int .u64) 119 (a0.blocks.sets.2.1.words : List Int), .box 112 (.agg [vi .i64 a0.blocks.sets.2.2.1.size, .sl 10 1 []]), .row (.int .u64) 119 (a0.blocks.sets.2.2.1.words : List Int), .box 112 (.agg [vi .i64 a0.blocks.sets.2.2.2.size, .sl 12 1 []]), .row (.int .u64) 119 (a0.blocks.sets.2.2.2.words : List Int), .row (.st .S_api_Queue) 95 (s3.1 : List S_api_Queue), .row (.st .S_dir_listed) 148 (t1.1 : List S_dir_listed)]⟩) l5 (by kernel_rfl) (fun s3 x7 h => ?_)
  unfold dir_List.s0 at h
  refine t_cond cok ?_
  refine bi h (fun c8 h => ?_) (fun c8 h => ?_)
  ·skip
   refine ag h fun h => ?_
   refine ag h fun h => ?_
   exact lik h
  exact lpx h fun hy => ek (sj hy)
 exact fk h
def alloc_New.f (fu : Nat) (a0 : S_bits_Set) (a1 : S_bits_Set) (a2 : Int) : Option ((Option S_alloc_Alloc) × Int) := ((bits_Set_Size.f fu a0).bind fun t1 => ((bits_Set_Size.f fu a1).bind fun t3 => (if (!decide (t1 = t3)) then some (none, 2) else (if (decide (a2 < 0)) then some (none, 2) else ((alloc_copied.f fu a1).bind fun t7 => ((alloc_copied.f fu a0).bind fun t9 => ((alloc_copied.f fu a0).bind fun t11 => ((alloc_copied.f fu a0).bind fun t13 => some ((some (⟨a2, (t9, t7, t11, t13)⟩ : S_alloc_Alloc)), 0)))))))))
theorem alloc_New.sc (fu : Nat) (a0 : S_bits_Set) (a1 : S_bits_Set) (a2 : Int) (r : (Option S_alloc_Alloc) × Int) (h : alloc_New.f fu a0 a1 a2 = some r) : SC Tryd.prog CT 12 [.ptr 0 0, .ptr 2 0, vi .i64 a2] [.box 112 (.agg [vi .i64 a0.size, .sl 1 1 []]), .row (.int .u64) 119 (a0.words : List Int), .box 112 (.agg [vi .i64 a1.size, .sl 3 1 []]), .row (.int .u64) 119 (a1.words : List Int)] (Option.elim r.1 (.tup [.nilp, vi .i64 r.2]) (fun o0 => .tup [.ptr 4 0, vi .i64 r.2])) (Option.elim r.1 ([.box 112 (.agg [vi .i64 a0.size, .sl 1 1 []]), .row (.int .u64) 119 (a0.words : List Int), .box 112 (.agg [vi .i64 a1.size, .sl 3 1 []]), .row (.int .u64) 119 (a1.words : List Int)]) (fun o0 => [.box 112 (.agg [vi .i64 a0.size, .sl 1 1 []]), .row (.int .u64) 119 (a0.words : List Int), .box 112 (.agg [vi .i64 a1.size, .sl 3 1 []]), .row (.int .u64) 119 (a1.words : List Int), .box 108 (.agg [vi .i64 o0.reserve, .agg [.ptr 5 0, .ptr 7 0, .ptr 9 0, .ptr 11 0]]), .box 112 (.agg [vi .i64 o0.sets.1.size, .sl 6 1 []]), .row (.int .u64) 119 (o0.sets.1.words : List Int), .box 112 (.agg [vi .i64 o0.sets.2.1.size, .sl 8 1 []]), .row (.int .u64) 119 (o0.sets.2.1.words : List Int), .box 112 (.agg [vi .i64 o0.sets.2.2.1.size, .sl 10 1 []]), .row (.int .u64) 119 (o0.sets.2.2.1.words : List Int), .box 112 (.agg [vi .i64 o0.sets.2.2.2.size, .sl 12 1 []]), .row (.int .u64) 119 (o0.sets.2.2.2.words : List Int)])) := by
 unfold alloc_New.f at h
 refine sq Tryd.func12 r (fun r => Option.elim r.1 (.tup [.nilp, vi .i64 r.2]) (fun o0 => .tup [.ptr 4 0, vi .i64 r.2])) (fun r => Option.elim r.1 ([.box 112 (.agg [vi .i64 a0.size, .sl 1 1 []]), .row (.int .u64) 119 (a0.words : List Int), .box 112 (.agg [vi .i64 a1.size, .sl 3 1 []]), .row (.int .u64) 119 (a1.words : List Int)]) (fun o0 => [.box 112 (.agg [vi .i64 a0.size, .sl 1 1 []]), .row (.int .u64) 119 (a0.words : List Int), .box 112 (.agg [vi .i64 a1.size, .sl 3 1 []]), .row (.int .u64) 119 (a1.words : List Int), .box 108 (.agg [vi .i64 o0.reserve, .agg [.ptr 5 0, .ptr 7 0, .ptr 9 0, .ptr 11 0]]), .box 112 (.agg [vi .i64 o0.sets.1.size, .sl 6 1 []]), .row (.int .u64) 119 (o0.sets.1.words : List Int), .box 112 (.agg [vi .i64 o0.sets.2.1.size, .sl 8 1 []]), .row (.int .u64) 119 (o0.sets.2.1.words : List Int), .box 112 (.agg [vi .i64 o0.sets.2.2.1.size, .sl 10 1 []]), .row (.int .u64) 119 (o0.sets.2.2.1.words : List Int), .box 112 (.agg [vi .i64 o0.sets.2.2.2.size, .sl 12 1 []]), .row (.int .u64) 119 (o0.sets.2.2.2.words : List Int)])) fun X => ?_
 refine t_reg cok ?_
 refine t_cond cok ?_
 refine t_reg cok ?_
 refine bk h fun t1 k2 h => ?_
 refine cl4 cok.g (bits_Set_Size.sc fu _ _ k2) (vi .i64 t1) [(0, .box 112 (.agg [vi .i64 a0.size, .sl 1 1 []])), (1, .row (.int .u64) 119 (a0.words : List Int))] 6 ?_
 refine bk h fun t3 k4 h => ?_
 refine cl4 cok.g (bits_Set_Size.sc fu _ _ k4) (vi .i64 t3) [(2, .box 112 (.agg [vi .i64 a1.size, .sl 3 1 []])), (3, .row (.int .u64) 119 (a1.words : List Int))] 8 ?_
 refine bi h (fun c5 h => ?_) (fun c5 h => ?_)
 ·skip
  refine t_cond cok ?_
  exact fk h
 refine t_cond cok ?_
 refine bi h (fun c6 h => ?_) (fun c6 h => ?_)
 ·skip
  exact fk h
 refine t_draw cok mo [⟨0, false, [8], [], 0, []⟩, ⟨1, false, [1], [], 0, []⟩, ⟨2, true, [32], [2, 3], 4, [1]⟩, ⟨3, false, [31], [], 0, [0]⟩, ⟨4, false, [34], [], 0, [0, 3]⟩, ⟨5, false, [35], [], 0, cl 5⟩, ⟨6, true, [33, 36], [8, 11], 0, cl 6⟩] (by kernel_rfl) ?_
 refine bk h fun t7 k8 h => ?_
 refine cl4 cok.g (alloc_copied.sc fu _ _ k8) (.ptr 11 0) [(2, .box 112 (.agg [vi .i64 a1.size, .sl 3 1 []])), (3, .row (.int .u64) 119 (a1.words : List Int)), (11, .box 112 (.agg [vi .i64 t7.size, .sl 12 1 []])), (12, .row (.int .u64) 119 (t7.words : List Int))] 13 ?_
 refine ⟨by decide, ?_⟩
 refine t_rounds ?_
 refine t_round cok ?_
 refine t_cond cok ?_
 refine ⟨by decide, ?_⟩
 refine t_draw cok mo [⟨0, false, [8], [], 0, []⟩, ⟨1, false, [10], [], 0, []⟩, ⟨2, false, [0], [], 0, []⟩, ⟨3, true, [43], [0, 1], 4, [2]⟩, ⟨4, false, [41], [], 0, [0]⟩, ⟨5, false, [45], [], 0, [0, 4]⟩, ⟨6, false, [42, 46], [], 0, cl 6⟩, ⟨7, true, [44, 47], [8, 15], 0, cl 7⟩] (by kernel_rfl) ?_
 refine bk h fun t9 k10 h => ?_
 refine cl4 cok.g (alloc_copied.sc fu _ _ k10) (.ptr 15 0) [(0, .box 112 (.agg [vi .i64 a0.size, .sl 1 1 []])), (1, .row (.int .u64) 119 (a0.words : List Int)), (15, .box 112 (.agg [vi .i64 t9.size, .sl 16 1 []])), (16, .row (.int .u64) 119 (t9.words : List Int))] 17 ?_
 refine ⟨by decide, ?_⟩
 refine t_embL cok (fun (_x : Unit) => ⟨[(0, .ptr 0 0), (8, .ptr 4 0), (37, .v (.arr 3 (.int .i64)) ((Arr.set (Arr.set (Arr.set (Arr.rep 3 (0 : Int)) 0 0) 1 2) 2 3) : Arr 3 Int)), (38, vi .i64 1)], [.box 112 (.agg [vi .i64 a0.size, .sl 1 1 []]), .row (.int .u64) 119 (a0.words : List Int), .box 112 (.agg [vi .i64 a1.size, .sl 3 1 []]), .row (.int .u64) 119 (a1.words : List Int), .box 108 (.agg [vi .i64 a2, .agg [.ptr 5 0, .ptr 7 0, .nilp, .nilp]]), .box 112 (.agg [vi .i64 t9.size, .sl 6 1 []]), .row (.int .u64) 119 (t9.words : List Int), .box 112 (.agg [vi .i64 t7.size, .sl 8 1 []]), .row (.int .u64) 119 (t7.words : List Int)]⟩) () (by kernel_rfl) ?_
 refine t_round cok ?_
 refine t_cond cok ?_
 refine ⟨by decide, ?_⟩
 refine t_draw cok mo [⟨0, false, [8], [], 0, []⟩, ⟨1, false, [10], [], 0, []⟩, ⟨2, false, [0], [], 0, []⟩, ⟨3, true, [43], [0, 1], 4, [2]⟩, ⟨4, false, [41], [], 0, [0]⟩, ⟨5, false, [45], [], 0, [0, 4]⟩, ⟨6, false, [42, 46], [], 0, cl 6⟩, ⟨7, true, [44, 47], [4, 11], 0, cl 7⟩] (by kernel_rfl) ?_
 refine bk h fun t11 k12 h => ?_
 refine cl4 cok.g (alloc_copied.sc fu _ _ k12) (.ptr 11 0) [(0, .box 112 (.agg [vi .i64 a0.size, .sl 1 1 []])), (1, .row (.int .u64) 119 (a0.words : List Int)), (11, .box 112 (.agg [vi .i64 t11.size, .sl 12 1 []])), (12, .row (.int .u64) 119 (t11.words : List Int))] 13 ?_
 refine ⟨by decide, ?_⟩
 refine t_embL cok (fun (_x : Unit) => ⟨[(0, .ptr 0 0), (8, .ptr 4 0), (37, .v (.arr 3 (.int .i64)) ((Arr.set (Arr.set (Arr.set (Arr.rep 3 (0 : Int)) 0 0) 1 2) 2 3) : Arr 3 Int)), (38, vi .i64 2)], [.box 112 (.agg [vi .i64 a0.size, .sl 1 1 []]), .row (.int .u64) 119 (a0.words : List Int), .box 112 (.agg [vi .i64 a1.size, .sl 3 1 []]), .row (.int .u64) 119 (a1.words : List Int), .box 108 (.agg [vi .i64 a2, .agg [.ptr 5 0, .ptr 7 0, .ptr 9 0, .nilp]]), .box 112 (.agg [vi .i64 t9.size, .sl 6 1 []]), .row (.int .u64) 119 (t9.words : List Int), .box 112 (.agg [vi .i64 t7.size, .sl 8 1 []]), .row (.int .u64) 119 (t7.words : List Int), .box 112 (.agg [vi .i64 t11.size, .sl 10 1 []]), .row (.int .u64) 119 (t11.words : List Int)]⟩) () (by kernel_rfl) ?_
 refine t_round cok ?_
 refine t_cond cok ?_
 refine ⟨by decide, ?_⟩
 refine t_draw cok mo [⟨0, false, [8], [], 0, []⟩, ⟨1, false, [10], [], 0, []⟩, ⟨2, false, [0], [], 0, []⟩, ⟨3, true, [43], [0, 1], 4, [2]⟩, ⟨4, false, [41], [], 0, [0]⟩, ⟨5, false, [45], [], 0, [0, 4]⟩, ⟨6, false, [42, 46], [], 0, cl 6⟩, ⟨7, true, [44, 47], [4, 13], 0, cl 7⟩] (by kernel_rfl) ?_
 refine bk h fun t13 k14 h => ?_
 refine cl4 cok.g (alloc_copied.sc fu _ _ k14) (.ptr 13 0) [(0, .box 112 (.agg [vi .i64 a0.size, .sl 1 1 []])), (1, .row (.int .u64) 119 (a0.words : List Int)), (13, .box 112 (.agg [vi .i64 t13.size, .sl 14 1 []])), (14, .row (.int .u64) 119 (t13.words : List Int))] 15 ?_
 refine ⟨by decide, ?_⟩
 refine t_embL cok (fun (_x : Unit) => ⟨[(0, .ptr 0 0), (8, .ptr 4 0), (37, .v (.arr 3 (.int .i64)) ((Arr.set (Arr.set (Arr.set (Arr.rep 3 (0 : Int)) 0 0) 1 2) 2 3) : Arr 3 Int)), (38, vi .i64 3)], [.box 112 (.agg [vi .i64 a0.size, .sl 1 1 []]), .row (.int .u64) 119 (a0.words : List Int), .box 112 (.agg [vi .i64 a1.size, .sl 3 1 []]), .row (.int .u64) 119 (a1.words : List Int), .box 108 (.agg [vi .i64 a2, .agg [.ptr 5 0, .ptr 7 0, .ptr 9 0, .ptr 11 0]]), .box 112 (.agg [vi .i64 t9.size, .sl 6 1 []]), .row (.int .u64) 119 (t9.words : List Int), .box 112 (.agg [vi .i64 t7.size, .sl 8 1 []]), .row (.int .u64) 119 (t7.words : List Int), .box 112 (.agg [vi .i64 t11.size, .sl 10 1 []]), .row (.int .u64) 119 (t11.words : List Int), .box 112 (.agg [vi .i64 t13.size, .sl 12 1 []]), .row (.int .u64) 119 (t13.words : List Int)]⟩) () (by kernel_rfl) ?_
 refine t_round cok ?_
 refine t_cond cok ?_
 exact fk h
theorem alloc_New.scn (fu : Nat) (a0 : S_bits_Set) (a1 : S_bits_Set) (a2 : Int) (r : (Option S_alloc_Alloc) × Int) (h : alloc_New.f fu a0 a1 a2 = some r) (q0 : r.1 = none) : SC Tryd.prog CT 12 [.ptr 0 0, .ptr 2 0, vi .i64 a2] [.box 112 (.agg [vi .i64 a0.size, .sl 1 1 []]), .row (.int .u64) 119 (a0.words : List Int), .box 112 (.agg [vi .i64 a1.size, .sl 3 1 []]), .row (.int .u64) 119 (a1.words : List Int)] (.tup [.nilp, vi .i64 r.2]) [.box 112 (.agg [vi .i64 a0.size, .sl 1 1 []]), .row (.int .u64) 119 (a0.words : List Int), .box 112 (.agg [vi .i64 a1.size, .sl 3 1 []]), .row (.int .u64) 119 (a1.words : List Int)] := by
 have k := alloc_New.sc fu a0 a1 a2 r h
 rw [q0] at k
 exact k
theorem alloc_New.scs (fu : Nat) (a0 : S_bits_Set) (a1 : S_bits_Set) (a2 : Int) (r : (Option S_alloc_Alloc) × Int) (h : alloc_New.f fu a0 a1 a2 = some r) (o0 : S_alloc_Alloc) (q0 : r.1 = some o0) : SC Tryd.prog CT 12 [.ptr 0 0, .ptr 2 0, vi .i64 a2] [.box 112 (.agg [vi .i64 a0.size, .sl 1 1 []]), .row (.int .u64) 119 (a0.words : List Int), .box 112 (.agg [vi .i64 a1.size, .sl 3 1 []]), .row (.int .u64) 119 (a1.words : List Int)] (.tup [.ptr 4 0, vi .i64 r.2]) [.box 112 (.agg [vi .i64 a0.size, .sl 1 1 []]), .row (.int .u64) 119 (a0.words : List Int), .box 112 (.agg [vi .i64 a1.size, .sl 3 1 []]), .row (.int .u64) 119 (a1.words : List Int), .box 108 (.agg [vi .i64 o0.reserve, .agg [.ptr 5 0, .ptr 7 0, .ptr 9 0, .ptr 11 0]]), .box 112 (.agg [vi .i64 o0.sets.1.size, .sl 6 1 []]), .row (.int .u64) 119 (o0.sets.1.words : List Int), .box 112 (.agg [vi .i64 o0.sets.2.1.size, .sl 8 1 []]), .row (.int .u64) 119 (o0.sets.2.1.words : List Int), .box 112 (.agg [vi .i64 o0.sets.2.2.1.size, .sl 10 1 []]), .row (.int .u64) 119 (o0.sets.2.2.1.words : List Int), .box 112 (.agg [vi .i64 o0.sets.2.2.2.size, .sl 12 1 []]), .row (.int .u64) 119 (o0.sets.2.2.2.words : List Int)] := by
 have k := alloc_New.sc fu a0 a1 a2 r h
 rw [q0] at k
 exact k
def bits_Of.f (fu : Nat) (a0 : Int) (a1 : List Int) : Option S_bits_Set := if 0 ≤ (IntKind.i64.wrap (Int.tdiv (IntKind.i64.wrap ((IntKind.i64.wrap ((mnI (mxI a0 0) 3072) + 64)) - 1)) 64)) ∧ Int.toNat (IntKind.i64.wrap (Int.tdiv (IntKind.i64.wrap ((IntKind.i64.wrap ((mnI (mxI a0 0) 3072) + 64)) - 1)) 64)) ≤ LIM then ((bits_Set_Add.f fu (⟨(mnI (mxI a0 0) 3072), (List.replicate (Int.toNat (IntKind.i64.wrap (Int.tdiv (IntKind.i64.wrap ((IntKind.i64.wrap ((mnI (mxI a0 0) 3072) + 64)) - 1)) 64))) (0 : Int))⟩ : S_bits_Set) a1).bind fun t1 => some (t1)) else none
theorem bits_Of.sc (fu : Nat) (a0 : Int) (a1 : List Int) (r : S_bits_Set) (h : bits_Of.f fu a0 a1 = some r) : SC Tryd.prog CT 13 [vi .i64 a0, .v (.sl (.int .i64)) (a1 : List Int)] [] (.ptr 0 0) [.box 112 (.agg [vi .i64 r.size, .sl 1 1 []]), .row (.int .u64) 119 (r.words : List Int)] := by
 unfold bits_Of.f at h
 refine sq Tryd.func13 r (fun r => .ptr 0 0) (fun r => [.box 112 (.agg [vi .i64 r.size, .sl 1 1 []]), .row (.int .u64) 119 (r.words : List Int)]) fun X => ?_
 refine ⟨by decide, ?_⟩
 refine agL h rfl fun h => ?_
 refine bk h fun t1 k2 h => ?_
 refine cl4 cok.g (bits_Set_Add.sc fu _ _ _ k2) (.tup []) [(1, .box 112 (.agg [vi .i64 t1.size, .sl 0 1 []])), (0, .row (.int .u64) 119 (t1.words : List Int))] 4 ?_
 exact fk h
def pmem_New.f (fu : Nat) (a0 : Int) : Option ((Option S_pmem_Device) × Int) := (if (decide (a0 < 0)) then some (none, 2) else (if (decide (a0 > 4096)) then some (none, 2) else if 0 ≤ (IntKind.i64.wrap (a0 * 8)) ∧ Int.toNat (IntKind.i64.wrap (a0 * 8)) ≤ LIM then some ((some (⟨(List.replicate (Int.toNat (IntKind.i64.wrap (a0 * 8))) (⟨(0 : Int), (0 : Int), (0 : Int), false⟩ : S_pmem_cell)), (⟨[], (0 : Int)⟩ : S_pmem_plan), false, false, (0 : Int), (0 : Int)⟩ : S_pmem_Device)), 0) else none))
theorem pmem_New.sc (fu : Nat) (a0 : Int) (r : (Option S_pmem_Device) × Int) (h : pmem_New.f fu a0 = some r) : SC Tryd.prog CT 11 [vi .i64 a0] [] (Option.elim r.1 (.tup [.nilp, vi .i64 r.2]) (fun o0 => .tup [.ptr 0 0, vi .i64 r.2])) (Option.elim r.1 ([]) (fun o0 => [.box 105 (.agg [.sl 1 4 [], .agg [.sl 2 1 [], vi .i64 o0.plan.at_], vb o0.off, vb o0.armed, vi .i64 o0.left, vi .i64 o0.steps]), .row (.st .S_pmem_cell) 125 (o0.cells : List S_pmem_cell), .row (.int .i64) 3 (o0.plan.list : List Int)])) := by
 unfold pmem_New.f at h
 refine sq Tryd.func11 r (fun r => Option.elim r.1 (.tup [.nilp, vi .i64 r.2]) (fun o0 => .tup [.ptr 0 0, vi .i64 r.2])) (fun r => Option.elim r.1 ([]) (fun o0 => [.box 105 (.agg [.sl 1 4 [], .agg [.sl 2 1 [], vi .i64 o0.plan.at_], vb o0.off, vb o0.armed, vi .i64 o0.left, vi .i64 o0.steps]), .row (.st .S_pmem_cell) 125 (o0.cells : List S_pmem_cell), .row (.int .i64) 3 (o0.plan.list : List Int)])) fun X => ?_
 refine t_reg cok ?_
 refine bi h (fun c1 h => ?_) (fun c1 h => ?_)
 ·skip
  refine t_cond cok ?_
  exact fk h
 refine t_cond cok ?_
 refine bi h (fun c2 h => ?_) (fun c2 h => ?_)
 ·skip
  exact fk h
 refine agL h rfl fun h => ?_
 exact fk h
theorem pmem_New.scn (fu : Nat) (a0 : Int) (r : (Option S_pmem_Device) × Int) (h : pmem_New.f fu a0 = some r) (q0 : r.1 = none) : SC Tryd.prog CT 11 [vi .i64 a0] [] (.tup [.nilp, vi .i64 r.2]) [] := by
 have k := pmem_New.sc fu a0 r h
 rw [q0] at k
 exact k
theorem pmem_New.scs (fu : Nat) (a0 : Int) (r : (Option S_pmem_Device) × Int) (h : pmem_New.f fu a0 = some r) (o0 : S_pmem_Device) (q0 : r.1 = some o0) : SC Tryd.prog CT 11 [vi .i64 a0] [] (.tup [.ptr 0 0, vi .i64 r.2]) [.box 105 (.agg [.sl 1 4 [], .agg [.sl 2 1 [], vi .i64 o0.plan.at_], vb o0.off, vb o0.armed, vi .i64 o0.left, vi .i64 o0.steps]), .row (.st .S_pmem_cell) 125 (o0.cells : List S_pmem_cell), .row (.int .i64) 3 (o0.plan.list : List Int)] := by
 have k := pmem_New.sc fu a0 r h
 rw [q0] at k
 exact k
def shadow_New.f (fu : Nat) (a0 : S_pmem_Device) (a1 : S_alloc_Alloc) : Option ((Option S_shadow_Store) × Int) := ((alloc_Alloc_Works.f fu a1).bind fun t1 => ((bits_Set_Size.f fu t1).bind fun t3 => ((pmem_Device_Lines.f fu a0).bind fun t5 => (if (decide (t3 > t5)) then some (none, 2) else some ((some (⟨a0, a1⟩ : S_shadow_Store)), 0)))))
theorem shadow_New.sc (fu : Nat) (a0 : S_pmem_Device) (a1 : S_alloc_Alloc) (r : (Option S_shadow_Store) × Int) (h : shadow_New.f fu a0 a1 = some r) : SC Tryd.prog CT 14 [.ptr 0 0, .ptr 3 0] [.box 105 (.agg [.sl 1 4 [], .agg [.sl 2 1 [], vi .i64 a0.plan.at_], vb a0.off, vb a0.armed, vi .i64 a0.left, vi .i64 a0.steps]), .row (.st .S_pmem_cell) 125 (a0.cells : List S_pmem_cell), .row (.int .i64) 3 (a0.plan.list : List Int), .box 108 (.agg [vi .i64 a1.reserve, .agg [.ptr 4 0, .ptr 6 0, .ptr 8 0, .ptr 10 0]]), .box 112 (.agg [vi .i64 a1.sets.1.size, .sl 5 1 []]), .row (.int .u64) 119 (a1.sets.1.words : List Int), .box 112 (.agg [vi .i64 a1.sets.2.1.size, .sl 7 1 []]), .row (.int .u64) 119 (a1.sets.2.1.words : List Int), .box 112 (.agg [vi .i64 a1.sets.2.2.1.size, .sl 9 1 []]), .row (.int .u64) 119 (a1.sets.2.2.1.words : List Int), .box 112 (.agg [vi .i64 a1.sets.2.2.2.size, .sl 11 1 []]), .row (.int .u64) 119 (a1.sets.2.2.2.words : List Int)] (Option.elim r.1 (.tup [.nilp, vi .i64 r.2]) (fun o0 => .tup [.ptr 12 0, vi .i64 r.2])) (Option.elim r.1 ([.box 105 (.agg [.sl 1 4 [], .agg [.sl 2 1 [], vi .i64 a0.plan.at_], vb a0.off, vb a0.armed, vi .i64 a0.left, vi .i64 a0.steps]), .row (.st .S_pmem_cell) 125 (a0.cells : List S_pmem_cell), .row (.int .i64) 3 (a0.plan.list : List Int), .box 108 (.agg [vi .i64 a1.reserve, .agg [.ptr 4 0, .ptr 6 0, .ptr 8 0, .ptr 10 0]]), .box 112 (.agg [vi .i64 a1.sets.1.size, .sl 5 1 []]), .row (.int .u64) 119 (a1.sets.1.words : List Int), .box 112 (.agg [vi .i64 a1.sets.2.1.size, .sl 7 1 []]), .row (.int .u64) 119 (a1.sets.2.1.words : List Int), .box 112 (.agg [vi .i64 a1.sets.2.2.1.size, .sl 9 1 []]), .row (.int .u64) 119 (a1.sets.2.2.1.words : List Int), .box 112 (.agg [vi .i64 a1.sets.2.2.2.size, .sl 11 1 []]), .row (.int .u64) 119 (a1.sets.2.2.2.words : List Int)]) (fun o0 => [.box 105 (.agg [.sl 1 4 [], .agg [.sl 2 1 [], vi .i64 a0.plan.at_], vb a0.off, vb a0.armed, vi .i64 a0.left, vi .i64 a0.steps]), .row (.st .S_pmem_cell) 125 (a0.cells : List S_pmem_cell), .row (.int .i64) 3 (a0.plan.list : List Int), .box 108 (.agg [vi .i64 a1.reserve, .agg [.ptr 4 0, .ptr 6 0, .ptr 8 0, .ptr 10 0]]), .box 112 (.agg [vi .i64 a1.sets.1.size, .sl 5 1 []]), .row (.int .u64) 119 (a1.sets.1.words : List Int), .box 112 (.agg [vi .i64 a1.sets.2.1.size, .sl 7 1 []]), .row (.int .u64) 119 (a1.sets.2.1.words : List Int), .box 112 (.agg [vi .i64 a1.sets.2.2.1.size, .sl 9 1 []]), .row (.int .u64) 119 (a1.sets.2.2.1.words : List Int), .box 112 (.agg [vi .i64 a1.sets.2.2.2.size, .sl 11 1 []]), .row (.int .u64) 119 (a1.sets.2.2.2.words : List Int), .box 114 (.agg [.ptr 0 0, .ptr 3 0])])) := by
 unfold shadow_New.f at h
 refine sq Tryd.func14 r (fun r => Option.elim r.1 (.tup [.nilp, vi .i64 r.2]) (fun o0 => .tup [.ptr 12 0, vi .i64 r.2])) (fun r => Option.elim r.1 ([.box 105 (.agg [.sl 1 4 [], .agg [.sl 2 1 [], vi .i64 a0.plan.at_], vb a0.off, vb a0.armed, vi .i64 a0.left, vi .i64 a0.steps]), .row (.st .S_pmem_cell) 125 (a0.cells : List S_pmem_cell), .row (.int .i64) 3 (a0.plan.list : List Int), .box 108 (.agg [vi .i64 a1.reserve, .agg [.ptr 4 0, .ptr 6 0, .ptr 8 0, .ptr 10 0]]), .box 112 (.agg [vi .i64 a1.sets.1.size, .sl 5 1 []]), .row (.int .u64) 119 (a1.sets.1.words : List Int), .box 112 (.agg [vi .i64 a1.sets.2.1.size, .sl 7 1 []]), .row (.int .u64) 119 (a1.sets.2.1.words : List Int), .box 112 (.agg [vi .i64 a1.sets.2.2.1.size, .sl 9 1 []]), .row (.int .u64) 119 (a1.sets.2.2.1.words : List Int), .box 112 (.agg [vi .i64 a1.sets.2.2.2.size, .sl 11 1 []]), .row (.int .u64) 119 (a1.sets.2.2.2.words : List Int)]) (fun o0 => [.box 105 (.agg [.sl 1 4 [], .agg [.sl 2 1 [], vi .i64 a0.plan.at_], vb a0.off, vb a0.armed, vi .i64 a0.left, vi .i64 a0.steps]), .row (.st .S_pmem_cell) 125 (a0.cells : List S_pmem_cell), .row (.int .i64) 3 (a0.plan.list : List Int), .box 108 (.agg [vi .i64 a1.reserve, .agg [.ptr 4 0, .ptr 6 0, .ptr 8 0, .ptr 10 0]]), .box 112 (.agg [vi .i64 a1.sets.1.size, .sl 5 1 []]), .row (.int .u64) 119 (a1.sets.1.words : List Int), .box 112 (.agg [vi .i64 a1.sets.2.1.size, .sl 7 1 []]), .row (.int .u64) 119 (a1.sets.2.1.words : List Int), .box 112 (.agg [vi .i64 a1.sets.2.2.1.size, .sl 9 1 []]), .row (.int .u64) 119 (a1.sets.2.2.1.words : List Int), .box 112 (.agg [vi .i64 a1.sets.2.2.2.size, .sl 11 1 []]), .row (.int .u64) 119 (a1.sets.2.2.2.words : List Int), .box 114 (.agg [.ptr 0 0, .ptr 3 0])])) fun X => ?_
 refine t_reg cok ?_
 refine t_cond cok ?_
 refine bk h fun t1 k2 h => ?_
 refine cl4 cok.g (alloc_Alloc_Works.sc fu _ _ k2) (.ptr 21 0) [(3, .box 108 (.agg [vi .i64 a1.reserve, .agg [.ptr 4 0, .ptr 6 0, .ptr 8 0, .ptr 10 0]])), (4, .box 112 (.agg [vi .i64 a1.sets.1.size, .sl 5 1 []])), (5, .row (.int .u64) 119 (a1.sets.1.words : List Int)), (6, .box 112 (.agg [vi .i64 a1.sets.2.1.size, .sl 7 1 []])), (7, .row (.int .u64) 119 (a1.sets.2.1.words : List Int)), (8, .box 112 (.agg [vi .i64 a1.sets.2.2.1.size, .sl 9 1 []])), (9, .row (.int .u64) 119 (a1.sets.2.2.1.words : List Int)), (10, .box 112 (.agg [vi .i64 a1.sets.2.2.2.size, .sl 11 1 []])), (11, .row (.int .u64) 119 (a1.sets.2.2.2.words : List Int)), (21, .box 112 (.agg [vi .i64 t1.size, .sl 22 1 []])), (22, .row (.int .u64) 119 (t1.words : List Int))] 23 ?_
 refine bk h fun t3 k4 h => ?_
 refine cl4 cok.g (bits_Set_Size.sc fu _ _ k4) (vi .i64 t3) [(21, .box 112 (.agg [vi .i64 t1.size, .sl 22 1 []])), (22, .row (.int .u64) 119 (t1.words : List Int))] 25 ?_
 refine bk h fun t5 k6 h => ?_
 refine cl4 cok.g (pmem_Device_Lines.sc fu _ _ k6) (vi .i64 t5) [(0, .box 105 (.agg [.sl 1 4 [], .agg [.sl 2 1 [], vi .i64 a0.plan.at_], vb a0.off, vb a0.armed, vi .i64 a0.left, vi .i64 a0.steps])), (1, .row (.st .S_pmem_cell) 125 (a0.cells : List S_pmem_cell)), (2, .row (.int .i64) 3 (a0.plan.list : List Int))] 28 ?_
 refine t_cond cok ?_
 refine bi h (fun c7 h => ?_) (fun c7 h => ?_)
 ·skip
  exact fk h
 exact fk h
theorem shadow_New.scn (fu : Nat) (a0 : S_pmem_Device) (a1 : S_alloc_Alloc) (r : (Option S_shadow_Store) × Int) (h : shadow_New.f fu a0 a1 = some r) (q0 : r.1 = none) : SC Tryd.prog CT 14 [.ptr 0 0, .ptr 3 0] [.box 105 (.agg [.sl 1 4 [], .agg [.sl 2 1 [], vi .i64 a0.plan.at_], vb a0.off, vb a0.armed, vi .i64 a0.left, vi .i64 a0.steps]), .row (.st .S_pmem_cell) 125 (a0.cells : List S_pmem_cell), .row (.int .i64) 3 (a0.plan.list : List Int), .box 108 (.agg [vi .i64 a1.reserve, .agg [.ptr 4 0, .ptr 6 0, .ptr 8 0, .ptr 10 0]]), .box 112 (.agg [vi .i64 a1.sets.1.size, .sl 5 1 []]), .row (.int .u64) 119 (a1.sets.1.words : List Int), .box 112 (.agg [vi .i64 a1.sets.2.1.size, .sl 7 1 []]), .row (.int .u64) 119 (a1.sets.2.1.words : List Int), .box 112 (.agg [vi .i64 a1.sets.2.2.1.size, .sl 9 1 []]), .row (.int .u64) 119 (a1.sets.2.2.1.words : List Int), .box 112 (.agg [vi .i64 a1.sets.2.2.2.size, .sl 11 1 []]), .row (.int .u64) 119 (a1.sets.2.2.2.words : List Int)] (.tup [.nilp, vi .i64 r.2]) [.box 105 (.agg [.sl 1 4 [], .agg [.sl 2 1 [], vi .i64 a0.plan.at_], vb a0.off, vb a0.armed, vi .i64 a0.left, vi .i64 a0.steps]), .row (.st .S_pmem_cell) 125 (a0.cells : List S_pmem_cell), .row (.int .i64) 3 (a0.plan.list : List Int), .box 108 (.agg [vi .i64 a1.reserve, .agg [.ptr 4 0, .ptr 6 0, .ptr 8 0, .ptr 10 0]]), .box 112 (.agg [vi .i64 a1.sets.1.size, .sl 5 1 []]), .row (.int .u64) 119 (a1.sets.1.words : List Int), .box 112 (.agg [vi .i64 a1.sets.2.1.size, .sl 7 1 []]), .row (.int .u64) 119 (a1.sets.2.1.words : List Int), .box 112 (.agg [vi .i64 a1.sets.2.2.1.size, .sl 9 1 []]), .row (.int .u64) 119 (a1.sets.2.2.1.words : List Int), .box 112 (.agg [vi .i64 a1.sets.2.2.2.size, .sl 11 1 []]), .row (.int .u64) 119 (a1.sets.2.2.2.words : List Int)] := by
 have k := shadow_New.sc fu a0 a1 r h
 rw [q0] at k
 exact k
theorem shadow_New.scs (fu : Nat) (a0 : S_pmem_Device) (a1 : S_alloc_Alloc) (r : (Option S_shadow_Store) × Int) (h : shadow_New.f fu a0 a1 = some r) (o0 : S_shadow_Store) (q0 : r.1 = some o0) : SC Tryd.prog CT 14 [.ptr 0 0, .ptr 3 0] [.box 105 (.agg [.sl 1 4 [], .agg [.sl 2 1 [], vi .i64 a0.plan.at_], vb a0.off, vb a0.armed, vi .i64 a0.left, vi .i64 a0.steps]), .row (.st .S_pmem_cell) 125 (a0.cells : List S_pmem_cell), .row (.int .i64) 3 (a0.plan.list : List Int), .box 108 (.agg [vi .i64 a1.reserve, .agg [.ptr 4 0, .ptr 6 0, .ptr 8 0, .ptr 10 0]]), .box 112 (.agg [vi .i64 a1.sets.1.size, .sl 5 1 []]), .row (.int .u64) 119 (a1.sets.1.words : List Int), .box 112 (.agg [vi .i64 a1.sets.2.1.size, .sl 7 1 []]), .row (.int .u64) 119 (a1.sets.2.1.words : List Int), .box 112 (.agg [vi .i64 a1.sets.2.2.1.size, .sl 9 1 []]), .row (.int .u64) 119 (a1.sets.2.2.1.words : List Int), .box 112 (.agg [vi .i64 a1.sets.2.2.2.size, .sl 11 1 []]), .row (.int .u64) 119 (a1.sets.2.2.2.words : List Int)] (.tup [.ptr 12 0, vi .i64 r.2]) [.box 105 (.agg [.sl 1 4 [], .agg [.sl 2 1 [], vi .i64 a0.plan.at_], vb a0.off, vb a0.armed, vi .i64 a0.left, vi .i64 a0.steps]), .row (.st .S_pmem_cell) 125 (a0.cells : List S_pmem_cell), .row (.int .i64) 3 (a0.plan.list : List Int), .box 108 (.agg [vi .i64 a1.reserve, .agg [.ptr 4 0, .ptr 6 0, .ptr 8 0, .ptr 10 0]]), .box 112 (.agg [vi .i64 a1.sets.1.size, .sl 5 1 []]), .row (.int .u64) 119 (a1.sets.1.words : List Int), .box 112 (.agg [vi .i64 a1.sets.2.1.size, .sl 7 1 []]), .row (.int .u64) 119 (a1.sets.2.1.words : List Int), .box 112 (.agg [vi .i64 a1.sets.2.2.1.size, .sl 9 1 []]), .row (.int .u64) 119 (a1.sets.2.2.1.words : List Int), .box 112 (.agg [vi .i64 a1.sets.2.2.2.size, .sl 11 1 []]), .row (.int .u64) 119 (a1.sets.2.2.2.words : List Int), .box 114 (.agg [.ptr 0 0, .ptr 3 0])] := by
 have k := shadow_New.sc fu a0 a1 r h
 rw [q0] at k
 exact k
def shadow_New_n0.f (fu : Nat) (a1 : S_alloc_Alloc) : Option Int := some (1)
theorem shadow_New_n0.sc (fu : Nat) (a1 : S_alloc_Alloc) (r : Int) (h : shadow_New_n0.f fu a1 = some r) : SC Tryd.prog CT 14 [.nilp, .ptr 0 0] [.box 108 (.agg [vi .i64 a1.reserve, .agg [.ptr 1 0, .ptr 3 0, .ptr 5 0, .ptr 7 0]]), .box 112 (.agg [vi .i64 a1.sets.1.size, .sl 2 1 []]), .row (.int .u64) 119 (a1.sets.1.words : List Int), .box 112 (.agg [vi .i64 a1.sets.2.1.size, .sl 4 1 []]), .row (.int .u64) 119 (a1.sets.2.1.words : List Int), .box 112 (.agg [vi .i64 a1.sets.2.2.1.size, .sl 6 1 []]), .row (.int .u64) 119 (a1.sets.2.2.1.words : List Int), .box 112 (.agg [vi .i64 a1.sets.2.2.2.size, .sl 8 1 []]), .row (.int .u64) 119 (a1.sets.2.2.2.words : List Int)] (.tup [.nilp, vi .i64 r]) [.box 108 (.agg [vi .i64 a1.reserve, .agg [.ptr 1 0, .ptr 3 0, .ptr 5 0, .ptr 7 0]]), .box 112 (.agg [vi .i64 a1.sets.1.size, .sl 2 1 []]), .row (.int .u64) 119 (a1.sets.1.words : List Int), .box 112 (.agg [vi .i64 a1.sets.2.1.size, .sl 4 1 []]), .row (.int .u64) 119 (a1.sets.2.1.words : List Int), .box 112 (.agg [vi .i64 a1.sets.2.2.1.size, .sl 6 1 []]), .row (.int .u64) 119 (a1.sets.2.2.1.words : List Int), .box 112 (.agg [vi .i64 a1.sets.2.2.2.size, .sl 8 1 []]), .row (.int .u64) 119 (a1.sets.2.2.2.words : List Int)] := by
 unfold shadow_New_n0.f at h
 refine sq Tryd.func14 r (fun r => .tup [.nilp, vi .i64 r]) (fun r => [.box 108 (.agg [vi .i64 a1.reserve, .agg [.ptr 1 0, .ptr 3 0, .ptr 5 0, .ptr 7 0]]), .box 112 (.agg [vi .i64 a1.sets.1.size, .sl 2 1 []]), .row (.int .u64) 119 (a1.sets.1.words : List Int), .box 112 (.agg [vi .i64 a1.sets.2.1.size, .sl 4 1 []]), .row (.int .u64) 119 (a1.sets.2.1.words : List Int), .box 112 (.agg [vi .i64 a1.sets.2.2.1.size, .sl 6 1 []]), .row (.int .u64) 119 (a1.sets.2.2.1.words : List Int), .box 112 (.agg [vi .i64 a1.sets.2.2.2.size, .sl 8 1 []]), .row (.int .u64) 119 (a1.sets.2.2.2.words : List Int)]) fun X => ?_
 refine t_reg cok ?_
 refine t_cond cok ?_
 exact fk h
def shadow_New_n0_n1.f (fu : Nat) : Option Int := some (1)
theorem shadow_New_n0_n1.sc (fu : Nat) (r : Int) (h : shadow_New_n0_n1.f fu = some r) : SC Tryd.prog CT 14 [.nilp, .nilp] [] (.tup [.nilp, vi .i64 r]) [] := by
 unfold shadow_New_n0_n1.f at h
 refine sq Tryd.func14 r (fun r => .tup [.nilp, vi .i64 r]) (fun r => []) fun X => ?_
 refine t_reg cok ?_
 refine t_cond cok ?_
 exact fk h
def shadow_New_n1.f (fu : Nat) (a0 : S_pmem_Device) : Option Int := some (1)
theorem shadow_New_n1.sc (fu : Nat) (a0 : S_pmem_Device) (r : Int) (h : shadow_New_n1.f fu a0 = some r) : SC Tryd.prog CT 14 [.ptr 0 0, .nilp] [.box 105 (.agg [.sl 1 4 [], .agg [.sl 2 1 [], vi .i64 a0.plan.at_], vb a0.off, vb a0.armed, vi .i64 a0.left, vi .i64 a0.steps]), .row (.st .S_pmem_cell) 125 (a0.cells : List S_pmem_cell), .row (.int .i64) 3 (a0.plan.list : List Int)] (.tup [.nilp, vi .i64 r]) [.box 105 (.agg [.sl 1 4 [], .agg [.sl 2 1 [], vi .i64 a0.plan.at_], vb a0.off, vb a0.armed, vi .i64 a0.left, vi .i64 a0.steps]), .row (.st .S_pmem_cell) 125 (a0.cells : List S_pmem_cell), .row (.int .i64) 3 (a0.plan.list : List Int)] := by
 unfold shadow_New_n1.f at h
 refine sq Tryd.func14 r (fun r => .tup [.nilp, vi .i64 r]) (fun r => [.box 105 (.agg [.sl 1 4 [], .agg [.sl 2 1 [], vi .i64 a0.plan.at_], vb a0.off, vb a0.armed, vi .i64 a0.left, vi .i64 a0.steps]), .row (.st .S_pmem_cell) 125 (a0.cells : List S_pmem_cell), .row (.int .i64) 3 (a0.plan.list : List Int)]) fun X => ?_
 refine t_reg cok ?_
 refine t_cond cok ?_
 exact fk h
def rickyardlaw19_Made.f (fu : Nat) (a0 : Int) (a1 : Int) : Option ((Option S_shadow_Store) × (Option S_pmem_Device) × (Option S_alloc_Alloc)) := ((pmem_New.f fu a0).bind fun t1 => (Option.elim t1.1 (((bits_Of.f fu a0 [0, 1]).bind fun t5 => ((bits_Of.f fu a0 []).bind fun t7 => ((alloc_New.f fu t5 t7 a1).bind fun t9 => (Option.elim t9.1 (((shadow_New_n0_n1.f fu).bind fun t13 => some (none, none, none))) (fun o11 => ((shadow_New_n0.f fu o11).bind fun t15 => some (none, none, (some o11))))))))) (fun o3 => ((bits_Of.f fu a0 [0, 1]).bind fun t17 => ((bits_Of.f fu a0 []).bind fun t19 => ((alloc_New.f fu t17 t19 a1).bind fun t21 => (Option.elim t21.1 (((shadow_New_n1.f fu o3).bind fun t25 => some (none, (some o3), none))) (fun o23 => ((shadow_New.f fu o3 o23).bind fun t27 => (Option.elim t27.1 (some (none, (some o3), (some o23))) (fun o29 => some ((some (⟨o3, o23⟩ : S_shadow_Store)), (some o3), (some o23)))))))))))))
theorem rickyardlaw19_Made.sc (fu : Nat) (a0 : Int) (a1 : Int) (r : (Option S_shadow_Store) × (Option S_pmem_Device) × (Option S_alloc_Alloc)) (h : rickyardlaw19_Made.f fu a0 a1 = some r) : SC Tryd.prog CT 16 [vi .i64 a0, vi .i64 a1] [] (Option.elim r.1 (Option.elim r.2.1 (Option.elim r.2.2 (.tup [.nilp, .nilp, .nilp]) (fun o2 => .tup [.nilp, .nilp, .ptr 0 0])) (fun o1 => Option.elim r.2.2 (.tup [.nilp, .ptr 0 0, .nilp]) (fun o2 => .tup [.nilp, .ptr 0 0, .ptr 3 0]))) (fun o0 => Option.elim r.2.1 (.undef) (fun o1 => Option.elim r.2.2 (.undef) (fun o2 => .tup [.ptr 12 0, .ptr 0 0, .ptr 3 0])))) (Option.elim r.1 (Option.elim r.2.1 (Option.elim r.2.2 ([]) (fun o2 => [.box 108 (.agg [vi .i64 o2.reserve, .agg [.ptr 1 0, .ptr 3 0, .ptr 5 0, .ptr 7 0]]), .box 112 (.agg [vi .i64 o2.sets.1.size, .sl 2 1 []]), .row (.int .u64) 119 (o2.sets.1.words : List Int), .box 112 (.agg [vi .i64 o2.sets.2.1.size, .sl 4 1 []]), .row (.int .u64) 119 (o2.sets.2.1.words : List Int), .box 112 (.agg [vi .i64 o2.sets.2.2.1.size, .sl 6 1 []]), .row (.int .u64) 119 (o2.sets.2.2.1.words : List Int), .box 112 (.agg [vi .i64 o2.sets.2.2.2.size, .sl 8 1 []]), .row (.int .u64) 119 (o2.sets.2.2.2.words : List Int)])) (fun o1 => Option.elim r.2.2 ([.box 105 (.agg [.sl 1 4 [], .agg [.sl 2 1 [], vi .i64 o1.plan.at_], vb o1.off, vb o1.armed, vi .i64 o1.left, vi .i64 o1.steps]), .row (.st .S_pmem_cell) 125 (o1.cells : List S_pmem_cell), .row (.int .i64) 3 (o1.plan.list : List Int)]) (fun o2 => [.box 105 (.agg [.sl 1 4 [], .agg [.sl 2 1 [], vi .i64 o1.plan.at_], vb o1.off, vb o1.armed, vi .i64 o1.left, vi .i64 o1.steps]), .row (.st .S_pmem_cell) 125 (o1.cells : List S_pmem_cell), .row (.int .i64) 3 (o1.plan.list : List Int), .box 108 (.agg [vi .i64 o2.reserve, .agg [.ptr 4 0, .ptr 6 0, .ptr 8 0, .ptr 10 0]]), .box 112 (.agg [vi .i64 o2.sets.1.size, .sl 5 1 []]), .row (.int .u64) 119 (o2.sets.1.words : List Int), .box 112 (.agg [vi .i64 o2.sets.2.1.size, .sl 7 1 []]), .row (.int .u64) 119 (o2.sets.2.1.words : List Int), .box 112 (.agg [vi .i64 o2.sets.2.2.1.size, .sl 9 1 []]), .row (.int .u64) 119 (o2.sets.2.2.1.words : List Int), .box 112 (.agg [vi .i64 o2.sets.2.2.2.size, .sl 11 1 []]), .row (.int .u64) 119 (o2.sets.2.2.2.words : List Int)]))) (fun o0 => Option.elim r.2.1 ([]) (fun o1 => Option.elim r.2.2 ([]) (fun o2 => [.box 105 (.agg [.sl 1 4 [], .agg [.sl 2 1 [], vi .i64 o1.plan.at_], vb o1.off, vb o1.armed, vi .i64 o1.left, vi .i64 o1.steps]), .row (.st .S_pmem_cell) 125 (o1.cells : List S_pmem_cell), .row (.int .i64) 3 (o1.plan.list : List Int), .box 108 (.agg [vi .i64 o2.reserve, .agg [.ptr 4 0, .ptr 6 0, .ptr 8 0, .ptr 10 0]]), .box 112 (.agg [vi .i64 o2.sets.1.size, .sl 5 1 []]), .row (.int .u64) 119 (o2.sets.1.words : List Int), .box 112 (.agg [vi .i64 o2.sets.2.1.size, .sl 7 1 []]), .row (.int .u64) 119 (o2.sets.2.1.words : List Int), .box 112 (.agg [vi .i64 o2.sets.2.2.1.size, .sl 9 1 []]), .row (.int .u64) 119 (o2.sets.2.2.1.words : List Int), .box 112 (.agg [vi .i64 o2.sets.2.2.2.size, .sl 11 1 []]), .row (.int .u64) 119 (o2.sets.2.2.2.words : List Int), .box 114 (.agg [.ptr 0 0, .ptr 3 0])])))) := by
 unfold rickyardlaw19_Made.f at h
 refine sq Tryd.func16 r (fun r => Option.elim r.1 (Option.elim r.2.1 (Option.elim r.2.2 (.tup [.nilp, .nilp, .nilp]) (fun o2 => .tup [.nilp, .nilp, .ptr 0 0])) (fun o1 => Option.elim r.2.2 (.tup [.nilp, .ptr 0 0, .nilp]) (fun o2 => .tup [.nilp, .ptr 0 0, .ptr 3 0]))) (fun o0 => Option.elim r.2.1 (.undef) (fun o1 => Option.elim r.2.2 (.undef) (fun o2 => .tup [.ptr 12 0, .ptr 0 0, .ptr 3 0])))) (fun r => Option.elim r.1 (Option.elim r.2.1 (Option.elim r.2.2 ([]) (fun o2 => [.box 108 (.agg [vi .i64 o2.reserve, .agg [.ptr 1 0, .ptr 3 0, .ptr 5 0, .ptr 7 0]]), .box 112 (.agg [vi .i64 o2.sets.1.size, .sl 2 1 []]), .row (.int .u64) 119 (o2.sets.1.words : List Int), .box 112 (.agg [vi .i64 o2.sets.2.1.size, .sl 4 1 []]), .row (.int .u64) 119 (o2.sets.2.1.words : List Int), .box 112 (.agg [vi .i64 o2.sets.2.2.1.size, .sl 6 1 []]), .row (.int .u64) 119 (o2.sets.2.2.1.words : List Int), .box 112 (.agg [vi .i64 o2.sets.2.2.2.size, .sl 8 1 []]), .row (.int .u64) 119 (o2.sets.2.2.2.words : List Int)])) (fun o1 => Option.elim r.2.2 ([.box 105 (.agg [.sl 1 4 [], .agg [.sl 2 1 [], vi .i64 o1.plan.at_], vb o1.off, vb o1.armed, vi .i64 o1.left, vi .i64 o1.steps]), .row (.st .S_pmem_cell) 125 (o1.cells : List S_pmem_cell), .row (.int .i64) 3 (o1.plan.list : List Int)]) (fun o2 => [.box 105 (.agg [.sl 1 4 [], .agg [.sl 2 1 [], vi .i64 o1.plan.at_], vb o1.off, vb o1.armed, vi .i64 o1.left, vi .i64 o1.steps]), .row (.st .S_pmem_cell) 125 (o1.cells : List S_pmem_cell), .row (.int .i64) 3 (o1.plan.list : List Int), .box 108 (.agg [vi .i64 o2.reserve, .agg [.ptr 4 0, .ptr 6 0, .ptr 8 0, .ptr 10 0]]), .box 112 (.agg [vi .i64 o2.sets.1.size, .sl 5 1 []]), .row (.int .u64) 119 (o2.sets.1.words : List Int), .box 112 (.agg [vi .i64 o2.sets.2.1.size, .sl 7 1 []]), .row (.int .u64) 119 (o2.sets.2.1.words : List Int), .box 112 (.agg [vi .i64 o2.sets.2.2.1.size, .sl 9 1 []]), .row (.int .u64) 119 (o2.sets.2.2.1.words : List Int), .box 112 (.agg [vi .i64 o2.sets.2.2.2.size, .sl 11 1 []]), .row (.int .u64) 119 (o2.sets.2.2.2.words : List Int)]))) (fun o0 => Option.elim r.2.1 ([]) (fun o1 => Option.elim r.2.2 ([]) (fun o2 => [.box 105 (.agg [.sl 1 4 [], .agg [.sl 2 1 [], vi .i64 o1.plan.at_], vb o1.off, vb o1.armed, vi .i64 o1.left, vi .i64 o1.steps]), .row (.st .S_pmem_cell) 125 (o1.cells : List S_pmem_cell), .row (.int .i64) 3 (o1.plan.list : List Int), .box 108 (.agg [vi .i64 o2.reserve, .agg [.ptr 4 0, .ptr 6 0, .ptr 8 0, .ptr 10 0]]), .box 112 (.agg [vi .i64 o2.sets.1.size, .sl 5 1 []]), .row (.int .u64) 119 (o2.sets.1.words : List Int), .box 112 (.agg [vi .i64 o2.sets.2.1.size, .sl 7 1 []]), .row (.int .u64) 119 (o2.sets.2.1.words : List Int), .box 112 (.agg [vi .i64 o2.sets.2.2.1.size, .sl 9 1 []]), .row (.int .u64) 119 (o2.sets.2.2.1.words : List Int), .box 112 (.agg [vi .i64 o2.sets.2.2.2.size, .sl 11 1 []]), .row (.int .u64) 119 (o2.sets.2.2.2.words : List Int), .box 114 (.agg [.ptr 0 0, .ptr 3 0])])))) fun X => ?_
 refine bk h fun t1 k2 h => ?_
 refine oe (x := t1.1) h (fun q4 h => ?_) (fun o3 q4 h => ?_)
 ·skip
  refine cl4 cok.g (pmem_New.scn fu _ _ k2 q4) (.tup [.nilp, vi .i64 t1.2]) [] 0 ?_
  refine bk h fun t5 k6 h => ?_
  refine cl4 cok.g (bits_Of.sc fu _ _ _ k6) (.ptr 1 0) [(1, .box 112 (.agg [vi .i64 t5.size, .sl 2 1 []])), (2, .row (.int .u64) 119 (t5.words : List Int))] 3 ?_
  refine bk h fun t7 k8 h => ?_
  refine cl4 cok.g (bits_Of.sc fu _ _ _ k8) (.ptr 3 0) [(3, .box 112 (.agg [vi .i64 t7.size, .sl 4 1 []])), (4, .row (.int .u64) 119 (t7.words : List Int))] 5 ?_
  refine bk h fun t9 k10 h => ?_
  refine oe (x := t9.1) h (fun q12 h => ?_) (fun o11 q12 h => ?_)
  ·skip
   refine cl4 cok.g (alloc_New.scn fu _ _ _ _ k10 q12) (.tup [.nilp, vi .i64 t9.2]) [(1, .box 112 (.agg [vi .i64 t5.size, .sl 2 1 []])), (2, .row (.int .u64) 119 (t5.words : List Int)), (3, .box 112 (.agg [vi .i64 t7.size, .sl 4 1 []])), (4, .row (.int .u64) 119 (t7.words : List Int))] 9 ?_
   refine bk h fun t13 k14 h => ?_
   refine cl4 cok.g (shadow_New_n0_n1.sc fu _ k14) (.tup [.nilp, vi .i64 t13]) [] 9 ?_
   exact fk h
  refine cl4 cok.g (alloc_New.scs fu _ _ _ _ k10 o11 q12) (.tup [.ptr 9 0, vi .i64 t9.2]) [(1, .box 112 (.agg [vi .i64 t5.size, .sl 2 1 []])), (2, .row (.int .u64) 119 (t5.words : List Int)), (3, .box 112 (.agg [vi .i64 t7.size, .sl 4 1 []])), (4, .row (.int .u64) 119 (t7.words : List Int)), (9, .box 108 (.agg [vi .i64 o11.reserve, .agg [.ptr 10 0, .ptr 12 0, .ptr 14 0, .ptr 16 0]])), (10, .box 112 (.agg [vi .i64 o11.sets.1.size, .sl 11 1 []])), (11, .row (.int .u64) 119 (o11.sets.1.words : List Int)), (12, .box 112 (.agg [vi .i64 o11.sets.2.1.size, .sl 13 1 []])), (13, .row (.int .u64) 119 (o11.sets.2.1.words : List Int)), (14, .box 112 (.agg [vi .i64 o11.sets.2.2.1.size, .sl 15 1 []])), (15, .row (.int .u64) 119 (o11.sets.2.2.1.words : List Int)), (16, .box 112 (.agg [vi .i64 o11.sets.2.2.2.size, .sl 17 1 []])), (17, .row (.int .u64) 119 (o11.sets.2.2.2.words : List Int))] 18 ?_
  refine bk h fun t15 k16 h => ?_
  refine cl4 cok.g (shadow_New_n0.sc fu _ _ k16) (.tup [.nilp, vi .i64 t15]) [(9, .box 108 (.agg [vi .i64 o11.reserve, .agg [.ptr 10 0, .ptr 12 0, .ptr 14 0, .ptr 16 0]])), (10, .box 112 (.agg [vi .i64 o11.sets.1.size, .sl 11 1 []])), (11, .row (.int .u64) 119 (o11.sets.1.words : List Int)), (12, .box 112 (.agg [vi .i64 o11.sets.2.1.size, .sl 13 1 []])), (13, .row (.int .u64) 119 (o11.sets.2.1.words : List Int)), (14, .box 112 (.agg [vi .i64 o11.sets.2.2.1.size, .sl 15 1 []])), (15, .row (.int .u64) 119 (o11.sets.2.2.1.words : List Int)), (16, .box 112 (.agg [vi .i64 o11.sets.2.2.2.size, .sl 17 1 []])), (17, .row (.int .u64) 119 (o11.sets.2.2.2.words : List Int))] 27 ?_
  exact fk h
 refine cl4 cok.g (pmem_New.scs fu _ _ k2 o3 q4) (.tup [.ptr 0 0, vi .i64 t1.2]) [(0, .box 105 (.agg [.sl 1 4 [], .agg [.sl 2 1 [], vi .i64 o3.plan.at_], vb o3.off, vb o3.armed, vi .i64 o3.left, vi .i64 o3.steps])), (1, .row (.st .S_pmem_cell) 125 (o3.cells : List S_pmem_cell)), (2, .row (.int .i64) 3 (o3.plan.list : List Int))] 3 ?_
 refine bk h fun t17 k18 h => ?_
 refine cl4 cok.g (bits_Of.sc fu _ _ _ k18) (.ptr 4 0) [(4, .box 112 (.agg [vi .i64 t17.size, .sl 5 1 []])), (5, .row (.int .u64) 119 (t17.words : List Int))] 6 ?_
 refine bk h fun t19 k20 h => ?_
 refine cl4 cok.g (bits_Of.sc fu _ _ _ k20) (.ptr 6 0) [(6, .box 112 (.agg [vi .i64 t19.size, .sl 7 1 []])), (7, .row (.int .u64) 119 (t19.words : List Int))] 8 ?_
 refine bk h fun t21 k22 h => ?_
 refine oe (x := t21.1) h (fun q24 h => ?_) (fun o23 q24 h => ?_)
 ·skip
  refine cl4 cok.g (alloc_New.scn fu _ _ _ _ k22 q24) (.tup [.nilp, vi .i64 t21.2]) [(4, .box 112 (.agg [vi .i64 t17.size, .sl 5 1 []])), (5, .row (.int .u64) 119 (t17.words : List Int)), (6, .box 112 (.agg [vi .i64 t19.size, .sl 7 1 []])), (7, .row (.int .u64) 119 (t19.words : List Int))] 12 ?_
  refine bk h fun t25 k26 h => ?_
  refine cl4 cok.g (shadow_New_n1.sc fu _ _ k26) (.tup [.nilp, vi .i64 t25]) [(0, .box 105 (.agg [.sl 1 4 [], .agg [.sl 2 1 [], vi .i64 o3.plan.at_], vb o3.off, vb o3.armed, vi .i64 o3.left, vi .i64 o3.steps])), (1, .row (.st .S_pmem_cell) 125 (o3.cells : List S_pmem_cell)), (2, .row (.int .i64) 3 (o3.plan.list : List Int))] 15 ?_
  exact fk h
 refine cl4 cok.g (alloc_New.scs fu _ _ _ _ k22 o23 q24) (.tup [.ptr 12 0, vi .i64 t21.2]) [(4, .box 112 (.agg [vi .i64 t17.size, .sl 5 1 []])), (5, .row (.int .u64) 119 (t17.words : List Int)), (6, .box 112 (.agg [vi .i64 t19.size, .sl 7 1 []])), (7, .row (.int .u64) 119 (t19.words : List Int)), (12, .box 108 (.agg [vi .i64 o23.reserve, .agg [.ptr 13 0, .ptr 15 0, .ptr 17 0, .ptr 19 0]])), (13, .box 112 (.agg [vi .i64 o23.sets.1.size, .sl 14 1 []])), (14, .row (.int .u64) 119 (o23.sets.1.words : List Int)), (15, .box 112 (.agg [vi .i64 o23.sets.2.1.size, .sl 16 1 []])), (16, .row (.int .u64) 119 (o23.sets.2.1.words : List Int)), (17, .box 112 (.agg [vi .i64 o23.sets.2.2.1.size, .sl 18 1 []])), (18, .row (.int .u64) 119 (o23.sets.2.2.1.words : List Int)), (19, .box 112 (.agg [vi .i64 o23.sets.2.2.2.size, .sl 20 1 []])), (20, .row (.int .u64) 119 (o23.sets.2.2.2.words : List Int))] 21 ?_
 refine bk h fun t27 k28 h => ?_
 refine oe (x := t27.1) h (fun q30 h => ?_) (fun o29 q30 h => ?_)
 ·skip
  refine cl4 cok.g (shadow_New.scn fu _ _ _ k28 q30) (.tup [.nilp, vi .i64 t27.2]) [(0, .box 105 (.agg [.sl 1 4 [], .agg [.sl 2 1 [], vi .i64 o3.plan.at_], vb o3.off, vb o3.armed, vi .i64 o3.left, vi .i64 o3.steps])), (1, .row (.st .S_pmem_cell) 125 (o3.cells : List S_pmem_cell)), (2, .row (.int .i64) 3 (o3.plan.list : List Int)), (12, .box 108 (.agg [vi .i64 o23.reserve, .agg [.ptr 13 0, .ptr 15 0, .ptr 17 0, .ptr 19 0]])), (13, .box 112 (.agg [vi .i64 o23.sets.1.size, .sl 14 1 []])), (14, .row (.int .u64) 119 (o23.sets.1.words : List Int)), (15, .box 112 (.agg [vi .i64 o23.sets.2.1.size, .sl 16 1 []])), (16, .row (.int .u64) 119 (o23.sets.2.1.words : List Int)), (17, .box 112 (.agg [vi .i64 o23.sets.2.2.1.size, .sl 18 1 []])), (18, .row (.int .u64) 119 (o23.sets.2.2.1.words : List Int)), (19, .box 112 (.agg [vi .i64 o23.sets.2.2.2.size, .sl 20 1 []])), (20, .row (.int .u64) 119 (o23.sets.2.2.2.words : List Int))] 33 ?_
  exact fk h
 refine cl4 cok.g (shadow_New.scs fu _ _ _ k28 o29 q30) (.tup [.ptr 33 0, vi .i64 t27.2]) [(0, .box 105 (.agg [.sl 1 4 [], .agg [.sl 2 1 [], vi .i64 o3.plan.at_], vb o3.off, vb o3.armed, vi .i64 o3.left, vi .i64 o3.steps])), (1, .row (.st .S_pmem_cell) 125 (o3.cells : List S_pmem_cell)), (2, .row (.int .i64) 3 (o3.plan.list : List Int)), (12, .box 108 (.agg [vi .i64 o23.reserve, .agg [.ptr 13 0, .ptr 15 0, .ptr 17 0, .ptr 19 0]])), (13, .box 112 (.agg [vi .i64 o23.sets.1.size, .sl 14 1 []])), (14, .row (.int .u64) 119 (o23.sets.1.words : List Int)), (15, .box 112 (.agg [vi .i64 o23.sets.2.1.size, .sl 16 1 []])), (16, .row (.int .u64) 119 (o23.sets.2.1.words : List Int)), (17, .box 112 (.agg [vi .i64 o23.sets.2.2.1.size, .sl 18 1 []])), (18, .row (.int .u64) 119 (o23.sets.2.2.1.words : List Int)), (19, .box 112 (.agg [vi .i64 o23.sets.2.2.2.size, .sl 20 1 []])), (20, .row (.int .u64) 119 (o23.sets.2.2.2.words : List Int)), (33, .box 114 (.agg [.ptr 0 0, .ptr 12 0]))] 34 ?_
 exact fk h
theorem rickyardlaw19_Made.scnnn (fu : Nat) (a0 : Int) (a1 : Int) (r : (Option S_shadow_Store) × (Option S_pmem_Device) × (Option S_alloc_Alloc)) (h : rickyardlaw19_Made.f fu a0 a1 = some r) (q0 : r.1 = none) (q1 : r.2.1 = none) (q2 : r.2.2 = none) : SC Tryd.prog CT 16 [vi .i64 a0, vi .i64 a1] [] (.tup [.nilp, .nilp, .nilp]) [] := by
 have k := rickyardlaw19_Made.sc fu a0 a1 r h
 rw [q0, q1, q2] at k
 exact k
theorem rickyardlaw19_Made.scnns (fu : Nat) (a0 : Int) (a1 : Int) (r : (Option S_shadow_Store) × (Option S_pmem_Device) × (Option S_alloc_Alloc)) (h : rickyardlaw19_Made.f fu a0 a1 = some r) (q0 : r.1 = none) (q1 : r.2.1 = none) (o2 : S_alloc_Alloc) (q2 : r.2.2 = some o2) : SC Tryd.prog CT 16 [vi .i64 a0, vi .i64 a1] [] (.tup [.nilp, .nilp, .ptr 0 0]) [.box 108 (.agg [vi .i64 o2.reserve, .agg [.ptr 1 0, .ptr 3 0, .ptr 5 0, .ptr 7 0]]), .box 112 (.agg [vi .i64 o2.sets.1.size, .sl 2 1 []]), .row (.int .u64) 119 (o2.sets.1.words : List Int), .box 112 (.agg [vi .i64 o2.sets.2.1.size, .sl 4 1 []]), .row (.int .u64) 119 (o2.sets.2.1.words : List Int), .box 112 (.agg [vi .i64 o2.sets.2.2.1.size, .sl 6 1 []]), .row (.int .u64) 119 (o2.sets.2.2.1.words : List Int), .box 112 (.agg [vi .i64 o2.sets.2.2.2.size, .sl 8 1 []]), .row (.int .u64) 119 (o2.sets.2.2.2.words : List Int)] := by
 have k := rickyardlaw19_Made.sc fu a0 a1 r h
 rw [q0, q1, q2] at k
 exact k
theorem rickyardlaw19_Made.scnsn (fu : Nat) (a0 : Int) (a1 : Int) (r : (Option S_shadow_Store) × (Option S_pmem_Device) × (Option S_alloc_Alloc)) (h : rickyardlaw19_Made.f fu a0 a1 = some r) (q0 : r.1 = none) (o1 : S_pmem_Device) (q1 : r.2.1 = some o1) (q2 : r.2.2 = none) : SC Tryd.prog CT 16 [vi .i64 a0, vi .i64 a1] [] (.tup [.nilp, .ptr 0 0, .nilp]) [.box 105 (.agg [.sl 1 4 [], .agg [.sl 2 1 [], vi .i64 o1.plan.at_], vb o1.off, vb o1.armed, vi .i64 o1.left, vi .i64 o1.steps]), .row (.st .S_pmem_cell) 125 (o1.cells : List S_pmem_cell), .row (.int .i64) 3 (o1.plan.list : List Int)] := by
 have k := rickyardlaw19_Made.sc fu a0 a1 r h
 rw [q0, q1, q2] at k
 exact k
theorem rickyardlaw19_Made.scnss (fu : Nat) (a0 : Int) (a1 : Int) (r : (Option S_shadow_Store) × (Option S_pmem_Device) × (Option S_alloc_Alloc)) (h : rickyardlaw19_Made.f fu a0 a1 = some r) (q0 : r.1 = none) (o1 : S_pmem_Device) (q1 : r.2.1 = some o1) (o2 : S_alloc_Alloc) (q2 : r.2.2 = some o2) : SC Tryd.prog CT 16 [vi .i64 a0, vi .i64 a1] [] (.tup [.nilp, .ptr 0 0, .ptr 3 0]) [.box 105 (.agg [.sl 1 4 [], .agg [.sl 2 1 [], vi .i64 o1.plan.at_], vb o1.off, vb o1.armed, vi .i64 o1.left, vi .i64 o1.steps]), .row (.st .S_pmem_cell) 125 (o1.cells : List S_pmem_cell), .row (.int .i64) 3 (o1.plan.list : List Int), .box 108 (.agg [vi .i64 o2.reserve, .agg [.ptr 4 0, .ptr 6 0, .ptr 8 0, .ptr 10 0]]), .box 112 (.agg [vi .i64 o2.sets.1.size, .sl 5 1 []]), .row (.int .u64) 119 (o2.sets.1.words : List Int), .box 112 (.agg [vi .i64 o2.sets.2.1.size, .sl 7 1 []]), .row (.int .u64) 119 (o2.sets.2.1.words : List Int), .box 112 (.agg [vi .i64 o2.sets.2.2.1.size, .sl 9 1 []]), .row (.int .u64) 119 (o2.sets.2.2.1.words : List Int), .box 112 (.agg [vi .i64 o2.sets.2.2.2.size, .sl 11 1 []]), .row (.int .u64) 119 (o2.sets.2.2.2.words : List Int)] := by
 have k := rickyardlaw19_Made.sc fu a0 a1 r h
 rw [q0, q1, q2] at k
 exact k
theorem rickyardlaw19_Made.scsss (fu : Nat) (a0 : Int) (a1 : Int) (r : (Option S_shadow_Store) × (Option S_pmem_Device) × (Option S_alloc_Alloc)) (h : rickyardlaw19_Made.f fu a0 a1 = some r) (o0 : S_shadow_Store) (q0 : r.1 = some o0) (o1 : S_pmem_Device) (q1 : r.2.1 = some o1) (o2 : S_alloc_Alloc) (q2 : r.2.2 = some o2) : SC Tryd.prog CT 16 [vi .i64 a0, vi .i64 a1] [] (.tup [.ptr 12 0, .ptr 0 0, .ptr 3 0]) [.box 105 (.agg [.sl 1 4 [], .agg [.sl 2 1 [], vi .i64 o1.plan.at_], vb o1.off, vb o1.armed, vi .i64 o1.left, vi .i64 o1.steps]), .row (.st .S_pmem_cell) 125 (o1.cells : List S_pmem_cell), .row (.int .i64) 3 (o1.plan.list : List Int), .box 108 (.agg [vi .i64 o2.reserve, .agg [.ptr 4 0, .ptr 6 0, .ptr 8 0, .ptr 10 0]]), .box 112 (.agg [vi .i64 o2.sets.1.size, .sl 5 1 []]), .row (.int .u64) 119 (o2.sets.1.words : List Int), .box 112 (.agg [vi .i64 o2.sets.2.1.size, .sl 7 1 []]), .row (.int .u64) 119 (o2.sets.2.1.words : List Int), .box 112 (.agg [vi .i64 o2.sets.2.2.1.size, .sl 9 1 []]), .row (.int .u64) 119 (o2.sets.2.2.1.words : List Int), .box 112 (.agg [vi .i64 o2.sets.2.2.2.size, .sl 11 1 []]), .row (.int .u64) 119 (o2.sets.2.2.2.words : List Int), .box 114 (.agg [.ptr 0 0, .ptr 3 0])] := by
 have k := rickyardlaw19_Made.sc fu a0 a1 r h
 rw [q0, q1, q2] at k
 exact k
def rickyardlaw25_awake.f (fu : Nat) : Option Bool := ((rickyardlaw19_Made.f fu 20 0).bind fun t1 => (Option.elim t1.1 ((Option.elim t1.2.1 ((Option.elim t1.2.2 (some (false)) (fun o7 => some (false)))) (fun o5 => (Option.elim t1.2.2 (some (false)) (fun o9 => some (false)))))) (fun o3 => (Option.elim t1.2.1 (none) (fun o11 => (Option.elim t1.2.2 (none) (fun o13 => ((dir_Add.f fu (⟨o11, o13⟩ : S_shadow_Store) 0 [98]).bind fun t15 => ((dir_Add.f fu t15.2.2 t15.1 [97]).bind fun t17 => ((dir_List.f fu t17.2.2 t17.1).bind fun t19 => (if (decide (t15.2.1 = 0)) then (if (decide (t17.2.1 = 0)) then (if (decide (t19.2 = 0)) then (if (decide ((List.length t19.1 : Int) = 2)) then if (0 : Int) < (List.length t19.1 : Int) then (if (decide (((ix t19.1 0).Name) = [97])) then if (1 : Int) < (List.length t19.1 : Int) then some ((decide (((ix t19.1 1).Name) = [98]))) else none else some (false)) else none else some (false)) else some (false)) else some (false)) else some (false))))))))))))
theorem rickyardlaw25_awake.sc (fu : Nat) (r : Bool) (h : rickyardlaw25_awake.f fu = some r) : SC Tryd.prog CT 47 [] [] (vb r) [] := by
 unfold rickyardlaw25_awake.f at h
 refine sq Tryd.func47 r (fun r => vb r) (fun r => []) fun X => ?_
 refine bk h fun t1 k2 h => ?_
 refine oe (x := t1.1) h (fun q4 h => ?_) (fun o3 q4 h => ?_)
 ·skip
  refine oe (x := t1.2.1) h (fun q6 h => ?_) (fun o5 q6 h => ?_)
  ·skip
   refine oe (x := t1.2.2) h (fun q8 h => ?_) (fun o7 q8 h => ?_)
   ·skip
    refine cl4 cok.g (rickyardlaw19_Made.scnnn fu _ _ _ k2 q4 q6 q8) (.tup [.nilp, .nilp, .nilp]) [] 0 ?_
    refine t_cond cok ?_
    exact fk h
   refine cl4 cok.g (rickyardlaw19_Made.scnns fu _ _ _ k2 q4 q6 o7 q8) (.tup [.nilp, .nilp, .ptr 0 0]) [(0, .box 108 (.agg [vi .i64 o7.reserve, .agg [.ptr 1 0, .ptr 3 0, .ptr 5 0, .ptr 7 0]])), (1, .box 112 (.agg [vi .i64 o7.sets.1.size, .sl 2 1 []])), (2, .row (.int .u64) 119 (o7.sets.1.words : List Int)), (3, .box 112 (.agg [vi .i64 o7.sets.2.1.size, .sl 4 1 []])), (4, .row (.int .u64) 119 (o7.sets.2.1.words : List Int)), (5, .box 112 (.agg [vi .i64 o7.sets.2.2.1.size, .sl 6 1 []])), (6, .row (.int .u64) 119 (o7.sets.2.2.1.words : List Int)), (7, .box 112 (.agg [vi .i64 o7.sets.2.2.2.size, .sl 8 1 []])), (8, .row (.int .u64) 119 (o7.sets.2.2.2.words : List Int))] 9 ?_
   refine t_cond cok ?_
   exact fk h
  refine oe (x := t1.2.2) h (fun q10 h => ?_) (fun o9 q10 h => ?_)
  ·skip
   refine cl4 cok.g (rickyardlaw19_Made.scnsn fu _ _ _ k2 q4 o5 q6 q10) (.tup [.nilp, .ptr 0 0, .nilp]) [(0, .box 105 (.agg [.sl 1 4 [], .agg [.sl 2 1 [], vi .i64 o5.plan.at_], vb o5.off, vb o5.armed, vi .i64 o5.left, vi .i64 o5.steps])), (1, .row (.st .S_pmem_cell) 125 (o5.cells : List S_pmem_cell)), (2, .row (.int .i64) 3 (o5.plan.list : List Int))] 3 ?_
   refine t_cond cok ?_
   exact fk h
  refine cl4 cok.g (rickyardlaw19_Made.scnss fu _ _ _ k2 q4 o5 q6 o9 q10) (.tup [.nilp, .ptr 0 0, .ptr 3 0]) [(0, .box 105 (.agg [.sl 1 4 [], .agg [.sl 2 1 [], vi .i64 o5.plan.at_], vb o5.off, vb o5.armed, vi .i64 o5.left, vi .i64 o5.steps])), (1, .row (.st .S_pmem_cell) 125 (o5.cells : List S_pmem_cell)), (2, .row (.int .i64) 3 (o5.plan.list : List Int)), (3, .box 108 (.agg [vi .i64 o9.reserve, .agg [.ptr 4 0, .ptr 6 0, .ptr 8 0, .ptr 10 0]])), (4, .box 112 (.agg [vi .i64 o9.sets.1.size, .sl 5 1 []])), (5, .row (.int .u64) 119 (o9.sets.1.words : List Int)), (6, .box 112 (.agg [vi .i64 o9.sets.2.1.size, .sl 7 1 []])), (7, .row (.int .u64) 119 (o9.sets.2.1.words : List Int)), (8, .box 112 (.agg [vi .i64 o9.sets.2.2.1.size, .sl 9 1 []])), (9, .row (.int .u64) 119 (o9.sets.2.2.1.words : List Int)), (10, .box 112 (.agg [vi .i64 o9.sets.2.2.2.size, .sl 11 1 []])), (11, .row (.int .u64) 119 (o9.sets.2.2.2.words : List Int))] 12 ?_
  refine t_cond cok ?_
  exact fk h
 refine oe (x := t1.2.1) h (fun q12 h => ?_) (fun o11 q12 h => ?_)
 ·skip
  cases h
 refine oe (x := t1.2.2) h (fun q14 h => ?_) (fun o13 q14 h => ?_)
 ·skip
  cases h
 refine cl4 cok.g (rickyardlaw19_Made.scsss fu _ _ _ k2 o3 q4 o11 q12 o13 q14) (.tup [.ptr 12 0, .ptr 0 0, .ptr 3 0]) [(0, .box 105 (.agg [.sl 1 4 [], .agg [.sl 2 1 [], vi .i64 o11.plan.at_], vb o11.off, vb o11.armed, vi .i64 o11.left, vi .i64 o11.steps])), (1, .row (.st .S_pmem_cell) 125 (o11.cells : List S_pmem_cell)), (2, .row (.int .i64) 3 (o11.plan.list : List Int)), (3, .box 108 (.agg [vi .i64 o13.reserve, .agg [.ptr 4 0, .ptr 6 0, .ptr 8 0, .ptr 10 0]])), (4, .box 112 (.agg [vi .i64 o13.sets.1.size, .sl 5 1 []])), (5, .row (.int .u64) 119 (o13.sets.1.words : List Int)), (6, .box 112 (.agg [vi .i64 o13.sets.2.1.size, .sl 7 1 []])), (7, .row (.int .u64) 119 (o13.sets.2.1.words : List Int)), (8, .box 112 (.agg [vi .i64 o13.sets.2.2.1.size, .sl 9 1 []])), (9, .row (.int .u64) 119 (o13.sets.2.2.1.words : List Int)), (10, .box 112 (.agg [vi .i64 o13.sets.2.2.2.size, .sl 11 1 []])), (11, .row (.int .u64) 119 (o13.sets.2.2.2.words : List Int)), (12, .box 114 (.agg [.ptr 0 0, .ptr 3 0]))] 13 ?_
 refine t_cond cok ?_
 refine bk h fun t15 k16 h => ?_
 refine cl4 cok.g (dir_Add.sc fu _ _ _ _ k16) (.tup [vi .i64 t15.1, vi .i64 t15.2.1]) [(12, .box 114 (.agg [.ptr 0 0, .ptr 3 0])), (0, .box 105 (.agg [.sl 1 4 [], .agg [.sl 2 1 [], vi .i64 t15.2.2.device.plan.at_], vb t15.2.2.device.off, vb t15.2.2.device.armed, vi .i64 t15.2.2.device.left, vi .i64 t15.2.2.device.steps])), (1, .row (.st .S_pmem_cell) 125 (t15.2.2.device.cells : List S_pmem_cell)), (2, .row (.int .i64) 3 (t15.2.2.device.plan.list : List Int)), (3, .box 108 (.agg [vi .i64 t15.2.2.blocks.reserve, .agg [.ptr 4 0, .ptr 6 0, .ptr 8 0, .ptr 10 0]])), (4, .box 112 (.agg [vi .i64 t15.2.2.blocks.sets.1.size, .sl 5 1 []])), (5, .row (.int .u64) 119 (t15.2.2.blocks.sets.1.words : List Int)), (6, .box 112 (.agg [vi .i64 t15.2.2.blocks.sets.2.1.size, .sl 7 1 []])), (7, .row (.int .u64) 119 (t15.2.2.blocks.sets.2.1.words : List Int)), (8, .box 112 (.agg [vi .i64 t15.2.2.blocks.sets.2.2.1.size, .sl 9 1 []])), (9, .row (.int .u64) 119 (t15.2.2.blocks.sets.2.2.1.words : List Int)), (10, .box 112 (.agg [vi .i64 t15.2.2.blocks.sets.2.2.2.size, .sl 11 1 []])), (11, .row (.int .u64) 119 (t15.2.2.blocks.sets.2.2.2.words : List Int))] 26 ?_
 refine bk h fun t17 k18 h => ?_
 refine cl4 cok.g (dir_Add.sc fu _ _ _ _ k18) (.tup [vi .i64 t17.1, vi .i64 t17.2.1]) [(12, .box 114 (.agg [.ptr 0 0, .ptr 3 0])), (0, .box 105 (.agg [.sl 1 4 [], .agg [.sl 2 1 [], vi .i64 t17.2.2.device.plan.at_], vb t17.2.2.device.off, vb t17.2.2.device.armed, vi .i64 t17.2.2.device.left, vi .i64 t17.2.2.device.steps])), (1, .row (.st .S_pmem_cell) 125 (t17.2.2.device.cells : List S_pmem_cell)), (2, .row (.int .i64) 3 (t17.2.2.device.plan.list : List Int)), (3, .box 108 (.agg [vi .i64 t17.2.2.blocks.reserve, .agg [.ptr 4 0, .ptr 6 0, .ptr 8 0, .ptr 10 0]])), (4, .box 112 (.agg [vi .i64 t17.2.2.blocks.sets.1.size, .sl 5 1 []])), (5, .row (.int .u64) 119 (t17.2.2.blocks.sets.1.words : List Int)), (6, .box 112 (.agg [vi .i64 t17.2.2.blocks.sets.2.1.size, .sl 7 1 []])), (7, .row (.int .u64) 119 (t17.2.2.blocks.sets.2.1.words : List Int)), (8, .box 112 (.agg [vi .i64 t17.2.2.blocks.sets.2.2.1.size, .sl 9 1 []])), (9, .row (.int .u64) 119 (t17.2.2.blocks.sets.2.2.1.words : List Int)), (10, .box 112 (.agg [vi .i64 t17.2.2.blocks.sets.2.2.2.size, .sl 11 1 []])), (11, .row (.int .u64) 119 (t17.2.2.blocks.sets.2.2.2.words : List Int))] 39 ?_
 refine bk h fun t19 k20 h => ?_
 refine cl4 cok.g (dir_List.sc fu _ _ _ k20) (.tup [.sl 52 14 [], vi .i64 t19.2]) [(12, .box 114 (.agg [.ptr 0 0, .ptr 3 0])), (0, .box 105 (.agg [.sl 1 4 [], .agg [.sl 2 1 [], vi .i64 t17.2.2.device.plan.at_], vb t17.2.2.device.off, vb t17.2.2.device.armed, vi .i64 t17.2.2.device.left, vi .i64 t17.2.2.device.steps])), (1, .row (.st .S_pmem_cell) 125 (t17.2.2.device.cells : List S_pmem_cell)), (2, .row (.int .i64) 3 (t17.2.2.device.plan.list : List Int)), (3, .box 108 (.agg [vi .i64 t17.2.2.blocks.reserve, .agg [.ptr 4 0, .ptr 6 0, .ptr 8 0, .ptr 10 0]])), (4, .box 112 (.agg [vi .i64 t17.2.2.blocks.sets.1.size, .sl 5 1 []])), (5, .row (.int .u64) 119 (t17.2.2.blocks.sets.1.words : List Int)), (6, .box 112 (.agg [vi .i64 t17.2.2.blocks.sets.2.1.size, .sl 7 1 []])), (7, .row (.int .u64) 119 (t17.2.2.blocks.sets.2.1.words : List Int)), (8, .box 112 (.agg [vi .i64 t17.2.2.blocks.sets.2.2.1.size, .sl 9 1 []])), (9, .row (.int .u64) 119 (t17.2.2.blocks.sets.2.2.1.words : List Int)), (10, .box 112 (.agg [vi .i64 t17.2.2.blocks.sets.2.2.2.size, .sl 11 1 []])), (11, .row (.int .u64) 119 (t17.2.2.blocks.sets.2.2.2.words : List Int)), (52, .row (.st .S_api_Queue) 95 (t19.1 : List S_api_Queue))] 53 ?_
 refine t_reg cok ?_
 refine bi h (fun c21 h => ?_) (fun c21 h => ?_)
 ·skip
  refine bi h (fun c22 h => ?_) (fun c22 h => ?_)
  ·skip
   refine bi h (fun c23 h => ?_) (fun c23 h => ?_)
   ·skip
    refine bi h (fun c24 h => ?_) (fun c24 h => ?_)
    ·skip
     refine agL h (by decide) fun h => ?_
     refine bi h (fun c25 h => ?_) (fun c25 h => ?_)
     ·skip
      refine agL h (by decide) fun h => ?_
      exact fk h
     exact fk h
    exact fk h
   exact fk h
  exact fk h
 exact fk h
end Go.Proofs.YtdifnahlheogdaaDoor
