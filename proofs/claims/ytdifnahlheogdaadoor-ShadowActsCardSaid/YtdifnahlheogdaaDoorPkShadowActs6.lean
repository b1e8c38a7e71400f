/- ShadowActs: texts merged, part 6 of 7. The last part proves that the law ShadowActs holds for every input. -/
import Derived.Test.YtdifnahlheogdaaDoorPkShadowActs5
set_option maxRecDepth 100000
set_option maxHeartbeats 4000000
set_option linter.unusedVariables false
set_option linter.unusedSimpArgs false
namespace Go.Proofs.YtdifnahlheogdaaDoor
open Go Go.Xw Go.Yw
def rickyardlaw19_ShadowActs.s0 (fu : Nat) (a2 : List S_rickyardlaw19_Act) : (Int × S_shadow_Store × S_rickyardref19_Store) → Option (Sum (Sum Bool (S_shadow_Store × S_rickyardref19_Store)) (Int × S_shadow_Store × S_rickyardref19_Store)) := fun s31 => (if (decide (s31.1 < (List.length a2 : Int))) = true then if 0 ≤ s31.1 ∧ s31.1 < (List.length a2 : Int) then ((rickyardref01_Rest.f fu ((ix a2 s31.1).Kind) 10).bind fun t38 => (((if (decide (t38 = 0)) = true then ((shadow_Store_Make.f fu s31.2.1 ((ix a2 s31.1).B)).bind fun t45 => ((rickyardref19_Store_Make.f fu s31.2.2 ((ix a2 s31.1).B)).bind fun t47 => some (Sum.inr (t45.1, t47.1, t47.2.1, t45.2.1, t45.2.2, t47.2.2)))) else (((if (decide (t38 = 1)) = true then ((shadow_Store_Turn.f fu s31.2.1 ((ix a2 s31.1).At) ((ix a2 s31.1).B)).bind fun t54 => ((rickyardref19_Store_Turn.f fu s31.2.2 ((ix a2 s31.1).At) ((ix a2 s31.1).B)).bind fun t56 => some (Sum.inr (t54.1, t56.1, t56.2.1, t54.2.1, t54.2.2, t56.2.2)))) else (((if (decide (t38 = 2)) = true then ((shadow_Store_Drop.f fu s31.2.1 ((ix a2 s31.1).At)).bind fun t63 => ((rickyardref18_Alloc_Give.f fu s31.2.2.A ((ix a2 s31.1).At)).bind fun t65 => some (Sum.inr (t65.1, t63.1, t63.2, (⟨s31.2.2.D, t65.2⟩ : S_rickyardref19_Store))))) else (((if (decide (t38 = 3)) = true then ((shadow_Store_Get.f fu s31.2.1 ((ix a2 s31.1).At)).bind fun t72 => ((rickyardref15_Read.f fu s31.2.2.D ((ix a2 s31.1).At)).bind fun t74 => (if (!decide ((List.map toB t72.1) = t74.1)) = true then some (Sum.inl (Sum.inl (Sum.inl (Sum.inl (Sum.inl (Sum.inl (false))))))) else some (Sum.inr (t74.2, t72.2, s31.2.1, s31.2.2))))) else (((if (decide (t38 = 4)) = true then ((shadow_Store_Sure.f fu s31.2.1).bind fun t81 => ((rickyardref05_Device_Fence.f fu s31.2.2.D).bind fun t83 => some (t83.1, t81.1, t81.2, (⟨t83.2, s31.2.2.A⟩ : S_rickyardref19_Store)))) else (((if (decide (t38 = 5)) = true then ((alloc_Alloc_Mark.f fu s31.2.1.blocks).bind fun t89 => ((rickyardref18_Alloc_Do.f fu s31.2.2.A 0).bind fun t91 => some ((⟨s31.2.1.device, t89⟩ : S_shadow_Store), (⟨s31.2.2.D, t91⟩ : S_rickyardref19_Store)))) else (((if (decide (t38 = 6)) = true then ((alloc_Alloc_Back.f fu s31.2.1.blocks).bind fun t97 => ((rickyardref18_Alloc_Do.f fu s31.2.2.A 1).bind fun t99 => some ((⟨s31.2.1.device, t97⟩ : S_shadow_Store), (⟨s31.2.2.D, t99⟩ : S_rickyardref19_Store)))) else (((if (decide (t38 = 7)) = true then ((alloc_Alloc_Commit.f fu s31.2.1.blocks).bind fun t105 => ((rickyardref18_Alloc_Do.f fu s31.2.2.A 2).bind fun t107 => some ((⟨s31.2.1.device, t105⟩ : S_shadow_Store), (⟨s31.2.2.D, t107⟩ : S_rickyardref19_Store)))) else (((if (decide (t38 = 8)) = true then ((alloc_Alloc_Abort.f fu s31.2.1.blocks).bind fun t113 => ((rickyardref18_Alloc_Do.f fu s31.2.2.A 3).bind fun t115 => some ((⟨s31.2.1.device, t113⟩ : S_shadow_Store), (⟨s31.2.2.D, t115⟩ : S_rickyardref19_Store)))) else (((if (decide (t38 = 9)) = true then ((rickyardref01_Rest.f fu ((ix a2 s31.1).At) 40).bind fun t121 => ((pmem_Device_Arm.f fu s31.2.1.device t121).bind fun t123 => ((rickyardref01_Rest.f fu ((ix a2 s31.1).At) 40).bind fun t125 => ((rickyardref05_Device_Arm.f fu s31.2.2.D t125).bind fun t127 => some ((⟨t123, s31.2.1.blocks⟩ : S_shadow_Store), (⟨t127, s31.2.2.A⟩ : S_rickyardref19_Store)))))) else some (s31.2.1, s31.2.2)) : Option (S_shadow_Store × S_rickyardref19_Store)).bind fun x117 => some (x117.1, x117.2))) : Option (S_shadow_Store × S_rickyardref19_Store)).bind fun x109 => some (x109.1, x109.2))) : Option (S_shadow_Store × S_rickyardref19_Store)).bind fun x101 => some (x101.1, x101.2))) : Option (S_shadow_Store × S_rickyardref19_Store)).bind fun x93 => some (x93.1, x93.2))) : Option (S_shadow_Store × S_rickyardref19_Store)).bind fun x85 => some (0, 0, x85.1, x85.2))) : Option (Int × Int × S_shadow_Store × S_rickyardref19_Store)).bind fun x77 => some (Sum.inr (x77.1, x77.2.1, x77.2.2.1, x77.2.2.2)))) : Option (Sum (Sum (Sum (Sum (Sum (Sum Bool (S_shadow_Store × S_rickyardref19_Store)) (Int × S_shadow_Store × S_rickyardref19_Store)) (Int × Int × Int × Int × S_shadow_Store × S_rickyardref19_Store)) (Int × Int × Int × Int × S_shadow_Store × S_rickyardref19_Store)) (Int × Int × S_shadow_Store × S_rickyardref19_Store)) (Int × Int × S_shadow_Store × S_rickyardref19_Store))).bind fun x67 => match x67 with | Sum.inl p => some p | Sum.inr x69 => some (Sum.inr (x69.1, x69.2.1, x69.2.2.1, x69.2.2.2)))) : Option (Sum (Sum (Sum (Sum (Sum Bool (S_shadow_Store × S_rickyardref19_Store)) (Int × S_shadow_Store × S_rickyardref19_Store)) (Int × Int × Int × Int × S_shadow_Store × S_rickyardref19_Store)) (Int × Int × Int × Int × S_shadow_Store × S_rickyardref19_Store)) (Int × Int × S_shadow_Store × S_rickyardref19_Store))).bind fun x58 => match x58 with | Sum.inl p => some p | Sum.inr x60 => some (Sum.inr (0, 0, x60.1, x60.2.1, x60.2.2.1, x60.2.2.2)))) : Option (Sum (Sum (Sum (Sum Bool (S_shadow_Store × S_rickyardref19_Store)) (Int × S_shadow_Store × S_rickyardref19_Store)) (Int × Int × Int × Int × S_shadow_Store × S_rickyardref19_Store)) (Int × Int × Int × Int × S_shadow_Store × S_rickyardref19_Store))).bind fun x49 => match x49 with | Sum.inl p => some p | Sum.inr x51 => some (Sum.inr (x51.1, x51.2.1, x51.2.2.1, x51.2.2.2.1, x51.2.2.2.2.1, x51.2.2.2.2.2)))) : Option (Sum (Sum (Sum Bool (S_shadow_Store × S_rickyardref19_Store)) (Int × S_shadow_Store × S_rickyardref19_Store)) (Int × Int × Int × Int × S_shadow_Store × S_rickyardref19_Store))).bind fun x40 => match x40 with | Sum.inl p => some p | Sum.inr x42 => (if (!decide (x42.1 = x42.2.1)) = true then some (Sum.inl (Sum.inl (false))) else (if (!decide (x42.2.2.2.1 = x42.2.2.1)) = true then some (Sum.inl (Sum.inl (false))) else ((pmem_Device_Steps.f fu x42.2.2.2.2.1.device).bind fun t131 => (if (!decide (t131 = x42.2.2.2.2.2.D.Steps)) = true then some (Sum.inl (Sum.inl (false))) else ((pmem_Device_View.f fu x42.2.2.2.2.1.device).bind fun t134 => ((rickyardref05_Text.f fu x42.2.2.2.2.2.D.Stored).bind fun t136 => (if (!decide ((List.map toB t134) = t136)) = true then some (Sum.inl (Sum.inl (false))) else ((pmem_Device_Image.f fu x42.2.2.2.2.1.device).bind fun t139 => ((rickyardref05_Text.f fu x42.2.2.2.2.2.D.Lasts).bind fun t141 => (if (!decide ((List.map toB t139) = t141)) = true then some (Sum.inl (Sum.inl (false))) else ((shadow_Store_Alloc.f fu x42.2.2.2.2.1).bind fun t144 => ((alloc_Alloc_Works.f fu x42.2.2.2.2.1.blocks).bind fun t146 => ((bits_Set_List.f fu t146).bind fun t148 => ((rickyardref01_Ints.f fu t148 x42.2.2.2.2.2.A.Works).bind fun t150 => (if (!t150) = true then some (Sum.inl (Sum.inl (false))) else some (Sum.inr ((IntKind.i64.wrap (s31.1 + 1)), x42.2.2.2.2.1, x42.2.2.2.2.2))))))))))))))))))) else none else some (Sum.inl (Sum.inr (s31.2.1, s31.2.2))))
def rickyardlaw19_ShadowActs.f (fu : Nat) (a0 : Int) (a1 : Int) (a2 : List S_rickyardlaw19_Act) : Option Bool := ((rickyardlaw19_awake.f fu).bind fun t1 => (if (!t1) = true then ((rickyardlaw19_awake.f fu).bind fun t4 => some (t4)) else ((rickyardlaw19_small.f fu a2 30).bind fun t6 => (if (!t6) = true then ((rickyardlaw19_awake.f fu).bind fun t9 => some (t9)) else ((rickyardlaw19_Made.f fu (IntKind.i64.wrap (2 + (Int.tmod (IntKind.i64.wrap a0) 12))) (Int.tmod (IntKind.i64.wrap a1) 4)).bind fun t11 => (Option.elim t11.1 ((Option.elim t11.2.1 ((Option.elim t11.2.2 (some (false)) (fun o17 => some (false)))) (fun o15 => (Option.elim t11.2.2 (some (false)) (fun o19 => some (false)))))) (fun o13 => (Option.elim t11.2.1 ((Option.elim t11.2.2 (none) (fun o23 => none))) (fun o21 => (Option.elim t11.2.2 (none) (fun o25 => ((rickyardref05_New.f fu (IntKind.i64.wrap (2 + (Int.tmod (IntKind.i64.wrap a0) 12)))).bind fun t27 => ((rickyardref18_New.f fu (IntKind.i64.wrap (2 + (Int.tmod (IntKind.i64.wrap a0) 12))) [0, 1] [] (Int.tmod (IntKind.i64.wrap a1) 4)).bind fun t29 => ((loopM (rickyardlaw19_ShadowActs.s0 fu a2) fu (0, (⟨o21, o25⟩ : S_shadow_Store), (⟨t27, t29⟩ : S_rickyardref19_Store))).bind fun e32 => match e32 with | Sum.inl p => some p | Sum.inr x34 => some (true)))))))))))))))
theorem rickyardlaw19_ShadowActs.sc (fu : Nat) (a0 : Int) (a1 : Int) (a2 : List S_rickyardlaw19_Act) (r : Bool) (h : rickyardlaw19_ShadowActs.f fu a0 a1 a2 = some r) : SC Tryd.prog CT 7 [vi .u8 a0, vi .u8 a1, .v (.sl (.st .S_rickyardlaw19_Act)) (a2 : List S_rickyardlaw19_Act)] [] (vb r) [] := by
 unfold rickyardlaw19_ShadowActs.f at h
 refine sc_of (r := r) (N := 275) (rs := [.tmp 6]) (V := fun (r : Bool) => vb r) (R' := fun (r : Bool) => []) cok Tryd.func7 rfl rfl rfl (by kernel_rfl) (by kernel_rfl) rfl rfl fun X => ?_
 refine t_reg cok ?_
 refine bk h fun t1 k2 h => ?_
 refine cl3 cok.g (rickyardlaw19_awake.sc fu _ k2) (vb t1) [] 0 (by kernel_rfl) (by kernel_rfl) ?_
 refine bi h (fun c3 h => ?_) (fun c3 h => ?_)
 ·skip
  refine t_cond cok ?_
  refine bk h fun t4 k5 h => ?_
  refine cl3 cok.g (rickyardlaw19_awake.sc fu _ k5) (vb t4) [] 0 (by kernel_rfl) (by kernel_rfl) ?_
  exact fi h (by kernel_rfl)
 refine bk h fun t6 k7 h => ?_
 refine cl3 cok.g (rickyardlaw19_small.sc fu a2 30 _ k7) (vb t6) [] 0 (by kernel_rfl) (by kernel_rfl) ?_
 refine t_cond cok ?_
 refine bi h (fun c8 h => ?_) (fun c8 h => ?_)
 ·skip
  refine bk h fun t9 k10 h => ?_
  refine cl3 cok.g (rickyardlaw19_awake.sc fu _ k10) (vb t9) [] 0 (by kernel_rfl) (by kernel_rfl) ?_
  exact fi h (by kernel_rfl)
 refine ⟨by decide, ?_⟩
 refine ⟨by decide, ?_⟩
 refine bk h fun t11 k12 h => ?_
 refine oe (x := t11.1) h (fun q14 h => ?_) (fun o13 q14 h => ?_)
 ·skip
  refine oe (x := t11.2.1) h (fun q16 h => ?_) (fun o15 q16 h => ?_)
  ·skip
   refine oe (x := t11.2.2) h (fun q18 h => ?_) (fun o17 q18 h => ?_)
   ·skip
    refine cl3 cok.g (rickyardlaw19_Made.scnnn fu (IntKind.i64.wrap (2 + (Int.tmod (IntKind.i64.wrap a0) 12))) (Int.tmod (IntKind.i64.wrap a1) 4) _ k12 q14 q16 q18) (.tup [.nilp, .nilp, .nilp]) [] 0 (by kernel_rfl) (by kernel_rfl) ?_
    refine t_reg cok ?_
    refine t_cond cok ?_
    exact fi h (by kernel_rfl)
   refine cl3 cok.g (rickyardlaw19_Made.scnns fu (IntKind.i64.wrap (2 + (Int.tmod (IntKind.i64.wrap a0) 12))) (Int.tmod (IntKind.i64.wrap a1) 4) _ k12 q14 q16 o17 q18) (.tup [.nilp, .nilp, .ptr 0 0]) [(0, .box 108 (.agg [vi .i64 o17.reserve, .agg [.ptr 1 0, .ptr 3 0, .ptr 5 0, .ptr 7 0]])), (1, .box 112 (.agg [vi .i64 o17.sets.1.size, .sl 2 1 []])), (2, .row (.int .u64) 119 (o17.sets.1.words : List Int)), (3, .box 112 (.agg [vi .i64 o17.sets.2.1.size, .sl 4 1 []])), (4, .row (.int .u64) 119 (o17.sets.2.1.words : List Int)), (5, .box 112 (.agg [vi .i64 o17.sets.2.2.1.size, .sl 6 1 []])), (6, .row (.int .u64) 119 (o17.sets.2.2.1.words : List Int)), (7, .box 112 (.agg [vi .i64 o17.sets.2.2.2.size, .sl 8 1 []])), (8, .row (.int .u64) 119 (o17.sets.2.2.2.words : List Int))] 9 (by kernel_rfl) (by kernel_rfl) ?_
   refine t_reg cok ?_
   refine t_cond cok ?_
   exact fi h (by kernel_rfl)
  refine oe (x := t11.2.2) h (fun q20 h => ?_) (fun o19 q20 h => ?_)
  ·skip
   refine cl3 cok.g (rickyardlaw19_Made.scnsn fu (IntKind.i64.wrap (2 + (Int.tmod (IntKind.i64.wrap a0) 12))) (Int.tmod (IntKind.i64.wrap a1) 4) _ k12 q14 o15 q16 q20) (.tup [.nilp, .ptr 0 0, .nilp]) [(0, .box 105 (.agg [.sl 1 4 [], .agg [.sl 2 1 [], vi .i64 o15.plan.at_], vb o15.off, vb o15.armed, vi .i64 o15.left, vi .i64 o15.steps])), (1, .row (.st .S_pmem_cell) 125 (o15.cells : List S_pmem_cell)), (2, .row (.int .i64) 3 (o15.plan.list : List Int))] 3 (by kernel_rfl) (by kernel_rfl) ?_
   refine t_reg cok ?_
   refine t_cond cok ?_
   exact fi h (by kernel_rfl)
  refine cl3 cok.g (rickyardlaw19_Made.scnss fu (IntKind.i64.wrap (2 + (Int.tmod (IntKind.i64.wrap a0) 12))) (Int.tmod (IntKind.i64.wrap a1) 4) _ k12 q14 o15 q16 o19 q20) (.tup [.nilp, .ptr 0 0, .ptr 3 0]) [(0, .box 105 (.agg [.sl 1 4 [], .agg [.sl 2 1 [], vi .i64 o15.plan.at_], vb o15.off, vb o15.armed, vi .i64 o15.left, vi .i64 o15.steps])), (1, .row (.st .S_pmem_cell) 125 (o15.cells : List S_pmem_cell)), (2, .row (.int .i64) 3 (o15.plan.list : List Int)), (3, .box 108 (.agg [vi .i64 o19.reserve, .agg [.ptr 4 0, .ptr 6 0, .ptr 8 0, .ptr 10 0]])), (4, .box 112 (.agg [vi .i64 o19.sets.1.size, .sl 5 1 []])), (5, .row (.int .u64) 119 (o19.sets.1.words : List Int)), (6, .box 112 (.agg [vi .i64 o19.sets.2.1.size, .sl 7 1 []])), (7, .row (.int .u64) 119 (o19.sets.2.1.words : List Int)), (8, .box 112 (.agg [vi .i64 o19.sets.2.2.1.size, .sl 9 1 []])), (9, .row (.int .u64) 119 (o19.sets.2.2.1.words : List Int)), (10, .box 112 (.agg [vi .i64 o19.sets.2.2.2.size, .sl 11 1 []])), (11, .row (.int .u64) 119 (o19.sets.2.2.2.words : List Int))] 12 (by kernel_rfl) (by kernel_rfl) ?_
  refine t_reg cok ?_
  refine t_cond cok ?_
  exact fi h (by kernel_rfl)
 refine oe (x := t11.2.1) h (fun q22 h => ?_) (fun o21 q22 h => ?_)
 ·skip
  refine oe (x := t11.2.2) h (fun q24 h => ?_) (fun o23 q24 h => ?_)
  ·skip
   cases h
  cases h
 refine oe (x := t11.2.2) h (fun q26 h => ?_) (fun o25 q26 h => ?_)
 ·skip
  cases h
 refine cl3 cok.g (rickyardlaw19_Made.scsss fu (IntKind.i64.wrap (2 + (Int.tmod (IntKind.i64.wrap a0) 12))) (Int.tmod (IntKind.i64.wrap a1) 4) _ k12 o13 q14 o21 q22 o25 q26) (.tup [.ptr 12 0, .ptr 0 0, .ptr 3 0]) [(0, .box 105 (.agg [.sl 1 4 [], .agg [.sl 2 1 [], vi .i64 o21.plan.at_], vb o21.off, vb o21.armed, vi .i64 o21.left, vi .i64 o21.steps])), (1, .row (.st .S_pmem_cell) 125 (o21.cells : List S_pmem_cell)), (2, .row (.int .i64) 3 (o21.plan.list : List Int)), (3, .box 108 (.agg [vi .i64 o25.reserve, .agg [.ptr 4 0, .ptr 6 0, .ptr 8 0, .ptr 10 0]])), (4, .box 112 (.agg [vi .i64 o25.sets.1.size, .sl 5 1 []])), (5, .row (.int .u64) 119 (o25.sets.1.words : List Int)), (6, .box 112 (.agg [vi .i64 o25.sets.2.1.size, .sl 7 1 []])), (7, .row (.int .u64) 119 (o25.sets.2.1.words : List Int)), (8, .box 112 (.agg [vi .i64 o25.sets.2.2.1.size, .sl 9 1 []])), (9, .row (.int .u64) 119 (o25.sets.2.2.1.words : List Int)), (10, .box 112 (.agg [vi .i64 o25.sets.2.2.2.size, .sl 11 1 []])), (11, .row (.int .u64) 119 (o25.sets.2.2.2.words : List Int)), (12, .box 114 (.agg [.ptr 0 0, .ptr 3 0]))] 13 (by kernel_rfl) (by kernel_rfl) ?_
 refine t_reg cok ?_
 refine t_cond cok ?_
 refine bk h fun t27 k28 h => ?_
 refine cl3 cok.g (rickyardref05_New.sc fu (IntKind.i64.wrap (2 + (Int.tmod (IntKind.i64.wrap a0) 12))) _ k28) (.ptr 13 0) [(13, .box 83 (.agg [.sl 14 1 [], .sl 15 1 [], .sl 16 1 [], .sl 17 1 [], .v (.sl (.int .i64)) (t27.Plan : List Int), vi .i64 t27.Since, vi .i64 t27.Left, vi .i64 t27.Steps])), (14, .row (.int .u64) 119 (t27.Lasts : List Int)), (15, .row (.int .u64) 119 (t27.Stored : List Int)), (16, .row (.int .u64) 119 (t27.Sent : List Int)), (17, .row (.bool) 4 (t27.Flushed : List Bool))] 18 (by kernel_rfl) (by kernel_rfl) ?_
 refine bk h fun t29 k30 h => ?_
 refine cl3 cok.g (rickyardref18_New.sc fu (IntKind.i64.wrap (2 + (Int.tmod (IntKind.i64.wrap a0) 12))) [0, 1] [] (Int.tmod (IntKind.i64.wrap a1) 4) _ k30) (.ptr 19 0) [(18, .fz (.int .i64) ([0, 1] : List Int)), (19, .box 86 (.v (.st .S_rickyardref18_Alloc) (t29 : S_rickyardref18_Alloc)))] 20 (by kernel_rfl) (by kernel_rfl) ?_
 refine bk h fun e32 l33 h => ?_
 refine t_cutxS cok 0 (fun (x34 : S_shadow_Store × S_rickyardref19_Store) => ⟨[], []⟩) e32 ?_ (fun x34 hy => ?_)
 ·skip
  have h35 := h
  refine t_loop cok (fun (s31 : Int × S_shadow_Store × S_rickyardref19_Store) => ⟨[(2, .v (.sl (.st .S_rickyardlaw19_Act)) (a2 : List S_rickyardlaw19_Act)), (9, .ptr 0 0), (10, .ptr 1 0), (11, .ptr 4 0), (12, .ptr 13 0), (13, vi .i64 s31.1)], [.box 114 (.agg [.ptr 1 0, .ptr 4 0]), .box 105 (.agg [.sl 2 4 [], .agg [.sl 3 1 [], vi .i64 s31.2.1.device.plan.at_], vb s31.2.1.device.off, vb s31.2.1.device.armed, vi .i64 s31.2.1.device.left, vi .i64 s31.2.1.device.steps]), .row (.st .S_pmem_cell) 125 (s31.2.1.device.cells : List S_pmem_cell), .row (.int .i64) 3 (s31.2.1.device.plan.list : List Int), .box 108 (.agg [vi .i64 s31.2.1.blocks.reserve, .agg [.ptr 5 0, .ptr 7 0, .ptr 9 0, .ptr 11 0]]), .box 112 (.agg [vi .i64 s31.2.1.blocks.sets.1.size, .sl 6 1 []]), .row (.int .u64) 119 (s31.2.1.blocks.sets.1.words : List Int), .box 112 (.agg [vi .i64 s31.2.1.blocks.sets.2.1.size, .sl 8 1 []]), .row (.int .u64) 119 (s31.2.1.blocks.sets.2.1.words : List Int), .box 112 (.agg [vi .i64 s31.2.1.blocks.sets.2.2.1.size, .sl 10 1 []]), .row (.int .u64) 119 (s31.2.1.blocks.sets.2.2.1.words : List Int), .box 112 (.agg [vi .i64 s31.2.1.blocks.sets.2.2.2.size, .sl 12 1 []]), .row (.int .u64) 119 (s31.2.1.blocks.sets.2.2.2.words : List Int), .box 71 (.agg [.ptr 14 0, .ptr 19 0]), .box 83 (.agg [.sl 15 1 [], .sl 16 1 [], .sl 17 1 [], .sl 18 1 [], .v (.sl (.int .i64)) (s31.2.2.D.Plan : List Int), vi .i64 s31.2.2.D.Since, vi .i64 s31.2.2.D.Left, vi .i64 s31.2.2.D.Steps]), .row (.int .u64) 119 (s31.2.2.D.Lasts : List Int), .row (.int .u64) 119 (s31.2.2.D.Stored : List Int), .row (.int .u64) 119 (s31.2.2.D.Sent : List Int), .row (.bool) 4 (s31.2.2.D.Flushed : List Bool), .box 86 (.v (.st .S_rickyardref18_Alloc) (s31.2.2.A : S_rickyardref18_Alloc))]⟩) l33 (by kernel_rfl) (fun s31 x36 h => ?_)
  unfold rickyardlaw19_ShadowActs.s0 at h
  refine t_cond cok ?_
  refine bi h (fun c37 h => ?_) (fun c37 h => ?_)
  ·skip
   refine ag h fun h => ?_
   refine bk h fun t38 k39 h => ?_
   refine cl3 cok.g (rickyardref01_Rest.sc fu ((ix a2 s31.1).Kind) 10 _ k39) (vi .i64 t38) [] 21 (by kernel_rfl) (by kernel_rfl) ?_
   refine bk h fun x40 j41 h => ?_
   refine t_cutS cok (fun (x42 : Int × Int × Int × Int × S_shadow_Store × S_rickyardref19_Store) => ⟨[(2, .v (.sl (.st .S_rickyardlaw19_Act)) (a2 : List S_rickyardlaw19_Act)), (9, .ptr 0 0), (10, .ptr 1 0), (11, .ptr 4 0), (12, .ptr 13 0), (13, vi .i64 s31.1), (15, vi .i64 x42.1), (16, vi .i64 x42.2.1), (17, vi .i64 x42.2.2.1), (18, vi .i64 x42.2.2.2.1)], [.box 114 (.agg [.ptr 1 0, .ptr 4 0]), .box 105 (.agg [.sl 2 4 [], .agg [.sl 3 1 [], vi .i64 x42.2.2.2.2.1.device.plan.at_], vb x42.2.2.2.2.1.device.off, vb x42.2.2.2.2.1.device.armed, vi .i64 x42.2.2.2.2.1.device.left, vi .i64 x42.2.2.2.2.1.device.steps]), .row (.st .S_pmem_cell) 125 (x42.2.2.2.2.1.device.cells : List S_pmem_cell), .row (.int .i64) 3 (x42.2.2.2.2.1.device.plan.list : List Int), .box 108 (.agg [vi .i64 x42.2.2.2.2.1.blocks.reserve, .agg [.ptr 5 0, .ptr 7 0, .ptr 9 0, .ptr 11 0]]), .box 112 (.agg [vi .i64 x42.2.2.2.2.1.blocks.sets.1.size, .sl 6 1 []]), .row (.int .u64) 119 (x42.2.2.2.2.1.blocks.sets.1.words : List Int), .box 112 (.agg [vi .i64 x42.2.2.2.2.1.blocks.sets.2.1.size, .sl 8 1 []]), .row (.int .u64) 119 (x42.2.2.2.2.1.blocks.sets.2.1.words : List Int), .box 112 (.agg [vi .i64 x42.2.2.2.2.1.blocks.sets.2.2.1.size, .sl 10 1 []]), .row (.int .u64) 119 (x42.2.2.2.2.1.blocks.sets.2.2.1.words : List Int), .box 112 (.agg [vi .i64 x42.2.2.2.2.1.blocks.sets.2.2.2.size, .sl 12 1 []]), .row (.int .u64) 119 (x42.2.2.2.2.1.blocks.sets.2.2.2.words : List Int), .box 71 (.agg [.ptr 14 0, .ptr 19 0]), .box 83 (.agg [.sl 15 1 [], .sl 16 1 [], .sl 17 1 [], .sl 18 1 [], .v (.sl (.int .i64)) (x42.2.2.2.2.2.D.Plan : List Int), vi .i64 x42.2.2.2.2.2.D.Since, vi .i64 x42.2.2.2.2.2.D.Left, vi .i64 x42.2.2.2.2.2.D.Steps]), .row (.int .u64) 119 (x42.2.2.2.2.2.D.Lasts : List Int), .row (.int .u64) 119 (x42.2.2.2.2.2.D.Stored : List Int), .row (.int .u64) 119 (x42.2.2.2.2.2.D.Sent : List Int), .row (.bool) 4 (x42.2.2.2.2.2.D.Flushed : List Bool), .box 86 (.v (.st .S_rickyardref18_Alloc) (x42.2.2.2.2.2.A : S_rickyardref18_Alloc))]⟩) x40 ?_ (fun x42 hy => ?_)
   ·skip
    have h43 := h
    have h := j41
    refine t_cond cok ?_
    refine bi h (fun c44 h => ?_) (fun c44 h => ?_)
    ·skip
     refine bk h fun t45 k46 h => ?_
     refine cl3 cok.g (shadow_Store_Make.sc fu s31.2.1 ((ix a2 s31.1).B) _ k46) (.tup [vi .i64 t45.1, vi .i64 t45.2.1]) [(0, .box 114 (.agg [.ptr 1 0, .ptr 4 0])), (1, .box 105 (.agg [.sl 2 4 [], .agg [.sl 3 1 [], vi .i64 t45.2.2.device.plan.at_], vb t45.2.2.device.off, vb t45.2.2.device.armed, vi .i64 t45.2.2.device.left, vi .i64 t45.2.2.device.steps])), (2, .row (.st .S_pmem_cell) 125 (t45.2.2.device.cells : List S_pmem_cell)), (3, .row (.int .i64) 3 (t45.2.2.device.plan.list : List Int)), (4, .box 108 (.agg [vi .i64 t45.2.2.blocks.reserve, .agg [.ptr 5 0, .ptr 7 0, .ptr 9 0, .ptr 11 0]])), (5, .box 112 (.agg [vi .i64 t45.2.2.blocks.sets.1.size, .sl 6 1 []])), (6, .row (.int .u64) 119 (t45.2.2.blocks.sets.1.words : List Int)), (7, .box 112 (.agg [vi .i64 t45.2.2.blocks.sets.2.1.size, .sl 8 1 []])), (8, .row (.int .u64) 119 (t45.2.2.blocks.sets.2.1.words : List Int)), (9, .box 112 (.agg [vi .i64 t45.2.2.blocks.sets.2.2.1.size, .sl 10 1 []])), (10, .row (.int .u64) 119 (t45.2.2.blocks.sets.2.2.1.words : List Int)), (11, .box 112 (.agg [vi .i64 t45.2.2.blocks.sets.2.2.2.size, .sl 12 1 []])), (12, .row (.int .u64) 119 (t45.2.2.blocks.sets.2.2.2.words : List Int))] 34 (by kernel_rfl) (by kernel_rfl) ?_
     refine bk h fun t47 k48 h => ?_
     refine cl3 cok.g (rickyardref19_Store_Make.sc fu s31.2.2 ((ix a2 s31.1).B) _ k48) (.tup [vi .i64 t47.1, vi .i64 t47.2.1]) [(13, .box 71 (.agg [.ptr 14 0, .ptr 19 0])), (14, .box 83 (.agg [.sl 15 1 [], .sl 16 1 [], .sl 17 1 [], .sl 18 1 [], .v (.sl (.int .i64)) (t47.2.2.D.Plan : List Int), vi .i64 t47.2.2.D.Since, vi .i64 t47.2.2.D.Left, vi .i64 t47.2.2.D.Steps])), (15, .row (.int .u64) 119 (t47.2.2.D.Lasts : List Int)), (16, .row (.int .u64) 119 (t47.2.2.D.Stored : List Int)), (17, .row (.int .u64) 119 (t47.2.2.D.Sent : List Int)), (18, .row (.bool) 4 (t47.2.2.D.Flushed : List Bool)), (19, .box 86 (.v (.st .S_rickyardref18_Alloc) (t47.2.2.A : S_rickyardref18_Alloc)))] 41 (by kernel_rfl) (by kernel_rfl) ?_
     exact ems h (by kernel_rfl)
    refine bk h fun x49 j50 h => ?_
    refine t_cutS cok (fun (x51 : Int × Int × Int × Int × S_shadow_Store × S_rickyardref19_Store) => ⟨[(2, .v (.sl (.st .S_rickyardlaw19_Act)) (a2 : List S_rickyardlaw19_Act)), (9, .ptr 0 0), (10, .ptr 1 0), (11, .ptr 4 0), (12, .ptr 13 0), (13, vi .i64 s31.1), (15, vi .i64 x51.1), (16, vi .i64 x51.2.1), (17, vi .i64 x51.2.2.1), (18, vi .i64 x51.2.2.2.1)], [.box 114 (.agg [.ptr 1 0, .ptr 4 0]), .box 105 (.agg [.sl 2 4 [], .agg [.sl 3 1 [], vi .i64 x51.2.2.2.2.1.device.plan.at_], vb x51.2.2.2.2.1.device.off, vb x51.2.2.2.2.1.device.armed, vi .i64 x51.2.2.2.2.1.device.left, vi .i64 x51.2.2.2.2.1.device.steps]), .row (.st .S_pmem_cell) 125 (x51.2.2.2.2.1.device.cells : List S_pmem_cell), .row (.int .i64) 3 (x51.2.2.2.2.1.device.plan.list : List Int), .box 108 (.agg [vi .i64 x51.2.2.2.2.1.blocks.reserve, .agg [.ptr 5 0, .ptr 7 0, .ptr 9 0, .ptr 11 0]]), .box 112 (.agg [vi .i64 x51.2.2.2.2.1.blocks.sets.1.size, .sl 6 1 []]), .row (.int .u64) 119 (x51.2.2.2.2.1.blocks.sets.1.words : List Int), .box 112 (.agg [vi .i64 x51.2.2.2.2.1.blocks.sets.2.1.size, .sl 8 1 []]), .row (.int .u64) 119 (x51.2.2.2.2.1.blocks.sets.2.1.words : List Int), .box 112 (.agg [vi .i64 x51.2.2.2.2.1.blocks.sets.2.2.1.size, .sl 10 1 []]), .row (.int .u64) 119 (x51.2.2.2.2.1.blocks.sets.2.2.1.words : List Int), .box 112 (.agg [vi .i64 x51.2.2.2.2.1.blocks.sets.2.2.2.size, .sl 12 1 []]), .row (.int .u64) 119 (x51.2.2.2.2.1.blocks.sets.2.2.2.words : List Int), .box 71 (.agg [.ptr 14 0, .ptr 19 0]), .box 83 (.agg [.sl 15 1 [], .sl 16 1 [], .sl 17 1 [], .sl 18 1 [], .v (.sl (.int .i64)) (x51.2.2.2.2.2.D.Plan : List Int), vi .i64 x51.2.2.2.2.2.D.Since, vi .i64 x51.2.2.2.2.2.D.Left, vi .i64 x51.2.2.2.2.2.D.Steps]), .row (.int .u64) 119 (x51.2.2.2.2.2.D.Lasts : List Int), .row (.int .u64) 119 (x51.2.2.2.2.2.D.Stored : List Int), .row (.int .u64) 119 (x51.2.2.2.2.2.D.Sent : List Int), .row (.bool) 4 (x51.2.2.2.2.2.D.Flushed : List Bool), .box 86 (.v (.st .S_rickyardref18_Alloc) (x51.2.2.2.2.2.A : S_rickyardref18_Alloc))]⟩) x49 ?_ (fun x51 hy => ?_)
    ·skip
     have h52 := h
     have h := j50
     refine t_cond cok ?_
     refine bi h (fun c53 h => ?_) (fun c53 h => ?_)
     ·skip
      refine bk h fun t54 k55 h => ?_
      refine cl3 cok.g (shadow_Store_Turn.sc fu s31.2.1 ((ix a2 s31.1).At) ((ix a2 s31.1).B) _ k55) (.tup [vi .i64 t54.1, vi .i64 t54.2.1]) [(0, .box 114 (.agg [.ptr 1 0, .ptr 4 0])), (1, .box 105 (.agg [.sl 2 4 [], .agg [.sl 3 1 [], vi .i64 t54.2.2.device.plan.at_], vb t54.2.2.device.off, vb t54.2.2.device.armed, vi .i64 t54.2.2.device.left, vi .i64 t54.2.2.device.steps])), (2, .row (.st .S_pmem_cell) 125 (t54.2.2.device.cells : List S_pmem_cell)), (3, .row (.int .i64) 3 (t54.2.2.device.plan.list : List Int)), (4, .box 108 (.agg [vi .i64 t54.2.2.blocks.reserve, .agg [.ptr 5 0, .ptr 7 0, .ptr 9 0, .ptr 11 0]])), (5, .box 112 (.agg [vi .i64 t54.2.2.blocks.sets.1.size, .sl 6 1 []])), (6, .row (.int .u64) 119 (t54.2.2.blocks.sets.1.words : List Int)), (7, .box 112 (.agg [vi .i64 t54.2.2.blocks.sets.2.1.size, .sl 8 1 []])), (8, .row (.int .u64) 119 (t54.2.2.blocks.sets.2.1.words : List Int)), (9, .box 112 (.agg [vi .i64 t54.2.2.blocks.sets.2.2.1.size, .sl 10 1 []])), (10, .row (.int .u64) 119 (t54.2.2.blocks.sets.2.2.1.words : List Int)), (11, .box 112 (.agg [vi .i64 t54.2.2.blocks.sets.2.2.2.size, .sl 12 1 []])), (12, .row (.int .u64) 119 (t54.2.2.blocks.sets.2.2.2.words : List Int))] 34 (by kernel_rfl) (by kernel_rfl) ?_
      refine bk h fun t56 k57 h => ?_
      refine cl3 cok.g (rickyardref19_Store_Turn.sc fu s31.2.2 ((ix a2 s31.1).At) ((ix a2 s31.1).B) _ k57) (.tup [vi .i64 t56.1, vi .i64 t56.2.1]) [(13, .box 71 (.agg [.ptr 14 0, .ptr 19 0])), (14, .box 83 (.agg [.sl 15 1 [], .sl 16 1 [], .sl 17 1 [], .sl 18 1 [], .v (.sl (.int .i64)) (t56.2.2.D.Plan : List Int), vi .i64 t56.2.2.D.Since, vi .i64 t56.2.2.D.Left, vi .i64 t56.2.2.D.Steps])), (15, .row (.int .u64) 119 (t56.2.2.D.Lasts : List Int)), (16, .row (.int .u64) 119 (t56.2.2.D.Stored : List Int)), (17, .row (.int .u64) 119 (t56.2.2.D.Sent : List Int)), (18, .row (.bool) 4 (t56.2.2.D.Flushed : List Bool)), (19, .box 86 (.v (.st .S_rickyardref18_Alloc) (t56.2.2.A : S_rickyardref18_Alloc)))] 41 (by kernel_rfl) (by kernel_rfl) ?_
      exact ems h (by kernel_rfl)
     refine bk h fun x58 j59 h => ?_
     refine t_cutS cok (fun (x60 : Int × Int × S_shadow_Store × S_rickyardref19_Store) => ⟨[(2, .v (.sl (.st .S_rickyardlaw19_Act)) (a2 : List S_rickyardlaw19_Act)), (9, .ptr 0 0), (10, .ptr 1 0), (11, .ptr 4 0), (12, .ptr 13 0), (13, vi .i64 s31.1), (15, vi .i64 0), (16, vi .i64 0), (17, vi .i64 x60.1), (18, vi .i64 x60.2.1)], [.box 114 (.agg [.ptr 1 0, .ptr 4 0]), .box 105 (.agg [.sl 2 4 [], .agg [.sl 3 1 [], vi .i64 x60.2.2.1.device.plan.at_], vb x60.2.2.1.device.off, vb x60.2.2.1.device.armed, vi .i64 x60.2.2.1.device.left, vi .i64 x60.2.2.1.device.steps]), .row (.st .S_pmem_cell) 125 (x60.2.2.1.device.cells : List S_pmem_cell), .row (.int .i64) 3 (x60.2.2.1.device.plan.list : List Int), .box 108 (.agg [vi .i64 x60.2.2.1.blocks.reserve, .agg [.ptr 5 0, .ptr 7 0, .ptr 9 0, .ptr 11 0]]), .box 112 (.agg [vi .i64 x60.2.2.1.blocks.sets.1.size, .sl 6 1 []]), .row (.int .u64) 119 (x60.2.2.1.blocks.sets.1.words : List Int), .box 112 (.agg [vi .i64 x60.2.2.1.blocks.sets.2.1.size, .sl 8 1 []]), .row (.int .u64) 119 (x60.2.2.1.blocks.sets.2.1.words : List Int), .box 112 (.agg [vi .i64 x60.2.2.1.blocks.sets.2.2.1.size, .sl 10 1 []]), .row (.int .u64) 119 (x60.2.2.1.blocks.sets.2.2.1.words : List Int), .box 112 (.agg [vi .i64 x60.2.2.1.blocks.sets.2.2.2.size, .sl 12 1 []]), .row (.int .u64) 119 (x60.2.2.1.blocks.sets.2.2.2.words : List Int), .box 71 (.agg [.ptr 14 0, .ptr 19 0]), .box 83 (.agg [.sl 15 1 [], .sl 16 1 [], .sl 17 1 [], .sl 18 1 [], .v (.sl (.int .i64)) (x60.2.2.2.D.Plan : List Int), vi .i64 x60.2.2.2.D.Since, vi .i64 x60.2.2.2.D.Left, vi .i64 x60.2.2.2.D.Steps]), .row (.int .u64) 119 (x60.2.2.2.D.Lasts : List Int), .row (.int .u64) 119 (x60.2.2.2.D.Stored : List Int), .row (.int .u64) 119 (x60.2.2.2.D.Sent : List Int), .row (.bool) 4 (x60.2.2.2.D.Flushed : List Bool), .box 86 (.v (.st .S_rickyardref18_Alloc) (x60.2.2.2.A : S_rickyardref18_Alloc))]⟩) x58 ?_ (fun x60 hy => ?_)
     ·skip
      have h61 := h
      have h := j59
      refine t_cond cok ?_
      refine bi h (fun c62 h => ?_) (fun c62 h => ?_)
      ·skip
       refine bk h fun t63 k64 h => ?_
       refine cl3 cok.g (shadow_Store_Drop.sc fu s31.2.1 ((ix a2 s31.1).At) _ k64) (vi .i64 t63.1) [(0, .box 114 (.agg [.ptr 1 0, .ptr 4 0])), (1, .box 105 (.agg [.sl 2 4 [], .agg [.sl 3 1 [], vi .i64 t63.2.device.plan.at_], vb t63.2.device.off, vb t63.2.device.armed, vi .i64 t63.2.device.left, vi .i64 t63.2.device.steps])), (2, .row (.st .S_pmem_cell) 125 (t63.2.device.cells : List S_pmem_cell)), (3, .row (.int .i64) 3 (t63.2.device.plan.list : List Int)), (4, .box 108 (.agg [vi .i64 t63.2.blocks.reserve, .agg [.ptr 5 0, .ptr 7 0, .ptr 9 0, .ptr 11 0]])), (5, .box 112 (.agg [vi .i64 t63.2.blocks.sets.1.size, .sl 6 1 []])), (6, .row (.int .u64) 119 (t63.2.blocks.sets.1.words : List Int)), (7, .box 112 (.agg [vi .i64 t63.2.blocks.sets.2.1.size, .sl 8 1 []])), (8, .row (.int .u64) 119 (t63.2.blocks.sets.2.1.words : List Int)), (9, .box 112 (.agg [vi .i64 t63.2.blocks.sets.2.2.1.size, .sl 10 1 []])), (10, .row (.int .u64) 119 (t63.2.blocks.sets.2.2.1.words : List Int)), (11, .box 112 (.agg [vi .i64 t63.2.blocks.sets.2.2.2.size, .sl 12 1 []])), (12, .row (.int .u64) 119 (t63.2.blocks.sets.2.2.2.words : List Int))] 34 (by kernel_rfl) (by kernel_rfl) ?_
       refine t_draw cok mo [⟨0, false, [12], [], 0, []⟩, ⟨1, false, [120], [], 0, [0]⟩, ⟨2, false, [121], [], 0, [0, 1]⟩, ⟨3, false, [122], [13], 0, [0, 1, 2]⟩, ⟨4, false, [14], [], 0, []⟩, ⟨5, false, [124], [20], 0, [4]⟩, ⟨6, true, [123, 125], [19], 1, [0, 1, 2, 3, 4, 5]⟩, ⟨7, false, [126], [], 0, [0, 1, 2, 3, 4, 5, 6]⟩] (by kernel_rfl) ?_
       refine bk h fun t65 k66 h => ?_
       refine cl3 cok.g (rickyardref18_Alloc_Give.sc fu s31.2.2.A ((ix a2 s31.1).At) _ k66) (vi .i64 t65.1) [(19, .box 86 (.v (.st .S_rickyardref18_Alloc) (t65.2 : S_rickyardref18_Alloc)))] 35 (by kernel_rfl) (by kernel_rfl) ?_
       exact ems h (by kernel_rfl)
      refine bk h fun x67 j68 h => ?_
      refine t_cutS cok (fun (x69 : Int × Int × S_shadow_Store × S_rickyardref19_Store) => ⟨[(2, .v (.sl (.st .S_rickyardlaw19_Act)) (a2 : List S_rickyardlaw19_Act)), (9, .ptr 0 0), (10, .ptr 1 0), (11, .ptr 4 0), (12, .ptr 13 0), (13, vi .i64 s31.1), (15, vi .i64 0), (16, vi .i64 0), (17, vi .i64 x69.1), (18, vi .i64 x69.2.1)], [.box 114 (.agg [.ptr 1 0, .ptr 4 0]), .box 105 (.agg [.sl 2 4 [], .agg [.sl 3 1 [], vi .i64 x69.2.2.1.device.plan.at_], vb x69.2.2.1.device.off, vb x69.2.2.1.device.armed, vi .i64 x69.2.2.1.device.left, vi .i64 x69.2.2.1.device.steps]), .row (.st .S_pmem_cell) 125 (x69.2.2.1.device.cells : List S_pmem_cell), .row (.int .i64) 3 (x69.2.2.1.device.plan.list : List Int), .box 108 (.agg [vi .i64 x69.2.2.1.blocks.reserve, .agg [.ptr 5 0, .ptr 7 0, .ptr 9 0, .ptr 11 0]]), .box 112 (.agg [vi .i64 x69.2.2.1.blocks.sets.1.size, .sl 6 1 []]), .row (.int .u64) 119 (x69.2.2.1.blocks.sets.1.words : List Int), .box 112 (.agg [vi .i64 x69.2.2.1.blocks.sets.2.1.size, .sl 8 1 []]), .row (.int .u64) 119 (x69.2.2.1.blocks.sets.2.1.words : List Int), .box 112 (.agg [vi .i64 x69.2.2.1.blocks.sets.2.2.1.size, .sl 10 1 []]), .row (.int .u64) 119 (x69.2.2.1.blocks.sets.2.2.1.words : List Int), .box 112 (.agg [vi .i64 x69.2.2.1.blocks.sets.2.2.2.size, .sl 12 1 []]), .row (.int .u64) 119 (x69.2.2.1.blocks.sets.2.2.2.words : List Int), .box 71 (.agg [.ptr 14 0, .ptr 19 0]), .box 83 (.agg [.sl 15 1 [], .sl 16 1 [], .sl 17 1 [], .sl 18 1 [], .v (.sl (.int .i64)) (x69.2.2.2.D.Plan : List Int), vi .i64 x69.2.2.2.D.Since, vi .i64 x69.2.2.2.D.Left, vi .i64 x69.2.2.2.D.Steps]), .row (.int .u64) 119 (x69.2.2.2.D.Lasts : List Int), .row (.int .u64) 119 (x69.2.2.2.D.Stored : List Int), .row (.int .u64) 119 (x69.2.2.2.D.Sent : List Int), .row (.bool) 4 (x69.2.2.2.D.Flushed : List Bool), .box 86 (.v (.st .S_rickyardref18_Alloc) (x69.2.2.2.A : S_rickyardref18_Alloc))]⟩) x67 ?_ (fun x69 hy => ?_)
      ·skip
       have h70 := h
       have h := j68
       refine t_cond cok ?_
       refine bi h (fun c71 h => ?_) (fun c71 h => ?_)
       ·skip
        refine bk h fun t72 k73 h => ?_
        refine cl3 cok.g (shadow_Store_Get.sc fu s31.2.1 ((ix a2 s31.1).At) _ k73) (.tup [.sl 34 1 [], vi .i64 t72.2]) [(0, .box 114 (.agg [.ptr 1 0, .ptr 4 0])), (1, .box 105 (.agg [.sl 2 4 [], .agg [.sl 3 1 [], vi .i64 s31.2.1.device.plan.at_], vb s31.2.1.device.off, vb s31.2.1.device.armed, vi .i64 s31.2.1.device.left, vi .i64 s31.2.1.device.steps])), (2, .row (.st .S_pmem_cell) 125 (s31.2.1.device.cells : List S_pmem_cell)), (3, .row (.int .i64) 3 (s31.2.1.device.plan.list : List Int)), (4, .box 108 (.agg [vi .i64 s31.2.1.blocks.reserve, .agg [.ptr 5 0, .ptr 7 0, .ptr 9 0, .ptr 11 0]])), (5, .box 112 (.agg [vi .i64 s31.2.1.blocks.sets.1.size, .sl 6 1 []])), (6, .row (.int .u64) 119 (s31.2.1.blocks.sets.1.words : List Int)), (7, .box 112 (.agg [vi .i64 s31.2.1.blocks.sets.2.1.size, .sl 8 1 []])), (8, .row (.int .u64) 119 (s31.2.1.blocks.sets.2.1.words : List Int)), (9, .box 112 (.agg [vi .i64 s31.2.1.blocks.sets.2.2.1.size, .sl 10 1 []])), (10, .row (.int .u64) 119 (s31.2.1.blocks.sets.2.2.1.words : List Int)), (11, .box 112 (.agg [vi .i64 s31.2.1.blocks.sets.2.2.2.size, .sl 12 1 []])), (12, .row (.int .u64) 119 (s31.2.1.blocks.sets.2.2.2.words : List Int)), (34, .row (.int .u8) 5 (t72.1 : List Int))] 35 (by kernel_rfl) (by kernel_rfl) ?_
        refine t_draw cok mo [⟨0, false, [12], [], 0, []⟩, ⟨1, false, [137], [], 0, [0]⟩, ⟨2, false, [138], [], 0, [0, 1]⟩, ⟨3, false, [139], [13], 0, [0, 1, 2]⟩, ⟨4, false, [14], [], 0, []⟩, ⟨5, false, [141], [20], 0, [4]⟩, ⟨6, true, [140, 142], [14, 15, 16, 17, 18], 5, [0, 1, 2, 3, 4, 5]⟩, ⟨7, false, [143], [], 0, [0, 1, 2, 3, 4, 5, 6]⟩, ⟨8, false, [136], [], 0, [0, 1, 2, 3, 4, 5, 6, 7]⟩, ⟨9, false, [136], [], 0, [0, 1, 2, 3, 4, 5, 6, 7]⟩, ⟨10, false, [144], [], 0, [0, 1, 2, 3, 4, 5, 6, 7, 8]⟩, ⟨11, false, [145], [], 0, [0, 1, 2, 3, 4, 5, 6, 7, 8, 9, 10]⟩] (by kernel_rfl) ?_
        refine bk h fun t74 k75 h => ?_
        refine cl3 cok.g (rickyardref15_Read.sc fu s31.2.2.D ((ix a2 s31.1).At) _ k75) (.tup [vs t74.1, vi .i64 t74.2]) [(14, .box 83 (.agg [.sl 15 1 [], .sl 16 1 [], .sl 17 1 [], .sl 18 1 [], .v (.sl (.int .i64)) (s31.2.2.D.Plan : List Int), vi .i64 s31.2.2.D.Since, vi .i64 s31.2.2.D.Left, vi .i64 s31.2.2.D.Steps])), (15, .row (.int .u64) 119 (s31.2.2.D.Lasts : List Int)), (16, .row (.int .u64) 119 (s31.2.2.D.Stored : List Int)), (17, .row (.int .u64) 119 (s31.2.2.D.Sent : List Int)), (18, .row (.bool) 4 (s31.2.2.D.Flushed : List Bool))] 40 (by kernel_rfl) (by kernel_rfl) ?_
        refine t_cond cok ?_
        refine bi h (fun c76 h => ?_) (fun c76 h => ?_)
        ·skip
         have hz := Option.some.inj h
         have h := h70
         rw [← hz] at h
         have hz := Option.some.inj h
         have h := h61
         rw [← hz] at h
         have hz := Option.some.inj h
         have h := h52
         rw [← hz] at h
         have hz := Option.some.inj h
         have h := h43
         rw [← hz] at h
         refine lpr h (fun hy => ?_)
         have h := h35
         rw [← hy] at h
         exact fi h (by kernel_rfl)
        exact ems h (by kernel_rfl)
       refine bk h fun x77 j78 h => ?_
       refine t_cut cok (fun (x77 : Int × Int × S_shadow_Store × S_rickyardref19_Store) => ⟨[(2, .v (.sl (.st .S_rickyardlaw19_Act)) (a2 : List S_rickyardlaw19_Act)), (9, .ptr 0 0), (10, .ptr 1 0), (11, .ptr 4 0), (12, .ptr 13 0), (13, vi .i64 s31.1), (15, vi .i64 0), (16, vi .i64 0), (17, vi .i64 x77.1), (18, vi .i64 x77.2.1)], [.box 114 (.agg [.ptr 1 0, .ptr 4 0]), .box 105 (.agg [.sl 2 4 [], .agg [.sl 3 1 [], vi .i64 x77.2.2.1.device.plan.at_], vb x77.2.2.1.device.off, vb x77.2.2.1.device.armed, vi .i64 x77.2.2.1.device.left, vi .i64 x77.2.2.1.device.steps]), .row (.st .S_pmem_cell) 125 (x77.2.2.1.device.cells : List S_pmem_cell), .row (.int .i64) 3 (x77.2.2.1.device.plan.list : List Int), .box 108 (.agg [vi .i64 x77.2.2.1.blocks.reserve, .agg [.ptr 5 0, .ptr 7 0, .ptr 9 0, .ptr 11 0]]), .box 112 (.agg [vi .i64 x77.2.2.1.blocks.sets.1.size, .sl 6 1 []]), .row (.int .u64) 119 (x77.2.2.1.blocks.sets.1.words : List Int), .box 112 (.agg [vi .i64 x77.2.2.1.blocks.sets.2.1.size, .sl 8 1 []]), .row (.int .u64) 119 (x77.2.2.1.blocks.sets.2.1.words : List Int), .box 112 (.agg [vi .i64 x77.2.2.1.blocks.sets.2.2.1.size, .sl 10 1 []]), .row (.int .u64) 119 (x77.2.2.1.blocks.sets.2.2.1.words : List Int), .box 112 (.agg [vi .i64 x77.2.2.1.blocks.sets.2.2.2.size, .sl 12 1 []]), .row (.int .u64) 119 (x77.2.2.1.blocks.sets.2.2.2.words : List Int), .box 71 (.agg [.ptr 14 0, .ptr 19 0]), .box 83 (.agg [.sl 15 1 [], .sl 16 1 [], .sl 17 1 [], .sl 18 1 [], .v (.sl (.int .i64)) (x77.2.2.2.D.Plan : List Int), vi .i64 x77.2.2.2.D.Since, vi .i64 x77.2.2.2.D.Left, vi .i64 x77.2.2.2.D.Steps]), .row (.int .u64) 119 (x77.2.2.2.D.Lasts : List Int), .row (.int .u64) 119 (x77.2.2.2.D.Stored : List Int), .row (.int .u64) 119 (x77.2.2.2.D.Sent : List Int), .row (.bool) 4 (x77.2.2.2.D.Flushed : List Bool), .box 86 (.v (.st .S_rickyardref18_Alloc) (x77.2.2.2.A : S_rickyardref18_Alloc))]⟩) x77 ?_ ?_
       ·skip
        have h79 := h
        have h := j78
        refine t_cond cok ?_
        refine bi h (fun c80 h => ?_) (fun c80 h => ?_)
        ·skip
         refine bk h fun t81 k82 h => ?_
         refine cl3 cok.g (shadow_Store_Sure.sc fu s31.2.1 _ k82) (vi .i64 t81.1) [(0, .box 114 (.agg [.ptr 1 0, .ptr 4 0])), (1, .box 105 (.agg [.sl 2 4 [], .agg [.sl 3 1 [], vi .i64 t81.2.device.plan.at_], vb t81.2.device.off, vb t81.2.device.armed, vi .i64 t81.2.device.left, vi .i64 t81.2.device.steps])), (2, .row (.st .S_pmem_cell) 125 (t81.2.device.cells : List S_pmem_cell)), (3, .row (.int .i64) 3 (t81.2.device.plan.list : List Int)), (4, .box 108 (.agg [vi .i64 t81.2.blocks.reserve, .agg [.ptr 5 0, .ptr 7 0, .ptr 9 0, .ptr 11 0]])), (5, .box 112 (.agg [vi .i64 t81.2.blocks.sets.1.size, .sl 6 1 []])), (6, .row (.int .u64) 119 (t81.2.blocks.sets.1.words : List Int)), (7, .box 112 (.agg [vi .i64 t81.2.blocks.sets.2.1.size, .sl 8 1 []])), (8, .row (.int .u64) 119 (t81.2.blocks.sets.2.1.words : List Int)), (9, .box 112 (.agg [vi .i64 t81.2.blocks.sets.2.2.1.size, .sl 10 1 []])), (10, .row (.int .u64) 119 (t81.2.blocks.sets.2.2.1.words : List Int)), (11, .box 112 (.agg [vi .i64 t81.2.blocks.sets.2.2.2.size, .sl 12 1 []])), (12, .row (.int .u64) 119 (t81.2.blocks.sets.2.2.2.words : List Int))] 34 (by kernel_rfl) (by kernel_rfl) ?_
         refine bk h fun t83 k84 h => ?_
         refine cl3 cok.g (rickyardref05_Device_Fence.sc fu s31.2.2.D _ k84) (vi .i64 t83.1) [(14, .box 83 (.agg [.sl 15 1 [], .sl 16 1 [], .sl 17 1 [], .sl 18 1 [], .v (.sl (.int .i64)) (t83.2.Plan : List Int), vi .i64 t83.2.Since, vi .i64 t83.2.Left, vi .i64 t83.2.Steps])), (15, .row (.int .u64) 119 (t83.2.Lasts : List Int)), (16, .row (.int .u64) 119 (t83.2.Stored : List Int)), (17, .row (.int .u64) 119 (t83.2.Sent : List Int)), (18, .row (.bool) 4 (t83.2.Flushed : List Bool))] 39 (by kernel_rfl) (by kernel_rfl) ?_
         exact em h (by kernel_rfl)
        refine bk h fun x85 j86 h => ?_
        refine t_cut cok (fun (x85 : S_shadow_Store × S_rickyardref19_Store) => ⟨[(2, .v (.sl (.st .S_rickyardlaw19_Act)) (a2 : List S_rickyardlaw19_Act)), (9, .ptr 0 0), (10, .ptr 1 0), (11, .ptr 4 0), (12, .ptr 13 0), (13, vi .i64 s31.1), (15, vi .i64 0), (16, vi .i64 0), (17, vi .i64 0), (18, vi .i64 0)], [.box 114 (.agg [.ptr 1 0, .ptr 4 0]), .box 105 (.agg [.sl 2 4 [], .agg [.sl 3 1 [], vi .i64 x85.1.device.plan.at_], vb x85.1.device.off, vb x85.1.device.armed, vi .i64 x85.1.device.left, vi .i64 x85.1.device.steps]), .row (.st .S_pmem_cell) 125 (x85.1.device.cells : List S_pmem_cell), .row (.int .i64) 3 (x85.1.device.plan.list : List Int), .box 108 (.agg [vi .i64 x85.1.blocks.reserve, .agg [.ptr 5 0, .ptr 7 0, .ptr 9 0, .ptr 11 0]]), .box 112 (.agg [vi .i64 x85.1.blocks.sets.1.size, .sl 6 1 []]), .row (.int .u64) 119 (x85.1.blocks.sets.1.words : List Int), .box 112 (.agg [vi .i64 x85.1.blocks.sets.2.1.size, .sl 8 1 []]), .row (.int .u64) 119 (x85.1.blocks.sets.2.1.words : List Int), .box 112 (.agg [vi .i64 x85.1.blocks.sets.2.2.1.size, .sl 10 1 []]), .row (.int .u64) 119 (x85.1.blocks.sets.2.2.1.words : List Int), .box 112 (.agg [vi .i64 x85.1.blocks.sets.2.2.2.size, .sl 12 1 []]), .row (.int .u64) 119 (x85.1.blocks.sets.2.2.2.words : List Int), .box 71 (.agg [.ptr 14 0, .ptr 19 0]), .box 83 (.agg [.sl 15 1 [], .sl 16 1 [], .sl 17 1 [], .sl 18 1 [], .v (.sl (.int .i64)) (x85.2.D.Plan : List Int), vi .i64 x85.2.D.Since, vi .i64 x85.2.D.Left, vi .i64 x85.2.D.Steps]), .row (.int .u64) 119 (x85.2.D.Lasts : List Int), .row (.int .u64) 119 (x85.2.D.Stored : List Int), .row (.int .u64) 119 (x85.2.D.Sent : List Int), .row (.bool) 4 (x85.2.D.Flushed : List Bool), .box 86 (.v (.st .S_rickyardref18_Alloc) (x85.2.A : S_rickyardref18_Alloc))]⟩) x85 ?_ ?_
        ·skip
         have h87 := h
         have h := j86
         refine t_cond cok ?_
         refine bi h (fun c88 h => ?_) (fun c88 h => ?_)
         ·skip
          refine bk h fun t89 k90 h => ?_
          refine cl3 cok.g (alloc_Alloc_Mark.sc fu s31.2.1.blocks _ k90) (.tup []) [(4, .box 108 (.agg [vi .i64 t89.reserve, .agg [.ptr 5 0, .ptr 7 0, .ptr 30 0, .ptr 11 0]])), (5, .box 112 (.agg [vi .i64 t89.sets.1.size, .sl 6 1 []])), (6, .row (.int .u64) 119 (t89.sets.1.words : List Int)), (7, .box 112 (.agg [vi .i64 t89.sets.2.1.size, .sl 8 1 []])), (8, .row (.int .u64) 119 (t89.sets.2.1.words : List Int)), (9, .gone), (10, .gone), (11, .box 112 (.agg [vi .i64 t89.sets.2.2.2.size, .sl 12 1 []])), (12, .row (.int .u64) 119 (t89.sets.2.2.2.words : List Int)), (30, .box 112 (.agg [vi .i64 t89.sets.2.2.1.size, .sl 31 1 []])), (31, .row (.int .u64) 119 (t89.sets.2.2.1.words : List Int))] 32 (by kernel_rfl) (by kernel_rfl) ?_
          refine bk h fun t91 k92 h => ?_
          refine cl3 cok.g (rickyardref18_Alloc_Do.sc fu s31.2.2.A 0 _ k92) (.tup []) [(19, .box 86 (.v (.st .S_rickyardref18_Alloc) (t91 : S_rickyardref18_Alloc)))] 33 (by kernel_rfl) (by kernel_rfl) ?_
          exact em h (by kernel_rfl)
         refine bk h fun x93 j94 h => ?_
         refine t_cut cok (fun (x93 : S_shadow_Store × S_rickyardref19_Store) => ⟨[(2, .v (.sl (.st .S_rickyardlaw19_Act)) (a2 : List S_rickyardlaw19_Act)), (9, .ptr 0 0), (10, .ptr 1 0), (11, .ptr 4 0), (12, .ptr 13 0), (13, vi .i64 s31.1), (15, vi .i64 0), (16, vi .i64 0), (17, vi .i64 0), (18, vi .i64 0)], [.box 114 (.agg [.ptr 1 0, .ptr 4 0]), .box 105 (.agg [.sl 2 4 [], .agg [.sl 3 1 [], vi .i64 x93.1.device.plan.at_], vb x93.1.device.off, vb x93.1.device.armed, vi .i64 x93.1.device.left, vi .i64 x93.1.device.steps]), .row (.st .S_pmem_cell) 125 (x93.1.device.cells : List S_pmem_cell), .row (.int .i64) 3 (x93.1.device.plan.list : List Int), .box 108 (.agg [vi .i64 x93.1.blocks.reserve, .agg [.ptr 5 0, .ptr 7 0, .ptr 9 0, .ptr 11 0]]), .box 112 (.agg [vi .i64 x93.1.blocks.sets.1.size, .sl 6 1 []]), .row (.int .u64) 119 (x93.1.blocks.sets.1.words : List Int), .box 112 (.agg [vi .i64 x93.1.blocks.sets.2.1.size, .sl 8 1 []]), .row (.int .u64) 119 (x93.1.blocks.sets.2.1.words : List Int), .box 112 (.agg [vi .i64 x93.1.blocks.sets.2.2.1.size, .sl 10 1 []]), .row (.int .u64) 119 (x93.1.blocks.sets.2.2.1.words : List Int), .box 112 (.agg [vi .i64 x93.1.blocks.sets.2.2.2.size, .sl 12 1 []]), .row (.int .u64) 119 (x93.1.blocks.sets.2.2.2.words : List Int), .box 71 (.agg [.ptr 14 0, .ptr 19 0]), .box 83 (.agg [.sl 15 1 [], .sl 16 1 [], .sl 17 1 [], .sl 18 1 [], .v (.sl (.int .i64)) (x93.2.D.Plan : List Int), vi .i64 x93.2.D.Since, vi .i64 x93.2.D.Left, vi .i64 x93.2.D.Steps]), .row (.int .u64) 119 (x93.2.D.Lasts : List Int), .row (.int .u64) 119 (x93.2.D.Stored : List Int), .row (.int .u64) 119 (x93.2.D.Sent : List Int), .row (.bool) 4 (x93.2.D.Flushed : List Bool), .box 86 (.v (.st .S_rickyardref18_Alloc) (x93.2.A : S_rickyardref18_Alloc))]⟩) x93 ?_ ?_
         ·skip
          have h95 := h
          have h := j94
          refine t_cond cok ?_
          refine bi h (fun c96 h => ?_) (fun c96 h => ?_)
          ·skip
           refine bk h fun t97 k98 h => ?_
           refine cl3 cok.g (alloc_Alloc_Back.sc fu s31.2.1.blocks _ k98) (.tup []) [(4, .box 108 (.agg [vi .i64 t97.reserve, .agg [.ptr 5 0, .ptr 7 0, .ptr 9 0, .ptr 30 0]])), (5, .box 112 (.agg [vi .i64 t97.sets.1.size, .sl 6 1 []])), (6, .row (.int .u64) 119 (t97.sets.1.words : List Int)), (7, .box 112 (.agg [vi .i64 t97.sets.2.1.size, .sl 8 1 []])), (8, .row (.int .u64) 119 (t97.sets.2.1.words : List Int)), (9, .box 112 (.agg [vi .i64 t97.sets.2.2.1.size, .sl 10 1 []])), (10, .row (.int .u64) 119 (t97.sets.2.2.1.words : List Int)), (11, .gone), (12, .gone), (30, .box 112 (.agg [vi .i64 t97.sets.2.2.2.size, .sl 31 1 []])), (31, .row (.int .u64) 119 (t97.sets.2.2.2.words : List Int))] 32 (by kernel_rfl) (by kernel_rfl) ?_
           refine bk h fun t99 k100 h => ?_
           refine cl3 cok.g (rickyardref18_Alloc_Do.sc fu s31.2.2.A 1 _ k100) (.tup []) [(19, .box 86 (.v (.st .S_rickyardref18_Alloc) (t99 : S_rickyardref18_Alloc)))] 33 (by kernel_rfl) (by kernel_rfl) ?_
           exact em h (by kernel_rfl)
          refine bk h fun x101 j102 h => ?_
          refine t_cut cok (fun (x101 : S_shadow_Store × S_rickyardref19_Store) => ⟨[(2, .v (.sl (.st .S_rickyardlaw19_Act)) (a2 : List S_rickyardlaw19_Act)), (9, .ptr 0 0), (10, .ptr 1 0), (11, .ptr 4 0), (12, .ptr 13 0), (13, vi .i64 s31.1), (15, vi .i64 0), (16, vi .i64 0), (17, vi .i64 0), (18, vi .i64 0)], [.box 114 (.agg [.ptr 1 0, .ptr 4 0]), .box 105 (.agg [.sl 2 4 [], .agg [.sl 3 1 [], vi .i64 x101.1.device.plan.at_], vb x101.1.device.off, vb x101.1.device.armed, vi .i64 x101.1.device.left, vi .i64 x101.1.device.steps]), .row (.st .S_pmem_cell) 125 (x101.1.device.cells : List S_pmem_cell), .row (.int .i64) 3 (x101.1.device.plan.list : List Int), .box 108 (.agg [vi .i64 x101.1.blocks.reserve, .agg [.ptr 5 0, .ptr 7 0, .ptr 9 0, .ptr 11 0]]), .box 112 (.agg [vi .i64 x101.1.blocks.sets.1.size, .sl 6 1 []]), .row (.int .u64) 119 (x101.1.blocks.sets.1.words : List Int), .box 112 (.agg [vi .i64 x101.1.blocks.sets.2.1.size, .sl 8 1 []]), .row (.int .u64) 119 (x101.1.blocks.sets.2.1.words : List Int), .box 112 (.agg [vi .i64 x101.1.blocks.sets.2.2.1.size, .sl 10 1 []]), .row (.int .u64) 119 (x101.1.blocks.sets.2.2.1.words : List Int), .box 112 (.agg [vi .i64 x101.1.blocks.sets.2.2.2.size, .sl 12 1 []]), .row (.int .u64) 119 (x101.1.blocks.sets.2.2.2.words : List Int), .box 71 (.agg [.ptr 14 0, .ptr 19 0]), .box 83 (.agg [.sl 15 1 [], .sl 16 1 [], .sl 17 1 [], .sl 18 1 [], .v (.sl (.int .i64)) (x101.2.D.Plan : List Int), vi .i64 x101.2.D.Since, vi .i64 x101.2.D.Left, vi .i64 x101.2.D.Steps]), .row (.int .u64) 119 (x101.2.D.Lasts : List Int), .row (.int .u64) 119 (x101.2.D.Stored : List Int), .row (.int .u64) 119 (x101.2.D.Sent : List Int), .row (.bool) 4 (x101.2.D.Flushed : List Bool), .box 86 (.v (.st .S_rickyardref18_Alloc) (x101.2.A : S_rickyardref18_Alloc))]⟩) x101 ?_ ?_
          ·skip
           have h103 := h
           have h := j102
           refine t_cond cok ?_
           refine bi h (fun c104 h => ?_) (fun c104 h => ?_)
           ·skip
            refine bk h fun t105 k106 h => ?_
            refine cl3 cok.g (alloc_Alloc_Commit.sc fu s31.2.1.blocks _ k106) (.tup []) [(4, .box 108 (.agg [vi .i64 t105.reserve, .agg [.ptr 30 0, .ptr 32 0, .ptr 34 0, .ptr 11 0]])), (5, .gone), (6, .gone), (7, .gone), (8, .gone), (9, .gone), (10, .gone), (11, .box 112 (.agg [vi .i64 t105.sets.2.2.2.size, .sl 12 1 []])), (12, .row (.int .u64) 119 (t105.sets.2.2.2.words : List Int)), (30, .box 112 (.agg [vi .i64 t105.sets.1.size, .sl 31 1 []])), (31, .row (.int .u64) 119 (t105.sets.1.words : List Int)), (32, .box 112 (.agg [vi .i64 t105.sets.2.1.size, .sl 33 1 []])), (33, .row (.int .u64) 119 (t105.sets.2.1.words : List Int)), (34, .box 112 (.agg [vi .i64 t105.sets.2.2.1.size, .sl 35 1 []])), (35, .row (.int .u64) 119 (t105.sets.2.2.1.words : List Int))] 36 (by kernel_rfl) (by kernel_rfl) ?_
            refine bk h fun t107 k108 h => ?_
            refine cl3 cok.g (rickyardref18_Alloc_Do.sc fu s31.2.2.A 2 _ k108) (.tup []) [(19, .box 86 (.v (.st .S_rickyardref18_Alloc) (t107 : S_rickyardref18_Alloc)))] 37 (by kernel_rfl) (by kernel_rfl) ?_
            exact em h (by kernel_rfl)
           refine bk h fun x109 j110 h => ?_
           refine t_cut cok (fun (x109 : S_shadow_Store × S_rickyardref19_Store) => ⟨[(2, .v (.sl (.st .S_rickyardlaw19_Act)) (a2 : List S_rickyardlaw19_Act)), (9, .ptr 0 0), (10, .ptr 1 0), (11, .ptr 4 0), (12, .ptr 13 0), (13, vi .i64 s31.1), (15, vi .i64 0), (16, vi .i64 0), (17, vi .i64 0), (18, vi .i64 0)], [.box 114 (.agg [.ptr 1 0, .ptr 4 0]), .box 105 (.agg [.sl 2 4 [], .agg [.sl 3 1 [], vi .i64 x109.1.device.plan.at_], vb x109.1.device.off, vb x109.1.device.armed, vi .i64 x109.1.device.left, vi .i64 x109.1.device.steps]), .row (.st .S_pmem_cell) 125 (x109.1.device.cells : List S_pmem_cell), .row (.int .i64) 3 (x109.1.device.plan.list : List Int), .box 108 (.agg [vi .i64 x109.1.blocks.reserve, .agg [.ptr 5 0, .ptr 7 0, .ptr 9 0, .ptr 11 0]]), .box 112 (.agg [vi .i64 x109.1.blocks.sets.1.size, .sl 6 1 []]), .row (.int .u64) 119 (x109.1.blocks.sets.1.words : List Int), .box 112 (.agg [vi .i64 x109.1.blocks.sets.2.1.size, .sl 8 1 []]), .row (.int .u64) 119 (x109.1.blocks.sets.2.1.words : List Int), .box 112 (.agg [vi .i64 x109.1.blocks.sets.2.2.1.size, .sl 10 1 []]), .row (.int .u64) 119 (x109.1.blocks.sets.2.2.1.words : List Int), .box 112 (.agg [vi .i64 x109.1.blocks.sets.2.2.2.size, .sl 12 1 []]), .row (.int .u64) 119 (x109.1.blocks.sets.2.2.2.words : List Int), .box 71 (.agg [.ptr 14 0, .ptr 19 0]), .box 83 (.agg [.sl 15 1 [], .sl 16 1 [], .sl 17 1 [], .sl 18 1 [], .v (.sl (.int .i64)) (x109.2.D.Plan : List Int), vi .i64 x109.2.D.Since, vi .i64 x109.2.D.Left, vi .i64 x109.2.D.Steps]), .row (.int .u64) 119 (x109.2.D.Lasts : List Int), .row (.int .u64) 119 (x109.2.D.Stored : List Int), .row (.int .u64) 119 (x109.2.D.Sent : List Int), .row (.bool) 4 (x109.2.D.Flushed : List Bool), .box 86 (.v (.st .S_rickyardref18_Alloc) (x109.2.A : S_rickyardref18_Alloc))]⟩) x109 ?_ ?_
           ·skip
            have h111 := h
            have h := j110
            refine t_cond cok ?_
            refine bi h (fun c112 h => ?_) (fun c112 h => ?_)
            ·skip
             refine bk h fun t113 k114 h => ?_
             refine cl3 cok.g (alloc_Alloc_Abort.sc fu s31.2.1.blocks _ k114) (.tup []) [(4, .box 108 (.agg [vi .i64 t113.reserve, .agg [.ptr 5 0, .ptr 7 0, .ptr 30 0, .ptr 32 0]])), (5, .box 112 (.agg [vi .i64 t113.sets.1.size, .sl 6 1 []])), (6, .row (.int .u64) 119 (t113.sets.1.words : List Int)), (7, .box 112 (.agg [vi .i64 t113.sets.2.1.size, .sl 8 1 []])), (8, .row (.int .u64) 119 (t113.sets.2.1.words : List Int)), (9, .gone), (10, .gone), (11, .gone), (12, .gone), (30, .box 112 (.agg [vi .i64 t113.sets.2.2.1.size, .sl 31 1 []])), (31, .row (.int .u64) 119 (t113.sets.2.2.1.words : List Int)), (32, .box 112 (.agg [vi .i64 t113.sets.2.2.2.size, .sl 33 1 []])), (33, .row (.int .u64) 119 (t113.sets.2.2.2.words : List Int))] 34 (by kernel_rfl) (by kernel_rfl) ?_
             refine bk h fun t115 k116 h => ?_
             refine cl3 cok.g (rickyardref18_Alloc_Do.sc fu s31.2.2.A 3 _ k116) (.tup []) [(19, .box 86 (.v (.st .S_rickyardref18_Alloc) (t115 : S_rickyardref18_Alloc)))] 35 (by kernel_rfl) (by kernel_rfl) ?_
             exact em h (by kernel_rfl)
            refine bk h fun x117 j118 h => ?_
            refine t_cut cok (fun (x117 : S_shadow_Store × S_rickyardref19_Store) => ⟨[(2, .v (.sl (.st .S_rickyardlaw19_Act)) (a2 : List S_rickyardlaw19_Act)), (9, .ptr 0 0), (10, .ptr 1 0), (11, .ptr 4 0), (12, .ptr 13 0), (13, vi .i64 s31.1), (15, vi .i64 0), (16, vi .i64 0), (17, vi .i64 0), (18, vi .i64 0)], [.box 114 (.agg [.ptr 1 0, .ptr 4 0]), .box 105 (.agg [.sl 2 4 [], .agg [.sl 3 1 [], vi .i64 x117.1.device.plan.at_], vb x117.1.device.off, vb x117.1.device.armed, vi .i64 x117.1.device.left, vi .i64 x117.1.device.steps]), .row (.st .S_pmem_cell) 125 (x117.1.device.cells : List S_pmem_cell), .row (.int .i64) 3 (x117.1.device.plan.list : List Int), .box 108 (.agg [vi .i64 x117.1.blocks.reserve, .agg [.ptr 5 0, .ptr 7 0, .ptr 9 0, .ptr 11 0]]), .box 112 (.agg [vi .i64 x117.1.blocks.sets.1.size, .sl 6 1 []]), .row (.int .u64) 119 (x117.1.blocks.sets.1.words : List Int), .box 112 (.agg [vi .i64 x117.1.blocks.sets.2.1.size, .sl 8 1 []]), .row (.int .u64) 119 (x117.1.blocks.sets.2.1.words : List Int), .box 112 (.agg [vi .i64 x117.1.blocks.sets.2.2.1.size, .sl 10 1 []]), .row (.int .u64) 119 (x117.1.blocks.sets.2.2.1.words : List Int), .box 112 (.agg [vi .i64 x117.1.blocks.sets.2.2.2.size, .sl 12 1 []]), .row (.int .u64) 119 (x117.1.blocks.sets.2.2.2.words : List Int), .box 71 (.agg [.ptr 14 0, .ptr 19 0]), .box 83 (.agg [.sl 15 1 [], .sl 16 1 [], .sl 17 1 [], .sl 18 1 [], .v (.sl (.int .i64)) (x117.2.D.Plan : List Int), vi .i64 x117.2.D.Since, vi .i64 x117.2.D.Left, vi .i64 x117.2.D.Steps]), .row (.int .u64) 119 (x117.2.D.Lasts : List Int), .row (.int .u64) 119 (x117.2.D.Stored : List Int), .row (.int .u64) 119 (x117.2.D.Sent : List Int), .row (.bool) 4 (x117.2.D.Flushed : List Bool), .box 86 (.v (.st .S_rickyardref18_Alloc) (x117.2.A : S_rickyardref18_Alloc))]⟩) x117 ?_ ?_
            ·skip
             have h119 := h
             have h := j118
             refine t_cond cok ?_
             refine bi h (fun c120 h => ?_) (fun c120 h => ?_)
             ·skip
              refine bk h fun t121 k122 h => ?_
              refine cl3 cok.g (rickyardref01_Rest.sc fu ((ix a2 s31.1).At) 40 _ k122) (vi .i64 t121) [] 21 (by kernel_rfl) (by kernel_rfl) ?_
              refine bk h fun t123 k124 h => ?_
              refine cl3 cok.g (pmem_Device_Arm.sc fu s31.2.1.device t121 _ k124) (.tup []) [(1, .box 105 (.agg [.sl 2 4 [], .agg [.sl 3 1 [], vi .i64 t123.plan.at_], vb t123.off, vb t123.armed, vi .i64 t123.left, vi .i64 t123.steps])), (2, .row (.st .S_pmem_cell) 125 (t123.cells : List S_pmem_cell)), (3, .row (.int .i64) 3 (t123.plan.list : List Int))] 24 (by kernel_rfl) (by kernel_rfl) ?_
              refine t_draw cok mo [⟨0, false, [12], [], 0, []⟩, ⟨1, false, [204], [], 0, [0]⟩, ⟨2, false, [205], [], 0, [0, 1]⟩, ⟨3, false, [206], [13], 0, [0, 1, 2]⟩, ⟨4, false, [14], [], 0, []⟩, ⟨5, false, [208], [20], 0, [4]⟩, ⟨6, true, [209], [], 0, [4, 5]⟩, ⟨7, true, [207, 210], [14, 15, 16, 17, 18], 5, [0, 1, 2, 3, 4, 5, 6]⟩] (by kernel_rfl) ?_
              refine bk h fun t125 k126 h => ?_
              refine cl3 cok.g (rickyardref01_Rest.sc fu ((ix a2 s31.1).At) 40 _ k126) (vi .i64 t125) [] 24 (by kernel_rfl) (by kernel_rfl) ?_
              refine bk h fun t127 k128 h => ?_
              refine cl3 cok.g (rickyardref05_Device_Arm.sc fu s31.2.2.D t125 _ k128) (.tup []) [(14, .box 83 (.agg [.sl 15 1 [], .sl 16 1 [], .sl 17 1 [], .sl 18 1 [], .v (.sl (.int .i64)) (t127.Plan : List Int), vi .i64 t127.Since, vi .i64 t127.Left, vi .i64 t127.Steps])), (15, .row (.int .u64) 119 (t127.Lasts : List Int)), (16, .row (.int .u64) 119 (t127.Stored : List Int)), (17, .row (.int .u64) 119 (t127.Sent : List Int)), (18, .row (.bool) 4 (t127.Flushed : List Bool))] 29 (by kernel_rfl) (by kernel_rfl) ?_
              exact em h (by kernel_rfl)
             exact em h (by kernel_rfl)
            exact em h (by kernel_rfl)
           exact em h (by kernel_rfl)
          exact em h (by kernel_rfl)
         exact em h (by kernel_rfl)
        exact em h (by kernel_rfl)
       exact ems h (by kernel_rfl)
      subst hy
      exact ems h (by kernel_rfl)
     subst hy
     exact ems h (by kernel_rfl)
    subst hy
    exact ems h (by kernel_rfl)
   subst hy
   refine t_draw cok mo [⟨0, false, [15], [], 0, []⟩, ⟨1, false, [16], [], 0, []⟩, ⟨2, false, [212, 213], [], 0, [0, 1]⟩, ⟨3, false, [214], [], 0, [0, 1, 2]⟩, ⟨4, false, [18, 215], [], 0, [0, 1, 2, 3]⟩, ⟨5, false, [17, 215], [], 0, [0, 1, 2, 3]⟩, ⟨6, false, [215, 216, 217], [], 0, [0, 1, 2, 3, 4, 5]⟩, ⟨7, true, [215, 218], [], 0, [0, 1, 2, 3, 4, 5, 6]⟩, ⟨8, false, [219], [], 0, [0, 1, 2, 3, 4, 5, 6, 7]⟩, ⟨9, false, [10, 220], [], 0, [0, 1, 2, 3, 4, 5, 6, 7, 8]⟩, ⟨10, true, [220, 221], [1, 2, 3], 3, [0, 1, 2, 3, 4, 5, 6, 7, 8, 9]⟩, ⟨11, false, [12, 220], [], 0, [0, 1, 2, 3, 4, 5, 6, 7, 8]⟩, ⟨12, false, [220, 223], [], 0, [0, 1, 2, 3, 4, 5, 6, 7, 8, 11]⟩, ⟨13, false, [220, 224], [], 0, [0, 1, 2, 3, 4, 5, 6, 7, 8, 11, 12]⟩, ⟨14, false, [220, 225], [13], 0, [0, 1, 2, 3, 4, 5, 6, 7, 8, 11, 12, 13]⟩, ⟨15, false, [220, 226], [], 0, [0, 1, 2, 3, 4, 5, 6, 7, 8, 11, 12, 13, 14]⟩, ⟨16, false, [220, 227], [], 0, [0, 1, 2, 3, 4, 5, 6, 7, 8, 11, 12, 13, 14, 15]⟩, ⟨17, false, [220, 228], [14], 0, [0, 1, 2, 3, 4, 5, 6, 7, 8, 11, 12, 13, 14, 15, 16]⟩, ⟨18, false, [220, 222, 229], [], 0, [0, 1, 2, 3, 4, 5, 6, 7, 8, 9, 10, 11, 12, 13, 14, 15, 16, 17]⟩, ⟨19, true, [220, 230], [], 0, [0, 1, 2, 3, 4, 5, 6, 7, 8, 9, 10, 11, 12, 13, 14, 15, 16, 17, 18]⟩, ⟨20, false, [231], [], 0, [0, 1, 2, 3, 4, 5, 6, 7, 8, 9, 10, 11, 12, 13, 14, 15, 16, 17, 18, 19]⟩, ⟨21, false, [10, 232], [], 0, [0, 1, 2, 3, 4, 5, 6, 7, 8, 9, 10, 11, 12, 13, 14, 15, 16, 17, 18, 19, 20]⟩, ⟨22, true, [232, 233], [1, 2, 3], 4, [0, 1, 2, 3, 4, 5, 6, 7, 8, 9, 10, 11, 12, 13, 14, 15, 16, 17, 18, 19, 20, 21]⟩, ⟨23, false, [232, 234], [26], 0, [0, 1, 2, 3, 4, 5, 6, 7, 8, 9, 10, 11, 12, 13, 14, 15, 16, 17, 18, 19, 20, 21, 22]⟩, ⟨24, false, [12, 232], [], 0, [0, 1, 2, 3, 4, 5, 6, 7, 8, 9, 10, 11, 12, 13, 14, 15, 16, 17, 18, 19, 20]⟩, ⟨25, false, [232, 236], [], 0, [0, 1, 2, 3, 4, 5, 6, 7, 8, 9, 10, 11, 12, 13, 14, 15, 16, 17, 18, 19, 20, 24]⟩, ⟨26, false, [232, 237], [], 0, [0, 1, 2, 3, 4, 5, 6, 7, 8, 9, 10, 11, 12, 13, 14, 15, 16, 17, 18, 19, 20, 24, 25]⟩, ⟨27, false, [232, 238], [13], 0, [0, 1, 2, 3, 4, 5, 6, 7, 8, 9, 10, 11, 12, 13, 14, 15, 16, 17, 18, 19, 20, 24, 25, 26]⟩, ⟨28, false, [232, 239], [], 0, [0, 1, 2, 3, 4, 5, 6, 7, 8, 9, 10, 11, 12, 13, 14, 15, 16, 17, 18, 19, 20, 24, 25, 26, 27]⟩, ⟨29, false, [232, 240], [], 0, [0, 1, 2, 3, 4, 5, 6, 7, 8, 9, 10, 11, 12, 13, 14, 15, 16, 17, 18, 19, 20, 24, 25, 26, 27, 28]⟩, ⟨30, false, [232, 241], [14], 0, [0, 1, 2, 3, 4, 5, 6, 7, 8, 9, 10, 11, 12, 13, 14, 15, 16, 17, 18, 19, 20, 24, 25, 26, 27, 28, 29]⟩, ⟨31, true, [232, 242], [16], 0, [0, 1, 2, 3, 4, 5, 6, 7, 8, 9, 10, 11, 12, 13, 14, 15, 16, 17, 18, 19, 20, 21, 22, 24, 25, 26, 27, 28, 29, 30]⟩, ⟨32, false, [232, 235, 243], [], 0, [0, 1, 2, 3, 4, 5, 6, 7, 8, 9, 10, 11, 12, 13, 14, 15, 16, 17, 18, 19, 20, 21, 22, 23, 24, 25, 26, 27, 28, 29, 30, 31]⟩, ⟨33, true, [232, 244], [], 0, [0, 1, 2, 3, 4, 5, 6, 7, 8, 9, 10, 11, 12, 13, 14, 15, 16, 17, 18, 19, 20, 21, 22, 23, 24, 25, 26, 27, 28, 29, 30, 31, 32]⟩, ⟨34, false, [245], [], 0, [0, 1, 2, 3, 4, 5, 6, 7, 8, 9, 10, 11, 12, 13, 14, 15, 16, 17, 18, 19, 20, 21, 22, 23, 24, 25, 26, 27, 28, 29, 30, 31, 32, 33]⟩, ⟨35, false, [10, 246], [], 0, [0, 1, 2, 3, 4, 5, 6, 7, 8, 9, 10, 11, 12, 13, 14, 15, 16, 17, 18, 19, 20, 21, 22, 23, 24, 25, 26, 27, 28, 29, 30, 31, 32, 33, 34]⟩, ⟨36, true, [246, 247], [1, 2, 3], 4, [0, 1, 2, 3, 4, 5, 6, 7, 8, 9, 10, 11, 12, 13, 14, 15, 16, 17, 18, 19, 20, 21, 22, 23, 24, 25, 26, 27, 28, 29, 30, 31, 32, 33, 34, 35]⟩, ⟨37, false, [246, 248], [30], 0, [0, 1, 2, 3, 4, 5, 6, 7, 8, 9, 10, 11, 12, 13, 14, 15, 16, 17, 18, 19, 20, 21, 22, 23, 24, 25, 26, 27, 28, 29, 30, 31, 32, 33, 34, 35, 36]⟩, ⟨38, false, [12, 246], [], 0, [0, 1, 2, 3, 4, 5, 6, 7, 8, 9, 10, 11, 12, 13, 14, 15, 16, 17, 18, 19, 20, 21, 22, 23, 24, 25, 26, 27, 28, 29, 30, 31, 32, 33, 34]⟩, ⟨39, false, [246, 250], [], 0, [0, 1, 2, 3, 4, 5, 6, 7, 8, 9, 10, 11, 12, 13, 14, 15, 16, 17, 18, 19, 20, 21, 22, 23, 24, 25, 26, 27, 28, 29, 30, 31, 32, 33, 34, 38]⟩, ⟨40, false, [246, 251], [], 0, [0, 1, 2, 3, 4, 5, 6, 7, 8, 9, 10, 11, 12, 13, 14, 15, 16, 17, 18, 19, 20, 21, 22, 23, 24, 25, 26, 27, 28, 29, 30, 31, 32, 33, 34, 38, 39]⟩, ⟨41, false, [246, 252], [13], 0, [0, 1, 2, 3, 4, 5, 6, 7, 8, 9, 10, 11, 12, 13, 14, 15, 16, 17, 18, 19, 20, 21, 22, 23, 24, 25, 26, 27, 28, 29, 30, 31, 32, 33, 34, 38, 39, 40]⟩, ⟨42, false, [246, 253], [], 0, [0, 1, 2, 3, 4, 5, 6, 7, 8, 9, 10, 11, 12, 13, 14, 15, 16, 17, 18, 19, 20, 21, 22, 23, 24, 25, 26, 27, 28, 29, 30, 31, 32, 33, 34, 38, 39, 40, 41]⟩, ⟨43, false, [246, 254], [], 0, [0, 1, 2, 3, 4, 5, 6, 7, 8, 9, 10, 11, 12, 13, 14, 15, 16, 17, 18, 19, 20, 21, 22, 23, 24, 25, 26, 27, 28, 29, 30, 31, 32, 33, 34, 38, 39, 40, 41, 42]⟩, ⟨44, false, [246, 255], [14], 0, [0, 1, 2, 3, 4, 5, 6, 7, 8, 9, 10, 11, 12, 13, 14, 15, 16, 17, 18, 19, 20, 21, 22, 23, 24, 25, 26, 27, 28, 29, 30, 31, 32, 33, 34, 38, 39, 40, 41, 42, 43]⟩, ⟨45, true, [246, 256], [15], 0, [0, 1, 2, 3, 4, 5, 6, 7, 8, 9, 10, 11, 12, 13, 14, 15, 16, 17, 18, 19, 20, 21, 22, 23, 24, 25, 26, 27, 28, 29, 30, 31, 32, 33, 34, 35, 36, 38, 39, 40, 41, 42, 43, 44]⟩, ⟨46, false, [246, 249, 257], [], 0, [0, 1, 2, 3, 4, 5, 6, 7, 8, 9, 10, 11, 12, 13, 14, 15, 16, 17, 18, 19, 20, 21, 22, 23, 24, 25, 26, 27, 28, 29, 30, 31, 32, 33, 34, 35, 36, 37, 38, 39, 40, 41, 42, 43, 44, 45]⟩, ⟨47, true, [246, 258], [], 0, [0, 1, 2, 3, 4, 5, 6, 7, 8, 9, 10, 11, 12, 13, 14, 15, 16, 17, 18, 19, 20, 21, 22, 23, 24, 25, 26, 27, 28, 29, 30, 31, 32, 33, 34, 35, 36, 37, 38, 39, 40, 41, 42, 43, 44, 45, 46]⟩, ⟨48, false, [259], [], 0, [0, 1, 2, 3, 4, 5, 6, 7, 8, 9, 10, 11, 12, 13, 14, 15, 16, 17, 18, 19, 20, 21, 22, 23, 24, 25, 26, 27, 28, 29, 30, 31, 32, 33, 34, 35, 36, 37, 38, 39, 40, 41, 42, 43, 44, 45, 46, 47]⟩, ⟨49, false, [9, 260], [], 0, [0, 1, 2, 3, 4, 5, 6, 7, 8, 9, 10, 11, 12, 13, 14, 15, 16, 17, 18, 19, 20, 21, 22, 23, 24, 25, 26, 27, 28, 29, 30, 31, 32, 33, 34, 35, 36, 37, 38, 39, 40, 41, 42, 43, 44, 45, 46, 47, 48]⟩, ⟨50, true, [260, 261], [0, 1, 2, 3, 4, 5, 6, 7, 8, 9, 10, 11, 12], 13, [0, 1, 2, 3, 4, 5, 6, 7, 8, 9, 10, 11, 12, 13, 14, 15, 16, 17, 18, 19, 20, 21, 22, 23, 24, 25, 26, 27, 28, 29, 30, 31, 32, 33, 34, 35, 36, 37, 38, 39, 40, 41, 42, 43, 44, 45, 46, 47, 48, 49]⟩, ⟨51, true, [260, 262], [4, 5, 6, 7, 8, 9, 10, 11, 12], 11, [0, 1, 2, 3, 4, 5, 6, 7, 8, 9, 10, 11, 12, 13, 14, 15, 16, 17, 18, 19, 20, 21, 22, 23, 24, 25, 26, 27, 28, 29, 30, 31, 32, 33, 34, 35, 36, 37, 38, 39, 40, 41, 42, 43, 44, 45, 46, 47, 48, 49, 50]⟩, ⟨52, true, [260, 263], [53, 54], 3, [0, 1, 2, 3, 4, 5, 6, 7, 8, 9, 10, 11, 12, 13, 14, 15, 16, 17, 18, 19, 20, 21, 22, 23, 24, 25, 26, 27, 28, 29, 30, 31, 32, 33, 34, 35, 36, 37, 38, 39, 40, 41, 42, 43, 44, 45, 46, 47, 48, 49, 50, 51]⟩, ⟨53, false, [12, 260], [], 0, [0, 1, 2, 3, 4, 5, 6, 7, 8, 9, 10, 11, 12, 13, 14, 15, 16, 17, 18, 19, 20, 21, 22, 23, 24, 25, 26, 27, 28, 29, 30, 31, 32, 33, 34, 35, 36, 37, 38, 39, 40, 41, 42, 43, 44, 45, 46, 47, 48]⟩, ⟨54, false, [260, 265], [], 0, [0, 1, 2, 3, 4, 5, 6, 7, 8, 9, 10, 11, 12, 13, 14, 15, 16, 17, 18, 19, 20, 21, 22, 23, 24, 25, 26, 27, 28, 29, 30, 31, 32, 33, 34, 35, 36, 37, 38, 39, 40, 41, 42, 43, 44, 45, 46, 47, 48, 53]⟩, ⟨55, false, [260, 266], [], 0, [0, 1, 2, 3, 4, 5, 6, 7, 8, 9, 10, 11, 12, 13, 14, 15, 16, 17, 18, 19, 20, 21, 22, 23, 24, 25, 26, 27, 28, 29, 30, 31, 32, 33, 34, 35, 36, 37, 38, 39, 40, 41, 42, 43, 44, 45, 46, 47, 48, 53, 54]⟩, ⟨56, false, [260, 267], [13], 0, [0, 1, 2, 3, 4, 5, 6, 7, 8, 9, 10, 11, 12, 13, 14, 15, 16, 17, 18, 19, 20, 21, 22, 23, 24, 25, 26, 27, 28, 29, 30, 31, 32, 33, 34, 35, 36, 37, 38, 39, 40, 41, 42, 43, 44, 45, 46, 47, 48, 53, 54, 55]⟩, ⟨57, false, [260, 268], [], 0, [0, 1, 2, 3, 4, 5, 6, 7, 8, 9, 10, 11, 12, 13, 14, 15, 16, 17, 18, 19, 20, 21, 22, 23, 24, 25, 26, 27, 28, 29, 30, 31, 32, 33, 34, 35, 36, 37, 38, 39, 40, 41, 42, 43, 44, 45, 46, 47, 48, 53, 54, 55, 56]⟩, ⟨58, false, [260, 269], [], 0, [0, 1, 2, 3, 4, 5, 6, 7, 8, 9, 10, 11, 12, 13, 14, 15, 16, 17, 18, 19, 20, 21, 22, 23, 24, 25, 26, 27, 28, 29, 30, 31, 32, 33, 34, 35, 36, 37, 38, 39, 40, 41, 42, 43, 44, 45, 46, 47, 48, 53, 54, 55, 56, 57]⟩, ⟨59, false, [260, 270], [19], 0, [0, 1, 2, 3, 4, 5, 6, 7, 8, 9, 10, 11, 12, 13, 14, 15, 16, 17, 18, 19, 20, 21, 22, 23, 24, 25, 26, 27, 28, 29, 30, 31, 32, 33, 34, 35, 36, 37, 38, 39, 40, 41, 42, 43, 44, 45, 46, 47, 48, 53, 54, 55, 56, 57, 58]⟩, ⟨60, true, [260, 264, 271], [57], 0, [0, 1, 2, 3, 4, 5, 6, 7, 8, 9, 10, 11, 12, 13, 14, 15, 16, 17, 18, 19, 20, 21, 22, 23, 24, 25, 26, 27, 28, 29, 30, 31, 32, 33, 34, 35, 36, 37, 38, 39, 40, 41, 42, 43, 44, 45, 46, 47, 48, 49, 50, 51, 52, 53, 54, 55, 56, 57, 58, 59]⟩, ⟨61, false, [260, 272], [], 0, [0, 1, 2, 3, 4, 5, 6, 7, 8, 9, 10, 11, 12, 13, 14, 15, 16, 17, 18, 19, 20, 21, 22, 23, 24, 25, 26, 27, 28, 29, 30, 31, 32, 33, 34, 35, 36, 37, 38, 39, 40, 41, 42, 43, 44, 45, 46, 47, 48, 49, 50, 51, 52, 53, 54, 55, 56, 57, 58, 59, 60]⟩, ⟨62, true, [260, 273], [], 0, [0, 1, 2, 3, 4, 5, 6, 7, 8, 9, 10, 11, 12, 13, 14, 15, 16, 17, 18, 19, 20, 21, 22, 23, 24, 25, 26, 27, 28, 29, 30, 31, 32, 33, 34, 35, 36, 37, 38, 39, 40, 41, 42, 43, 44, 45, 46, 47, 48, 49, 50, 51, 52, 53, 54, 55, 56, 57, 58, 59, 60, 61]⟩] (by kernel_rfl) ?_
   refine bi h (fun c129 h => ?_) (fun c129 h => ?_)
   ·skip
    refine t_cond cok ?_
    refine lpr h (fun hy => ?_)
    have h := h35
    rw [← hy] at h
    exact fi h (by kernel_rfl)
   refine bi h (fun c130 h => ?_) (fun c130 h => ?_)
   ·skip
    refine t_cond cok ?_
    refine lpr h (fun hy => ?_)
    have h := h35
    rw [← hy] at h
    exact fi h (by kernel_rfl)
   refine bk h fun t131 k132 h => ?_
   refine cl3 cok.g (pmem_Device_Steps.sc fu x42.2.2.2.2.1.device _ k132) (vi .i64 t131) [(1, .box 105 (.agg [.sl 2 4 [], .agg [.sl 3 1 [], vi .i64 x42.2.2.2.2.1.device.plan.at_], vb x42.2.2.2.2.1.device.off, vb x42.2.2.2.2.1.device.armed, vi .i64 x42.2.2.2.2.1.device.left, vi .i64 x42.2.2.2.2.1.device.steps])), (2, .row (.st .S_pmem_cell) 125 (x42.2.2.2.2.1.device.cells : List S_pmem_cell)), (3, .row (.int .i64) 3 (x42.2.2.2.2.1.device.plan.list : List Int))] 23 (by kernel_rfl) (by kernel_rfl) ?_
   refine bi h (fun c133 h => ?_) (fun c133 h => ?_)
   ·skip
    refine t_cond cok ?_
    refine lpr h (fun hy => ?_)
    have h := h35
    rw [← hy] at h
    exact fi h (by kernel_rfl)
   refine bk h fun t134 k135 h => ?_
   refine cl3 cok.g (pmem_Device_View.sc fu x42.2.2.2.2.1.device _ k135) (.sl 26 1 []) [(1, .box 105 (.agg [.sl 2 4 [], .agg [.sl 3 1 [], vi .i64 x42.2.2.2.2.1.device.plan.at_], vb x42.2.2.2.2.1.device.off, vb x42.2.2.2.2.1.device.armed, vi .i64 x42.2.2.2.2.1.device.left, vi .i64 x42.2.2.2.2.1.device.steps])), (2, .row (.st .S_pmem_cell) 125 (x42.2.2.2.2.1.device.cells : List S_pmem_cell)), (3, .row (.int .i64) 3 (x42.2.2.2.2.1.device.plan.list : List Int)), (26, .row (.int .u8) 5 (t134 : List Int))] 27 (by kernel_rfl) (by kernel_rfl) ?_
   refine bk h fun t136 k137 h => ?_
   refine cl3 cok.g (rickyardref05_Text.sc fu x42.2.2.2.2.2.D.Stored _ k137) (vs t136) [] 27 (by kernel_rfl) (by kernel_rfl) ?_
   refine bi h (fun c138 h => ?_) (fun c138 h => ?_)
   ·skip
    refine t_cond cok ?_
    refine lpr h (fun hy => ?_)
    have h := h35
    rw [← hy] at h
    exact fi h (by kernel_rfl)
   refine bk h fun t139 k140 h => ?_
   refine cl3 cok.g (pmem_Device_Image.sc fu x42.2.2.2.2.1.device _ k140) (.sl 30 1 []) [(1, .box 105 (.agg [.sl 2 4 [], .agg [.sl 3 1 [], vi .i64 x42.2.2.2.2.1.device.plan.at_], vb x42.2.2.2.2.1.device.off, vb x42.2.2.2.2.1.device.armed, vi .i64 x42.2.2.2.2.1.device.left, vi .i64 x42.2.2.2.2.1.device.steps])), (2, .row (.st .S_pmem_cell) 125 (x42.2.2.2.2.1.device.cells : List S_pmem_cell)), (3, .row (.int .i64) 3 (x42.2.2.2.2.1.device.plan.list : List Int)), (30, .row (.int .u8) 5 (t139 : List Int))] 31 (by kernel_rfl) (by kernel_rfl) ?_
   refine bk h fun t141 k142 h => ?_
   refine cl3 cok.g (rickyardref05_Text.sc fu x42.2.2.2.2.2.D.Lasts _ k142) (vs t141) [] 31 (by kernel_rfl) (by kernel_rfl) ?_
   refine bi h (fun c143 h => ?_) (fun c143 h => ?_)
   ·skip
    refine t_cond cok ?_
    refine lpr h (fun hy => ?_)
    have h := h35
    rw [← hy] at h
    exact fi h (by kernel_rfl)
   refine bk h fun t144 k145 h => ?_
   refine cl3 cok.g (shadow_Store_Alloc.sc fu x42.2.2.2.2.1 _ k145) (.ptr 4 0) [(0, .box 114 (.agg [.ptr 1 0, .ptr 4 0])), (1, .box 105 (.agg [.sl 2 4 [], .agg [.sl 3 1 [], vi .i64 x42.2.2.2.2.1.device.plan.at_], vb x42.2.2.2.2.1.device.off, vb x42.2.2.2.2.1.device.armed, vi .i64 x42.2.2.2.2.1.device.left, vi .i64 x42.2.2.2.2.1.device.steps])), (2, .row (.st .S_pmem_cell) 125 (x42.2.2.2.2.1.device.cells : List S_pmem_cell)), (3, .row (.int .i64) 3 (x42.2.2.2.2.1.device.plan.list : List Int)), (4, .box 108 (.agg [vi .i64 x42.2.2.2.2.1.blocks.reserve, .agg [.ptr 5 0, .ptr 7 0, .ptr 9 0, .ptr 11 0]])), (5, .box 112 (.agg [vi .i64 x42.2.2.2.2.1.blocks.sets.1.size, .sl 6 1 []])), (6, .row (.int .u64) 119 (x42.2.2.2.2.1.blocks.sets.1.words : List Int)), (7, .box 112 (.agg [vi .i64 x42.2.2.2.2.1.blocks.sets.2.1.size, .sl 8 1 []])), (8, .row (.int .u64) 119 (x42.2.2.2.2.1.blocks.sets.2.1.words : List Int)), (9, .box 112 (.agg [vi .i64 x42.2.2.2.2.1.blocks.sets.2.2.1.size, .sl 10 1 []])), (10, .row (.int .u64) 119 (x42.2.2.2.2.1.blocks.sets.2.2.1.words : List Int)), (11, .box 112 (.agg [vi .i64 x42.2.2.2.2.1.blocks.sets.2.2.2.size, .sl 12 1 []])), (12, .row (.int .u64) 119 (x42.2.2.2.2.1.blocks.sets.2.2.2.words : List Int))] 44 (by kernel_rfl) (by kernel_rfl) ?_
   refine bk h fun t146 k147 h => ?_
   refine cl3 cok.g (alloc_Alloc_Works.sc fu x42.2.2.2.2.1.blocks _ k147) (.ptr 53 0) [(4, .box 108 (.agg [vi .i64 x42.2.2.2.2.1.blocks.reserve, .agg [.ptr 5 0, .ptr 7 0, .ptr 9 0, .ptr 11 0]])), (5, .box 112 (.agg [vi .i64 x42.2.2.2.2.1.blocks.sets.1.size, .sl 6 1 []])), (6, .row (.int .u64) 119 (x42.2.2.2.2.1.blocks.sets.1.words : List Int)), (7, .box 112 (.agg [vi .i64 x42.2.2.2.2.1.blocks.sets.2.1.size, .sl 8 1 []])), (8, .row (.int .u64) 119 (x42.2.2.2.2.1.blocks.sets.2.1.words : List Int)), (9, .box 112 (.agg [vi .i64 x42.2.2.2.2.1.blocks.sets.2.2.1.size, .sl 10 1 []])), (10, .row (.int .u64) 119 (x42.2.2.2.2.1.blocks.sets.2.2.1.words : List Int)), (11, .box 112 (.agg [vi .i64 x42.2.2.2.2.1.blocks.sets.2.2.2.size, .sl 12 1 []])), (12, .row (.int .u64) 119 (x42.2.2.2.2.1.blocks.sets.2.2.2.words : List Int)), (53, .box 112 (.agg [vi .i64 t146.size, .sl 54 1 []])), (54, .row (.int .u64) 119 (t146.words : List Int))] 55 (by kernel_rfl) (by kernel_rfl) ?_
   refine bk h fun t148 k149 h => ?_
   refine cl3 cok.g (bits_Set_List.sc fu t146 _ k149) (.sl 57 1 []) [(53, .box 112 (.agg [vi .i64 t146.size, .sl 54 1 []])), (54, .row (.int .u64) 119 (t146.words : List Int)), (57, .row (.int .i64) 3 (t148 : List Int))] 58 (by kernel_rfl) (by kernel_rfl) ?_
   refine bk h fun t150 k151 h => ?_
   refine cl3 cok.g (rickyardref01_Ints.sc fu t148 x42.2.2.2.2.2.A.Works _ k151) (vb t150) [] 58 (by kernel_rfl) (by kernel_rfl) ?_
   refine t_cond cok ?_
   refine bi h (fun c152 h => ?_) (fun c152 h => ?_)
   ·skip
    refine lpr h (fun hy => ?_)
    have h := h35
    rw [← hy] at h
    exact fi h (by kernel_rfl)
   exact lpi h (by kernel_rfl)
  exact lpx h (fun hy => ems (sj hy) (by kernel_rfl))
 subst hy
 exact fi h (by kernel_rfl)
end Go.Proofs.YtdifnahlheogdaaDoor
namespace Go.Proofs.YtdifnahlheogdaaDoor.Pure
open Go Go.Xw Go.Yw
def Bytes (l : List Int) : Prop := ∀ x ∈ l, 0 ≤ x ∧ x ≤ 255
theorem ix_nat {α : Type} [Inhabited α] {l : List α} {j : Nat} (h : j < l.length) : ix l (j : Int) = l[j] := by
  simp [ix, List.getD_eq_getElem?_getD, List.getElem?_eq_getElem h]
theorem take_next {α : Type} {l : List α} {j : Nat} (h : j < l.length) : l.take (j + 1) = l.take j ++ [l[j]] := by
  rw [List.take_add_one, List.getElem?_eq_getElem h]
  rfl
theorem loopM_inv {σ ε : Type} {step : σ → Option (Sum ε σ)} (P : Nat → σ → Prop) (n : Nat) (Q : ε → Prop) (h : ∀ j s, j < n → P j s → ∃ s', step s = some (.inr s') ∧ P (j + 1) s') (he : ∀ s, P n s → ∃ e, step s = some (.inl e) ∧ Q e) : ∀ {k j : Nat} {s : σ}, P j s → j ≤ n → n - j < k → ∃ e, loopM step k s = some e ∧ Q e
  | 0, j, s, _, _, hk => by omega
  | k + 1, j, s, hp, hj, hk => by
    unfold loopM
    by_cases e1 : j = n
    · subst e1
      obtain ⟨e, h1, h2⟩ := he s hp
      rw [h1]
      exact ⟨e, rfl, h2⟩
    · obtain ⟨s', h1, h2⟩ := h j s (by omega) hp
      rw [h1]
      exact loopM_inv P n Q h he h2 (by omega) (by omega)
theorem next64 {j n : Nat} (h : j < n) (hn : n ≤ 100000) : IntKind.i64.wrap ((j : Int) + 1) = ((j + 1 : Nat) : Int) := by rw [w64 (by omega) (by omega)]; omega
theorem loopM_term {σ ε : Type} {step : σ → Option (Sum ε σ)} (S : Nat → σ) (n : Nat) (h : ∀ j, j < n → (∃ e, step (S j) = some (.inl e)) ∨ step (S j) = some (.inr (S (j + 1)))) (he : ∃ e, step (S n) = some (.inl e)) : ∀ {k j : Nat}, j ≤ n → n - j < k → ∃ e, loopM step k (S j) = some e
  | 0, j, _, hk => by omega
  | k + 1, j, hj, hk => by
    unfold loopM
    by_cases e1 : j = n
    · subst e1
      obtain ⟨e, h1⟩ := he
      rw [h1]
      exact ⟨e, rfl⟩
    · rcases h j (by omega) with ⟨e, h1⟩ | h1
      · rw [h1]
        exact ⟨e, rfl⟩
      · rw [h1]
        exact loopM_term S n h he (by omega) (by omega)
def wdR (g : Nat → Bool) : Nat → Nat
  | 0 => 0
  | k + 1 => 2 ^ k * (if g k = true then 1 else 0) + wdR g k
theorem wdR_lt (g : Nat → Bool) : ∀ n, wdR g n < 2 ^ n
  | 0 => by simp [wdR]
  | n + 1 => by
    have := wdR_lt g n
    unfold wdR
    rw [Nat.pow_succ]
    split <;> omega
theorem wdR_bit (g : Nat → Bool) (k : Nat) : ∀ n, (wdR g n).testBit k = (decide (k < n) && g k)
  | 0 => by simp [wdR]
  | n + 1 => by
    unfold wdR
    rw [Nat.testBit_two_pow_mul_add _ (wdR_lt g n)]
    by_cases h : k < n
    · rw [if_pos h, wdR_bit g k n]
      simp [h, show k < n + 1 by omega]
    · rw [if_neg h]
      by_cases e : k = n
      · subst e
        cases hg : g k <;> simp [hg]
      · have e2 : ¬ k < n + 1 := by omega
        obtain ⟨m, hm⟩ : ∃ m, k - n = m + 1 := ⟨k - n - 1, by omega⟩
        rw [hm]
        simp only [e2, decide_false, Bool.false_and]
        split <;> simp [Nat.testBit_succ]
theorem wd_ex (g : Nat → Bool) (n : Nat) : ∃ x, x < 2 ^ n ∧ ∀ k, x.testBit k = (decide (k < n) && g k) := ⟨wdR g n, wdR_lt g n, fun k => wdR_bit g k n⟩
noncomputable def wdN (g : Nat → Bool) (n : Nat) : Nat := Classical.choose (wd_ex g n)
theorem wdN_lt (g : Nat → Bool) (n : Nat) : wdN g n < 2 ^ n := (Classical.choose_spec (wd_ex g n)).1
theorem wdN_bit (g : Nat → Bool) (k n : Nat) : (wdN g n).testBit k = (decide (k < n) && g k) := (Classical.choose_spec (wd_ex g n)).2 k
theorem wdN_congr {f g : Nat → Bool} {n : Nat} (h : ∀ k, k < n → f k = g k) : wdN f n = wdN g n := by
  apply Nat.eq_of_testBit_eq
  intro i
  rw [wdN_bit, wdN_bit]
  by_cases e : i < n
  · rw [h i e]
  · simp [e]
theorem p64 : (2 : Nat) ^ 64 = 18446744073709551616 := by decide
theorem wrap_nat {x : Nat} (h : x < 2 ^ 64) : IntKind.u64.wrap (x : Int) = (x : Int) := by
  rw [p64] at h
  exact wu64 (by omega) (by omega)
theorem ofInt_nat (x : Nat) : BitVec.ofInt 64 (x : Int) = BitVec.ofNat 64 x := by rw [BitVec.ofInt_natCast]
theorem and64 {x y : Nat} (hx : x < 2 ^ 64) (hy : y < 2 ^ 64) : bAnd .u64 (x : Int) (y : Int) = ((x &&& y : Nat) : Int) := by
  unfold bAnd
  show IntKind.u64.wrap (((BitVec.ofInt 64 (x : Int) &&& BitVec.ofInt 64 (y : Int)).toNat : Nat) : Int) = _
  rw [ofInt_nat, ofInt_nat, BitVec.toNat_and, BitVec.toNat_ofNat, BitVec.toNat_ofNat, Nat.mod_eq_of_lt hx, Nat.mod_eq_of_lt hy]
  exact wrap_nat (Nat.lt_of_le_of_lt Nat.and_le_left hx)
theorem or64 {x y : Nat} (hx : x < 2 ^ 64) (hy : y < 2 ^ 64) : bOr .u64 (x : Int) (y : Int) = ((x ||| y : Nat) : Int) := by
  unfold bOr
  show IntKind.u64.wrap (((BitVec.ofInt 64 (x : Int) ||| BitVec.ofInt 64 (y : Int)).toNat : Nat) : Int) = _
  rw [ofInt_nat, ofInt_nat, BitVec.toNat_or, BitVec.toNat_ofNat, BitVec.toNat_ofNat, Nat.mod_eq_of_lt hx, Nat.mod_eq_of_lt hy]
  exact wrap_nat (Nat.or_lt_two_pow hx hy)
theorem not64 {x y : Nat} (hx : x < 2 ^ 64) (hy : y < 2 ^ 64) : bNot .u64 (x : Int) (y : Int) = ((wdN (fun k => x.testBit k && !y.testBit k) 64 : Nat) : Int) := by
  unfold bNot
  show IntKind.u64.wrap (((BitVec.ofInt 64 (x : Int) &&& ~~~ BitVec.ofInt 64 (y : Int)).toNat : Nat) : Int) = _
  rw [wrap_nat (BitVec.isLt _), ofInt_nat, ofInt_nat]
  refine congrArg (fun n : Nat => (n : Int)) ?_
  apply Nat.eq_of_testBit_eq
  intro i
  rw [wdN_bit, BitVec.testBit_toNat, BitVec.getLsbD_and, BitVec.getLsbD_not, BitVec.getLsbD_ofNat, BitVec.getLsbD_ofNat]
  by_cases h : i < 64 <;> simp [h]
theorem shr64n {x k : Nat} (hk : k ≤ 64) : shR .u64 (x : Int) (k : Int) = ((x / 2 ^ k : Nat) : Int) := by
  unfold shR
  show Int.fdiv (x : Int) (2 ^ min ((k : Int).toNat) 64) = _
  rw [Int.toNat_natCast, Nat.min_eq_left hk, Int.fdiv_eq_ediv_of_nonneg _ (Int.le_of_lt (Int.pow_pos (by decide)))]
  simp
theorem shl64 {k : Nat} (hk : k < 64) : shL .u64 1 (k : Int) = ((2 ^ k : Nat) : Int) := by
  unfold shL
  show IntKind.u64.wrap (1 * 2 ^ min ((k : Int).toNat) 64) = _
  rw [Int.toNat_natCast, Nat.min_eq_left (Nat.le_of_lt hk), Int.one_mul]
  have : ((2 : Int) ^ k) = ((2 ^ k : Nat) : Int) := by simp
  rw [this]
  exact wrap_nat (Nat.pow_lt_pow_right (by decide) hk)
theorem pow_lt64 {k : Nat} (hk : k < 64) : 2 ^ k < 2 ^ 64 := Nat.pow_lt_pow_right (by decide) hk
theorem or_wd {g : Nat → Bool} {r : Nat} (hr : r < 64) : bOr .u64 ((wdN g 64 : Nat) : Int) (shL .u64 1 (r : Int)) = ((wdN (fun k => g k || decide (k = r)) 64 : Nat) : Int) := by
  rw [shl64 hr, or64 (wdN_lt g 64) (pow_lt64 hr)]
  refine congrArg (fun n : Nat => (n : Int)) ?_
  apply Nat.eq_of_testBit_eq
  intro i
  rw [Nat.testBit_or, wdN_bit, wdN_bit, Nat.testBit_two_pow]
  by_cases h : i < 64
  · by_cases e : r = i <;> simp [h, e, eq_comm]
  · simp [h, show ¬ r = i by omega]
theorem not_wd {g : Nat → Bool} {r : Nat} (hr : r < 64) : bNot .u64 ((wdN g 64 : Nat) : Int) (shL .u64 1 (r : Int)) = ((wdN (fun k => g k && !decide (k = r)) 64 : Nat) : Int) := by
  rw [shl64 hr, not64 (wdN_lt g 64) (pow_lt64 hr)]
  refine congrArg (fun n : Nat => (n : Int)) ?_
  refine wdN_congr fun k hk => ?_
  rw [wdN_bit, Nat.testBit_two_pow]
  by_cases e : r = k <;> simp [hk, e, eq_comm]
theorem has_wd {g : Nat → Bool} {r : Nat} (hr : r < 64) : decide (bAnd .u64 (shR .u64 ((wdN g 64 : Nat) : Int) (r : Int)) 1 = 1) = g r := by
  have hb := wdN_bit g r 64
  rw [shr64n (by omega), show (1 : Int) = ((1 : Nat) : Int) from rfl, and64 (Nat.lt_of_le_of_lt (Nat.div_le_self _ _) (wdN_lt g 64)) (by decide)]
  simp only [hr, decide_true, Bool.true_and] at hb
  rw [← hb, Nat.testBit_eq_decide_div_mod_eq, Nat.and_one_is_mod]
  congr 1
  apply propext
  omega
theorem low_split {x : Nat} (h : x ≠ 0) : ∃ k q, x = 2 ^ k * (2 * q + 1) := by
  induction x using Nat.strongRecOn with
  | _ x ih =>
    by_cases e : x % 2 = 1
    · exact ⟨0, x / 2, by omega⟩
    · obtain ⟨k, q, hk⟩ := ih (x / 2) (by omega) (by omega)
      exact ⟨k + 1, q, by rw [Nat.pow_succ, Nat.mul_comm (2 ^ k) 2, Nat.mul_assoc, ← hk]; omega⟩
theorem tb0 (k a j : Nat) : (2 ^ k * a).testBit j = if j < k then false else a.testBit (j - k) := by
  have := Nat.testBit_two_pow_mul_add a (show 0 < 2 ^ k from Nat.pow_pos (by decide)) j
  simpa using this
theorem low_and (k q : Nat) : (2 ^ k * (2 * q + 1)) &&& (2 ^ k * (2 * q + 1) - 1) = 2 ^ k * (2 * q) := by
  have hp : 0 < 2 ^ k := Nat.pow_pos (by decide)
  have e2 : 2 ^ k * (2 * q + 1) - 1 = 2 ^ k * (2 * q) + (2 ^ k - 1) := by rw [Nat.mul_add]; omega
  apply Nat.eq_of_testBit_eq
  intro j
  rw [Nat.testBit_and, e2, Nat.testBit_two_pow_mul_add _ (by omega : 2 ^ k - 1 < 2 ^ k), tb0, tb0]
  by_cases h : j < k
  · simp [h]
  · rw [if_neg h, if_neg h, if_neg h]
    cases hm : j - k with
    | zero => simp [Nat.testBit_zero]
    | succ m =>
      rw [Nat.testBit_succ, Nat.testBit_succ, show (2 * q + 1) / 2 = q by omega, show 2 * q / 2 = q by omega, Bool.and_self]
theorem low_neg {k q : Nat} (h : 2 ^ k * (2 * q + 1) < 2 ^ 64) : k < 64 ∧ (2 ^ k * (2 * q + 1)) &&& (2 ^ 64 - 2 ^ k * (2 * q + 1)) = 2 ^ k := by
  have hk : k < 64 := by
    by_cases hk : k < 64
    · exact hk
    · have : 2 ^ 64 ≤ 2 ^ k := Nat.pow_le_pow_right (by decide) (by omega)
      have h2 : 2 ^ k * 1 ≤ 2 ^ k * (2 * q + 1) := Nat.mul_le_mul_left _ (by omega)
      omega
  refine ⟨hk, ?_⟩
  have hp : 0 < 2 ^ k := Nat.pow_pos (by decide)
  have es : 2 ^ 64 = 2 ^ k * 2 ^ (64 - k) := by rw [← Nat.pow_add]; congr 1; omega
  have hq : 2 * q + 1 < 2 ^ (64 - k) := by
    rw [es] at h
    exact Nat.lt_of_mul_lt_mul_left h
  have e2 : 2 ^ 64 - 2 ^ k * (2 * q + 1) = 2 ^ k * (2 ^ (64 - k) - (2 * q + 1)) := by rw [es, Nat.mul_sub]
  apply Nat.eq_of_testBit_eq
  intro j
  rw [Nat.testBit_and, e2, tb0, tb0, Nat.testBit_two_pow]
  by_cases hj : j < k
  · simp [hj, show ¬ k = j by omega]
  · rw [if_neg hj, if_neg hj, Nat.testBit_two_pow_sub_succ (by omega : 2 * q < 2 ^ (64 - k))]
    cases hm : j - k with
    | zero => simp [Nat.testBit_zero, show k = j by omega, show 0 < 64 - j by omega]
    | succ m =>
      rw [Nat.testBit_succ, Nat.testBit_succ, show (2 * q + 1) / 2 = q by omega, show 2 * q / 2 = q by omega]
      have : ¬ k = j := by omega
      cases q.testBit m <;> simp [this]
theorem tz_tab : ∀ k : Fin 64, shR .u64 (IntKind.u64.wrap (((2 ^ (k : Nat) : Nat) : Int) * 285870213051353865)) 58 = (((2 ^ (k : Nat) * 285870213051353865) % 2 ^ 64 / 2 ^ 58 : Nat) : Int) ∧ (2 ^ (k : Nat) * 285870213051353865) % 2 ^ 64 / 2 ^ 58 < 64 ∧ Arr.get tabG0 (((2 ^ (k : Nat) * 285870213051353865) % 2 ^ 64 / 2 ^ 58 : Nat) : Int) = ((k : Nat) : Int) := by decide +kernel
theorem tz_eq {fu k q : Nat} (h : 2 ^ k * (2 * q + 1) < 2 ^ 64) : bits_TrailingZeros64.f fu ((2 ^ k * (2 * q + 1) : Nat) : Int) = some (k : Int) := by
  unfold bits_TrailingZeros64.f
  obtain ⟨hk, ha⟩ := low_neg h
  have hp : 0 < 2 ^ k := Nat.pow_pos (by decide)
  have h0 : ¬ ((2 ^ k * (2 * q + 1) : Nat) : Int) = 0 := by
    intro e
    have : 2 ^ k * (2 * q + 1) = 0 := by exact_mod_cast e
    have h2 : 2 ^ k * 1 ≤ 2 ^ k * (2 * q + 1) := Nat.mul_le_mul_left _ (by omega)
    omega
  have hw : IntKind.u64.wrap (-((2 ^ k * (2 * q + 1) : Nat) : Int)) = ((2 ^ 64 - 2 ^ k * (2 * q + 1) : Nat) : Int) := by
    generalize 2 ^ k * (2 * q + 1) = x at *
    have hx : 0 < x := by omega
    rw [p64] at *
    unfold IntKind.wrap
    simp only [IntKind.signed, IntKind.bits]
    simp
    omega
  rw [decide_eq_false h0, if_neg (by decide), hw, and64 h (by rw [p64] at *; have : 2 ^ k * 1 ≤ 2 ^ k * (2 * q + 1) := Nat.mul_le_mul_left _ (by omega); omega), ha]
  obtain ⟨t1, t2, t3⟩ := tz_tab ⟨k, hk⟩
  simp only at t1 t2 t3
  rw [t1, t3, if_pos ⟨by omega, by omega⟩, w64 (by omega) (by omega)]
def mm (c : Nat) : Nat → Nat
  | 0 => 0
  | n + 1 => 256 * mm c n + c
def f1 (n x : Nat) : Nat := ((x / 2) &&& mm 85 n) + (x &&& mm 85 n)
def f2 (n x : Nat) : Nat := ((x / 4) &&& mm 51 n) + (x &&& mm 51 n)
def f3 (n x : Nat) : Nat := (x / 16 + x) &&& mm 15 n
def pc (b : Nat) : Nat := ((List.range 8).filter fun k => b.testBit k).length
def tn : Nat → Nat → Nat
  | 0, _ => 0
  | n + 1, x => 256 * tn n (x / 256) + pc (x % 256)
theorem and256 {y b M c : Nat} (hb : b < 256) (hc : c < 256) : (256 * y + b) &&& (256 * M + c) = 256 * (y &&& M) + (b &&& c) := by
  have e : 256 = 2 ^ 8 := by decide
  have hbc : b &&& c < 2 ^ 8 := Nat.lt_of_le_of_lt Nat.and_le_left (by omega)
  apply Nat.eq_of_testBit_eq
  intro j
  rw [Nat.testBit_and, e, Nat.testBit_two_pow_mul_add _ (by omega : b < 2 ^ 8), Nat.testBit_two_pow_mul_add _ (by omega : c < 2 ^ 8), Nat.testBit_two_pow_mul_add _ hbc]
  by_cases h : j < 8
  · rw [if_pos h, if_pos h, if_pos h, Nat.testBit_and]
  · rw [if_neg h, if_neg h, if_neg h, Nat.testBit_and]
theorem t85 : ∀ (b : Fin 256) (r : Fin 2), (128 * (r : Nat) + (b : Nat) / 2) &&& 85 = ((b : Nat) / 2) &&& 85 := by decide +kernel
theorem t51 : ∀ (b : Fin 256) (r : Fin 4), (64 * (r : Nat) + (b : Nat) / 4) &&& 51 = ((b : Nat) / 4) &&& 51 := by decide +kernel
theorem t15 : ∀ (b : Fin 69) (r : Fin 5), (16 * (r : Nat) + (b : Nat) / 16 + (b : Nat)) &&& 15 = ((b : Nat) / 16 + (b : Nat)) &&& 15 := by decide +kernel
theorem tb : ∀ b : Fin 256, f1 1 b < 256 ∧ f2 1 (f1 1 b) < 69 ∧ f2 1 (f1 1 b) % 16 ≤ 4 ∧ f3 1 (f2 1 (f1 1 b)) = pc b ∧ pc b ≤ 8 := by decide +kernel
theorem tb2 : ∀ b : Fin 256, ((b : Nat) / 2 &&& 85) + ((b : Nat) &&& 85) = f1 1 b ∧ ((b : Nat) / 4 &&& 51) + ((b : Nat) &&& 51) = f2 1 b ∧ ((b : Nat) / 16 + b) &&& 15 = f3 1 b := by decide +kernel
theorem f1_succ {n y b : Nat} (hb : b < 256) : f1 (n + 1) (256 * y + b) = 256 * f1 n y + f1 1 b := by
  have e1 : (256 * y + b) / 2 = 256 * (y / 2) + (128 * (y % 2) + b / 2) := by omega
  unfold f1
  show (((256 * y + b) / 2) &&& (256 * mm 85 n + 85)) + ((256 * y + b) &&& (256 * mm 85 n + 85)) = _
  rw [e1, and256 (by omega) (by decide), and256 hb (by decide)]
  have h1 := t85 ⟨b, hb⟩ ⟨y % 2, by omega⟩
  have h2 := (tb2 ⟨b, hb⟩).1
  simp only at h1 h2
  unfold f1 at h2
  rw [h1, ← h2]
  omega
theorem f2_succ {n y b : Nat} (hb : b < 256) : f2 (n + 1) (256 * y + b) = 256 * f2 n y + f2 1 b := by
  have e1 : (256 * y + b) / 4 = 256 * (y / 4) + (64 * (y % 4) + b / 4) := by omega
  unfold f2
  show (((256 * y + b) / 4) &&& (256 * mm 51 n + 51)) + ((256 * y + b) &&& (256 * mm 51 n + 51)) = _
  rw [e1, and256 (by omega) (by decide), and256 hb (by decide)]
  have h1 := t51 ⟨b, hb⟩ ⟨y % 4, by omega⟩
  have h2 := (tb2 ⟨b, hb⟩).2.1
  simp only at h1 h2
  unfold f2 at h2
  rw [h1, ← h2]
  omega
theorem f3_succ {n y b : Nat} (hb : b < 69) (hy : y % 16 ≤ 4) : f3 (n + 1) (256 * y + b) = 256 * f3 n y + f3 1 b := by
  have e1 : (256 * y + b) / 16 + (256 * y + b) = 256 * (y / 16 + y) + (16 * (y % 16) + b / 16 + b) := by omega
  unfold f3
  show ((256 * y + b) / 16 + (256 * y + b)) &&& (256 * mm 15 n + 15) = _
  rw [e1, and256 (by omega) (by decide)]
  have h1 := t15 ⟨b, hb⟩ ⟨y % 16, by omega⟩
  have h2 := (tb2 ⟨b, by omega⟩).2.2
  simp only at h1 h2
  unfold f3 at h2
  rw [h1, ← h2]
theorem f_all : ∀ (n x : Nat), f1 n x < 256 ^ n ∧ f2 n (f1 n x) ≤ mm 68 n ∧ f2 n (f1 n x) % 16 ≤ 4 ∧ f3 n (f2 n (f1 n x)) = tn n x
  | 0, x => by simp [f1, f2, f3, mm, tn]
  | n + 1, x => by
    obtain ⟨h1, h2, h3, h4⟩ := f_all n (x / 256)
    have hx : x = 256 * (x / 256) + x % 256 := by omega
    have hb : x % 256 < 256 := by omega
    obtain ⟨b1, b2, b3, b4, _⟩ := tb ⟨x % 256, hb⟩
    simp only at b1 b2 b3 b4
    have e1 : f1 (n + 1) x = 256 * f1 n (x / 256) + f1 1 (x % 256) := by
      conv => lhs; rw [hx]
      exact f1_succ hb
    have e2 := f2_succ (n := n) (y := f1 n (x / 256)) b1
    have e3 := f3_succ (n := n) (y := f2 n (f1 n (x / 256))) b2 h3
    rw [e1, e2, e3, h4, b4]
    refine ⟨?_, ?_, by omega, rfl⟩
    · rw [Nat.pow_succ]
      omega
    · unfold mm
      omega
theorem tn8 (x : Nat) : ∃ s0 s1 s2 s3 s4 s5 s6 s7 : Nat, tn 8 x = s0 + 256 * s1 + 65536 * s2 + 16777216 * s3 + 4294967296 * s4 + 1099511627776 * s5 + 281474976710656 * s6 + 72057594037927936 * s7 ∧ (s0 ≤ 8 ∧ s1 ≤ 8 ∧ s2 ≤ 8 ∧ s3 ≤ 8 ∧ s4 ≤ 8 ∧ s5 ≤ 8 ∧ s6 ≤ 8 ∧ s7 ≤ 8) ∧ s0 = pc (x % 256) ∧ s1 = pc (x / 256 % 256) ∧ s2 = pc (x / 256 / 256 % 256) ∧ s3 = pc (x / 256 / 256 / 256 % 256) ∧ s4 = pc (x / 256 / 256 / 256 / 256 % 256) ∧ s5 = pc (x / 256 / 256 / 256 / 256 / 256 % 256) ∧ s6 = pc (x / 256 / 256 / 256 / 256 / 256 / 256 % 256) ∧ s7 = pc (x / 256 / 256 / 256 / 256 / 256 / 256 / 256 % 256) := by
  have hp : ∀ y, pc (y % 256) ≤ 8 := fun y => (tb ⟨y % 256, by omega⟩).2.2.2.2
  refine ⟨_, _, _, _, _, _, _, _, ?_, ⟨hp _, hp _, hp _, hp _, hp _, hp _, hp _, hp _⟩, rfl, rfl, rfl, rfl, rfl, rfl, rfl, rfl⟩
  simp only [tn]
  omega
def cnt (g : Nat → Bool) (n : Nat) : Nat := ((List.range n).filter g).length
theorem cnt_add (g : Nat → Bool) (m n : Nat) : cnt g (m + n) = cnt g m + cnt (fun k => g (m + k)) n := by
  unfold cnt
  rw [List.range_add, List.filter_append, List.length_append, List.filter_map, List.length_map]
  rfl
theorem cnt_congr {f g : Nat → Bool} {n : Nat} (h : ∀ k, k < n → f k = g k) : cnt f n = cnt g n := by
  unfold cnt
  rw [List.filter_congr fun k hk => h k (List.mem_range.1 hk)]
theorem div_bit (x k : Nat) : (x / 256).testBit k = x.testBit (k + 8) := by
  rw [show (256 : Nat) = 2 ^ 8 from by decide, Nat.testBit_div_two_pow]
theorem pc_low (x : Nat) : pc (x % 256) = cnt (fun k => x.testBit k) 8 := by
  refine cnt_congr fun k hk => ?_
  rw [show (256 : Nat) = 2 ^ 8 from by decide, Nat.testBit_mod_two_pow]
  simp [hk]
theorem cnt8 (x n : Nat) : cnt (fun k => x.testBit k) (8 + n) = pc (x % 256) + cnt (fun k => (x / 256).testBit k) n := by
  rw [cnt_add, pc_low]
  congr 1
  refine cnt_congr fun k _ => ?_
  rw [div_bit, Nat.add_comm]
theorem and127 {x : Nat} (h : x < 9223372036854775808) : bAnd .i64 (IntKind.i64.wrap (x : Int)) 127 = ((x % 128 : Nat) : Int) := by
  rw [w64 (by omega) (by omega)]
  unfold bAnd
  show IntKind.i64.wrap (((BitVec.ofInt 64 (x : Int) &&& BitVec.ofInt 64 127).toNat : Nat) : Int) = _
  rw [show (127 : Int) = ((127 : Nat) : Int) from rfl, ofInt_nat, ofInt_nat, BitVec.toNat_and, BitVec.toNat_ofNat, BitVec.toNat_ofNat, Nat.mod_eq_of_lt (by omega), Nat.mod_eq_of_lt (by decide), show (127 : Nat) = 2 ^ 7 - 1 from rfl, Nat.and_two_pow_sub_one_eq_mod]
  rw [w64 (by omega) (by omega)]
theorem shr_of {x : Nat} {k : Int} {m : Nat} (hk : k = (m : Int)) (hm : m ≤ 64) : shR .u64 (x : Int) k = ((x / 2 ^ m : Nat) : Int) := by rw [hk]; exact shr64n hm
theorem dv {X A r m : Nat} (h : X = m * A + r) (hr : r < m) : X / m = A := by
  rw [h, Nat.mul_add_div (by omega), Nat.div_eq_of_lt hr, Nat.add_zero]
def fd (x : Nat) : Nat := x + x / 256
def fe (x : Nat) : Nat := x + x / 65536
def fg (x : Nat) : Nat := (x + x / 4294967296) % 128
theorem fold8 {s0 s1 s2 s3 s4 s5 s6 s7 : Nat} (hs : s0 ≤ 8 ∧ s1 ≤ 8 ∧ s2 ≤ 8 ∧ s3 ≤ 8 ∧ s4 ≤ 8 ∧ s5 ≤ 8 ∧ s6 ≤ 8 ∧ s7 ≤ 8) : fg (fe (fd (s0 + 256 * s1 + 65536 * s2 + 16777216 * s3 + 4294967296 * s4 + 1099511627776 * s5 + 281474976710656 * s6 + 72057594037927936 * s7))) = s0 + (s1 + (s2 + (s3 + (s4 + (s5 + (s6 + s7)))))) := by
  have d1 : fd (s0 + 256 * s1 + 65536 * s2 + 16777216 * s3 + 4294967296 * s4 + 1099511627776 * s5 + 281474976710656 * s6 + 72057594037927936 * s7) = (s0 + s1) + 256 * (s1 + s2) + 65536 * (s2 + s3) + 16777216 * (s3 + s4) + 4294967296 * (s4 + s5) + 1099511627776 * (s5 + s6) + 281474976710656 * (s6 + s7) + 72057594037927936 * s7 := by
    unfold fd
    rw [dv (X := (s0 + 256 * s1 + 65536 * s2 + 16777216 * s3 + 4294967296 * s4 + 1099511627776 * s5 + 281474976710656 * s6 + 72057594037927936 * s7)) (A := s1 + 256 * s2 + 65536 * s3 + 16777216 * s4 + 4294967296 * s5 + 1099511627776 * s6 + 281474976710656 * s7) (r := s0) (m := 256) (by omega) (by omega)]
    omega
  rw [d1]
  have d2 : fe ((s0 + s1) + 256 * (s1 + s2) + 65536 * (s2 + s3) + 16777216 * (s3 + s4) + 4294967296 * (s4 + s5) + 1099511627776 * (s5 + s6) + 281474976710656 * (s6 + s7) + 72057594037927936 * s7) = (s0 + s1 + s2 + s3) + 256 * (s1 + s2 + s3 + s4) + 65536 * (s2 + s3 + s4 + s5) + 16777216 * (s3 + s4 + s5 + s6) + 4294967296 * (s4 + s5 + s6 + s7) + 1099511627776 * (s5 + s6 + s7) + 281474976710656 * (s6 + s7) + 72057594037927936 * s7 := by
    unfold fe
    rw [dv (A := (s2 + s3) + 256 * (s3 + s4) + 65536 * (s4 + s5) + 16777216 * (s5 + s6) + 4294967296 * (s6 + s7) + 1099511627776 * s7) (r := (s0 + s1) + 256 * (s1 + s2)) (m := 65536) (by omega) (by omega)]
    omega
  rw [d2]
  unfold fg
  rw [dv (A := (s4 + s5 + s6 + s7) + 256 * (s5 + s6 + s7) + 65536 * (s6 + s7) + 16777216 * s7) (r := (s0 + s1 + s2 + s3) + 256 * (s1 + s2 + s3 + s4) + 65536 * (s2 + s3 + s4 + s5) + 16777216 * (s3 + s4 + s5 + s6)) (m := 4294967296) (by omega) (by omega)]
  omega
theorem ones_eq {fu x : Nat} (h : x < 2 ^ 64) : bits_OnesCount64.f fu (x : Int) = some ((cnt (fun k => x.testBit k) 64 : Nat) : Int) := by
  obtain ⟨h1, h2, _, h3⟩ := f_all 8 x
  obtain ⟨s0, s1, s2, s3, s4, s5, s6, s7, ht, hs, q0, q1, q2, q3, q4, q5, q6, q7⟩ := tn8 x
  have hm : mm 85 8 = 6148914691236517205 ∧ mm 51 8 = 3689348814741910323 ∧ mm 15 8 = 1085102592571150095 ∧ mm 68 8 = 4919131752989213764 := by decide
  have hc : cnt (fun k => x.testBit k) 64 = s0 + (s1 + (s2 + (s3 + (s4 + (s5 + (s6 + s7)))))) := by
    rw [show 64 = 8 + 56 from rfl, cnt8, show 56 = 8 + 48 from rfl, cnt8, show 48 = 8 + 40 from rfl, cnt8, show 40 = 8 + 32 from rfl, cnt8, show 32 = 8 + 24 from rfl, cnt8, show 24 = 8 + 16 from rfl, cnt8, show 16 = 8 + 8 from rfl, cnt8, ← pc_low, q0, q1, q2, q3, q4, q5, q6, q7]
  have a1 : IntKind.u64.wrap (bAnd .u64 (shR .u64 (x : Int) 1) 6148914691236517205 + bAnd .u64 (x : Int) 6148914691236517205) = ((f1 8 x : Nat) : Int) := by
    rw [shr_of (k := 1) (m := 1) rfl (by decide), show (6148914691236517205 : Int) = ((6148914691236517205 : Nat) : Int) from rfl, and64 (by omega) (by decide), and64 h (by decide), ← Int.natCast_add, wrap_nat]
    · unfold f1
      rw [hm.1]
    · have := h1
      unfold f1 at this
      rw [hm.1] at this
      exact Nat.lt_of_lt_of_le this (by decide)
  unfold bits_OnesCount64.f
  rw [a1]
  generalize f1 8 x = y1 at *
  have hy1 : y1 < 2 ^ 64 := Nat.lt_of_lt_of_le h1 (by decide)
  have a2 : IntKind.u64.wrap (bAnd .u64 (shR .u64 (y1 : Int) 2) 3689348814741910323 + bAnd .u64 (y1 : Int) 3689348814741910323) = ((f2 8 y1 : Nat) : Int) := by
    rw [shr_of (k := 2) (m := 2) rfl (by decide), show (3689348814741910323 : Int) = ((3689348814741910323 : Nat) : Int) from rfl, and64 (by omega) (by decide), and64 hy1 (by decide), ← Int.natCast_add, wrap_nat]
    · unfold f2
      rw [hm.2.1]
    · have := h2
      unfold f2 at this
      rw [hm.2.1, hm.2.2.2] at this
      exact Nat.lt_of_le_of_lt this (by decide)
  rw [a2]
  rw [hm.2.2.2] at h2
  generalize f2 8 y1 = y2 at *
  have a3 : bAnd .u64 (IntKind.u64.wrap (shR .u64 (y2 : Int) 4 + (y2 : Int))) 1085102592571150095 = ((tn 8 x : Nat) : Int) := by
    rw [shr_of (k := 4) (m := 4) rfl (by decide), ← Int.natCast_add, wrap_nat (by rw [p64]; omega), show (1085102592571150095 : Int) = ((1085102592571150095 : Nat) : Int) from rfl, and64 (by rw [p64]; omega) (by decide), ← h3]
    unfold f3
    rw [hm.2.2.1]
  rw [a3, ht]
  have sh : ∀ (y m : Nat) (k : Int), k = (m : Int) → m ≤ 64 → y + y / 2 ^ m < 2 ^ 64 → IntKind.u64.wrap ((y : Int) + shR .u64 (y : Int) k) = ((y + y / 2 ^ m : Nat) : Int) := by
    intro y m k hk hm hy
    rw [shr_of hk hm, ← Int.natCast_add, wrap_nat hy]
  rw [sh _ 8 8 rfl (by decide) (by rw [p64]; omega), sh _ 16 16 rfl (by decide) (by rw [p64]; omega), sh _ 32 32 rfl (by decide) (by rw [p64]; omega), and127 (by omega), hc]
  clear a3 a2 a1 hc q0 q1 q2 q3 q4 q5 q6 q7 sh h3 ht hy1 h1 h2 hm h
  refine congrArg (fun n : Nat => some ((n : Nat) : Int)) ?_
  rw [show (2 : Nat) ^ 8 = 256 from by decide, show (2 : Nat) ^ 16 = 65536 from by decide, show (2 : Nat) ^ 32 = 4294967296 from by decide]
  exact fold8 hs
noncomputable def wordAt (f : Nat → Bool) (j : Nat) : Nat := wdN (fun k => f (64 * j + k)) 64
noncomputable def wordsOf (f : Nat → Bool) (m : Nat) : List Int := (List.range m).map fun j => ((wordAt f j : Nat) : Int)
noncomputable def setOf (n : Nat) (f : Nat → Bool) : S_bits_Set := ⟨(n : Int), wordsOf f ((n + 63) / 64)⟩
def els (n : Nat) (f : Nat → Bool) : List Int := ((List.range n).filter f).map fun (k : Nat) => (k : Int)
def Low (n : Nat) (f : Nat → Bool) : Prop := ∀ k, f k = true → k < n
def addF (n : Nat) (f : Nat → Bool) (l : List Int) : Nat → Bool := fun k => f k || (decide (k < n) && decide ((k : Int) ∈ l))
def dropF (f : Nat → Bool) (l : List Int) : Nat → Bool := fun k => f k && !decide ((k : Int) ∈ l)
def hasI (n : Nat) (f : Nat → Bool) (k : Int) : Bool := decide (0 ≤ k) && (decide (k < (n : Int)) && f k.toNat)
theorem words_len (f : Nat → Bool) (m : Nat) : (wordsOf f m).length = m := by simp [wordsOf]
theorem words_ix {f : Nat → Bool} {m j : Nat} (h : j < m) : ix (wordsOf f m) (j : Int) = ((wordAt f j : Nat) : Int) := by
  rw [ix_nat (by rw [words_len]; exact h)]
  simp [wordsOf]
theorem word_congr {f g : Nat → Bool} {j : Nat} (h : ∀ k, k < 64 → f (64 * j + k) = g (64 * j + k)) : wordAt f j = wordAt g j := wdN_congr h
theorem words_congr {f g : Nat → Bool} {m : Nat} (h : ∀ k, k < 64 * m → f k = g k) : wordsOf f m = wordsOf g m := by
  unfold wordsOf
  apply List.map_congr_left
  intro j hj
  have := List.mem_range.1 hj
  rw [word_congr fun k hk => h _ (by omega)]
theorem set_congr {f g : Nat → Bool} {n : Nat} (h : ∀ k, f k = g k) : setOf n f = setOf n g := by
  rw [show f = g from funext h]
theorem words_set {f : Nat → Bool} {m k : Nat} {v : Nat} (hk : k / 64 < m) (g : Nat → Bool) (hv : v = wordAt g (k / 64)) (hg : ∀ i, i / 64 ≠ k / 64 → g i = f i) : (wordsOf f m).set (k / 64) ((v : Nat) : Int) = wordsOf g m := by
  apply List.ext_getElem (by simp [wordsOf])
  intro j h1 h2
  rw [List.getElem_set]
  simp only [wordsOf, List.getElem_map, List.getElem_range]
  by_cases e : k / 64 = j
  · rw [if_pos e, hv, e]
  · rw [if_neg e, word_congr fun i hi => (hg (64 * j + i) (by omega)).symm]
theorem tdiv64 (k : Nat) : Int.tdiv (k : Int) 64 = ((k / 64 : Nat) : Int) := by
  rw [Int.tdiv_eq_ediv_of_nonneg (by omega)]
  omega
theorem tmod64 (k : Nat) : Int.tmod (k : Int) 64 = ((k % 64 : Nat) : Int) := by
  rw [Int.tmod_eq_emod_of_nonneg (by omega)]
  omega
theorem may_b {fu : Nat} {s : S_bits_Set} {k : Int} : bits_Set_may.f fu s k = some (decide (0 ≤ k) && decide (k < s.size)) := by
  unfold bits_Set_may.f
  by_cases h : k ≥ 0
  · have h' : 0 ≤ k := h
    simp [h']
  · have h' : ¬ 0 ≤ k := h
    simp [h']
theorem has_eq {fu n : Nat} {f : Nat → Bool} {k : Int} (hn : n ≤ 100000) : bits_Set_Has.f fu (setOf n f) k = some (hasI n f k) := by
  unfold bits_Set_Has.f hasI
  rw [may_b]
  simp only [Option.bind_some]
  by_cases h : 0 ≤ k ∧ k < (n : Int)
  · obtain ⟨j, rfl⟩ : ∃ j : Nat, k = (j : Int) := ⟨k.toNat, by omega⟩
    have hj : j / 64 < (n + 63) / 64 := by omega
    rw [show (setOf n f).size = (n : Int) from rfl, decide_eq_true h.1, decide_eq_true h.2, Bool.true_and, if_pos rfl, tdiv64, tmod64, w64 (by omega) (by omega), show (setOf n f).words = wordsOf f ((n + 63) / 64) from rfl, words_ix hj, if_pos ⟨by omega, by rw [words_len]; omega⟩, if_pos (by omega)]
    have := has_wd (g := fun r => f (64 * (j / 64) + r)) (r := j % 64) (by omega)
    unfold wordAt
    rw [this]
    simp only [Bool.true_and, Int.toNat_natCast]
    rw [show 64 * (j / 64) + j % 64 = j by omega]
  · rw [show (setOf n f).size = (n : Int) from rfl]
    by_cases h0 : 0 ≤ k
    · rw [decide_eq_true h0, decide_eq_false (fun q => h ⟨h0, q⟩)]
      rfl
    · rw [decide_eq_false h0]
      rfl
theorem one_eq {n : Nat} {f : Nat → Bool} {x : Int} {fu : Nat} (hn : n ≤ 100000) (op : Int → Int → Int) (g : Bool → Bool → Bool) (hop : ∀ (g' : Nat → Bool) (r : Nat), r < 64 → op ((wdN g' 64 : Nat) : Int) (shL .u64 1 (r : Int)) = ((wdN (fun k => g (g' k) (decide (k = r))) 64 : Nat) : Int)) (hg : ∀ b, g b false = b) :
    ((if (decide (0 ≤ x) && decide (x < (n : Int))) = true then if 0 ≤ (IntKind.i64.wrap (Int.tdiv x 64)) ∧ (IntKind.i64.wrap (Int.tdiv x 64)) < (List.length (wordsOf f ((n + 63) / 64)) : Int) then if 0 ≤ (Int.tmod x 64) then if 0 ≤ (IntKind.i64.wrap (Int.tdiv x 64)) ∧ (IntKind.i64.wrap (Int.tdiv x 64)) < (List.length (wordsOf f ((n + 63) / 64)) : Int) then some ((List.set (wordsOf f ((n + 63) / 64)) (Int.toNat (IntKind.i64.wrap (Int.tdiv x 64))) (op (ix (wordsOf f ((n + 63) / 64)) (IntKind.i64.wrap (Int.tdiv x 64))) (shL .u64 1 (Int.tmod x 64))))) else none else none else none else some (wordsOf f ((n + 63) / 64))) : Option (List Int)) =
      some (wordsOf (fun k => g (f k) (decide (k < n) && decide ((k : Int) = x))) ((n + 63) / 64)) := by
  by_cases h : 0 ≤ x ∧ x < (n : Int)
  · obtain ⟨j, rfl⟩ : ∃ j : Nat, x = (j : Int) := ⟨x.toNat, by omega⟩
    have hj : j / 64 < (n + 63) / 64 := by omega
    rw [decide_eq_true h.1, decide_eq_true h.2, Bool.true_and, if_pos rfl, tdiv64, tmod64, w64 (by omega) (by omega), if_pos ⟨by omega, by rw [words_len]; omega⟩, if_pos (by omega), if_pos ⟨by omega, by rw [words_len]; omega⟩, words_ix hj, Int.toNat_natCast]
    unfold wordAt
    rw [hop _ _ (by omega)]
    refine congrArg some (words_set hj _ ?_ ?_)
    rotate_left
    · intro i hi
      have : ¬ ((i : Int) = (j : Int)) := by omega
      simp [this, hg]
    · unfold wordAt
      refine wdN_congr fun k hk => ?_
      congr 1
      by_cases e : k = j % 64
      · have e1 : 64 * (j / 64) + k = j := by omega
        have e2 : j < n := by omega
        rw [e1, decide_eq_true e2, decide_eq_true e, decide_eq_true (rfl : (j : Int) = (j : Int))]
        rfl
      · have e1 : ¬ ((64 * (j / 64) + k : Nat) : Int) = (j : Int) := by omega
        simp only [e, e1, decide_false, Bool.and_false]
  · have hb : (decide (0 ≤ x) && decide (x < (n : Int))) = false := by
      by_cases h0 : 0 ≤ x
      · rw [decide_eq_false (fun q => h ⟨h0, q⟩), Bool.and_false]
      · rw [decide_eq_false h0, Bool.false_and]
    rw [hb, if_neg (by decide)]
    refine congrArg some (words_congr fun k _ => ?_)
    have : (decide (k < n) && decide ((k : Int) = x)) = false := by
      by_cases e : (k : Int) = x
      · have : ¬ k < n := by omega
        simp [this]
      · simp [e]
    rw [this, hg]
theorem add_eq {fu n : Nat} {f : Nat → Bool} {l : List Int} (hn : n ≤ 100000) (hl : l.length ≤ 100000) (hf : l.length < fu) : bits_Set_Add.f fu (setOf n f) l = some (setOf n (addF n f l)) := by
  unfold bits_Set_Add.f
  have : loopM (bits_Set_Add.s0 fu (setOf n f) l) fu (0, (setOf n f).words) = some (wordsOf (addF n f l) ((n + 63) / 64)) := by
    refine loopM_run (S := fun j => ((j : Int), wordsOf (addF n f (l.take j)) ((n + 63) / 64))) l.length ?_ ?_ ?_ hf
    · simp only [show wordsOf (addF n f (l.take 0)) ((n + 63) / 64) = wordsOf f ((n + 63) / 64) from words_congr fun k _ => by simp [addF]]
      rfl
    · intro j hj
      unfold bits_Set_Add.s0
      have c1 : 0 ≤ (j : Int) ∧ (j : Int) < (l.length : Int) := by omega
      simp only
      rw [decide_eq_true c1.2, if_pos rfl, if_pos c1, ix_nat hj, may_b, next64 hj (by omega)]
      simp only [Option.bind_some]
      rw [show (setOf n f).size = (n : Int) from rfl, one_eq (fu := fu) hn (bOr .u64) (fun a b => a || b) (fun g r hr => or_wd hr) (by simp)]
      simp only [Option.bind_some]
      rw [words_congr fun k _ => show _ = addF n f (l.take (j + 1)) k from ?_]
      simp only [addF, take_next hj, List.mem_append, List.mem_singleton]
      cases f k <;> cases decide (k < n) <;> simp
    · unfold bits_Set_Add.s0
      rw [decide_eq_false (show ¬ ((l.length : Int) < (l.length : Int)) by omega), if_neg (by decide), List.take_length]
  rw [this]
  rfl
theorem dropp_eq {fu n : Nat} {f : Nat → Bool} {l : List Int} (hn : n ≤ 100000) (hl : l.length ≤ 100000) (hf : l.length < fu) (hlow : Low n f) : bits_Set_Drop.f fu (setOf n f) l = some (setOf n (dropF f l)) := by
  unfold bits_Set_Drop.f
  have : loopM (bits_Set_Drop.s0 fu (setOf n f) l) fu (0, (setOf n f).words) = some (wordsOf (dropF f l) ((n + 63) / 64)) := by
    refine loopM_run (S := fun j => ((j : Int), wordsOf (dropF f (l.take j)) ((n + 63) / 64))) l.length ?_ ?_ ?_ hf
    · simp only [show wordsOf (dropF f (l.take 0)) ((n + 63) / 64) = wordsOf f ((n + 63) / 64) from words_congr fun k _ => by simp [dropF]]
      rfl
    · intro j hj
      unfold bits_Set_Drop.s0
      have c1 : 0 ≤ (j : Int) ∧ (j : Int) < (l.length : Int) := by omega
      simp only
      rw [decide_eq_true c1.2, if_pos rfl, if_pos c1, ix_nat hj, may_b, next64 hj (by omega)]
      simp only [Option.bind_some]
      rw [show (setOf n f).size = (n : Int) from rfl, one_eq (fu := fu) hn (bNot .u64) (fun a b => a && !b) (fun g r hr => not_wd hr) (by simp)]
      simp only [Option.bind_some]
      rw [words_congr fun k _ => show _ = dropF f (l.take (j + 1)) k from ?_]
      simp only [dropF, take_next hj, List.mem_append, List.mem_singleton]
      by_cases hk : k < n
      · cases f k <;> simp [hk]
      · have : f k = false := by
          cases e : f k
          · rfl
          · exact absurd (hlow k e) hk
        simp [this]
    · unfold bits_Set_Drop.s0
      rw [decide_eq_false (show ¬ ((l.length : Int) < (l.length : Int)) by omega), if_neg (by decide), List.take_length]
  rw [this]
  rfl
theorem cnt_low {f : Nat → Bool} {n m : Nat} (h : Low n f) (hm : n ≤ m) : cnt f m = cnt f n := by
  obtain ⟨k, rfl⟩ : ∃ k, m = n + k := ⟨m - n, by omega⟩
  rw [cnt_add]
  have : cnt (fun k => f (n + k)) k = 0 := by
    unfold cnt
    rw [List.length_eq_zero_iff, List.filter_eq_nil_iff]
    intro i _ hi
    have := h _ hi
    omega
  omega
theorem count_eq {fu n : Nat} {f : Nat → Bool} (hn : n ≤ 100000) (hf : n < fu) (hlow : Low n f) : bits_Set_Count.f fu (setOf n f) = some ((cnt f n : Nat) : Int) := by
  unfold bits_Set_Count.f
  have hle : ∀ j, cnt f (64 * j) ≤ 64 * j := fun j => by
    unfold cnt
    exact Nat.le_trans (List.length_filter_le _ _) (by simp)
  have : loopM (bits_Set_Count.s0 fu (setOf n f)) fu (0, 0) = some ((cnt f (64 * ((n + 63) / 64)) : Nat) : Int) := by
    refine loopM_run (S := fun j => (((cnt f (64 * j) : Nat) : Int), (j : Int))) ((n + 63) / 64) (by simp [cnt]) ?_ ?_ (by omega)
    · intro j hj
      unfold bits_Set_Count.s0
      have hw : (setOf n f).words = wordsOf f ((n + 63) / 64) := rfl
      have c1 : 0 ≤ (j : Int) ∧ (j : Int) < ((wordsOf f ((n + 63) / 64)).length : Int) := by rw [words_len]; omega
      simp only [hw]
      rw [decide_eq_true c1.2, if_pos rfl, if_pos c1, words_ix hj, show bits_OnesCount64.f fu ((wordAt f j : Nat) : Int) = _ from ones_eq (wdN_lt _ 64), next64 hj (by omega)]
      simp only [Option.bind_some]
      have hc : cnt (fun k => (wordAt f j).testBit k) 64 = cnt (fun k => f (64 * j + k)) 64 := by
        refine cnt_congr fun k hk => ?_
        unfold wordAt
        rw [wdN_bit]
        simp [hk]
      have h1 := hle j
      have h2 := hle (j + 1)
      rw [hc, ← Int.natCast_add, ← cnt_add, show 64 * j + 64 = 64 * (j + 1) by omega, w64 (by omega) (by omega)]
    · unfold bits_Set_Count.s0
      have hw : (setOf n f).words = wordsOf f ((n + 63) / 64) := rfl
      simp only [hw]
      rw [words_len, decide_eq_false (by omega), if_neg (by decide)]
  rw [this, cnt_low hlow (by omega)]
  rfl
theorem filter_first {p q : Nat → Bool} {k n : Nat} (hk : k < n) (h1 : ∀ j, j < k → p j = false) (h2 : p k = true) (h3 : ∀ j, k < j → p j = q j) (h4 : ∀ j, j ≤ k → q j = false) : (List.range n).filter p = k :: (List.range n).filter q := by
  obtain ⟨m, rfl⟩ : ∃ m, n = k + 1 + m := ⟨n - (k + 1), by omega⟩
  have e1 : (List.range k).filter p = [] := by
    rw [List.filter_eq_nil_iff]
    intro j hj
    rw [h1 j (List.mem_range.1 hj)]
    decide
  have e2 : (List.range (k + 1)).filter q = [] := by
    rw [List.filter_eq_nil_iff]
    intro j hj
    rw [h4 j (by have := List.mem_range.1 hj; omega)]
    decide
  rw [List.range_add, List.filter_append, List.filter_append, e2, List.range_succ, List.filter_append, e1]
  simp only [List.filter_cons, h2, if_true, List.filter_nil, List.nil_append, List.cons_append, List.cons.injEq, true_and]
  apply List.filter_congr
  intro j hj
  obtain ⟨i, _, rfl⟩ := List.mem_map.1 hj
  exact h3 _ (by omega)
theorem low_bits {k q : Nat} (h : 2 ^ k * (2 * q + 1) < 2 ^ 64) : (List.range 64).filter (fun r => (2 ^ k * (2 * q + 1)).testBit r) = k :: (List.range 64).filter (fun r => (2 ^ k * (2 * q)).testBit r) := by
  refine filter_first (low_neg h).1 (fun j hj => ?_) ?_ (fun j hj => ?_) (fun j hj => ?_)
  · rw [tb0, if_pos hj]
  · rw [tb0, if_neg (by omega), Nat.sub_self, Nat.testBit_zero]
    simp
  · rw [tb0, tb0, if_neg (by omega), if_neg (by omega)]
    obtain ⟨m, hm⟩ : ∃ m, j - k = m + 1 := ⟨j - k - 1, by omega⟩
    rw [hm, Nat.testBit_succ, Nat.testBit_succ, show (2 * q + 1) / 2 = q by omega, show 2 * q / 2 = q by omega]
  · rw [tb0]
    split
    · rfl
    · rw [show j - k = 0 by omega, Nat.testBit_zero]
      simp
theorem list_in {fu i : Nat} {s : List Int × Int} (hs : s.2 = (i : Int)) (hi : i ≤ 100000) : ∀ (c x k : Nat) (acc : List Int), x < 2 ^ 64 → ((List.range 64).filter fun r => x.testBit r).length = c → c < k → acc.length + c ≤ 1000000 →
    loopM (bits_Set_List.s1 fu s) k (acc, (x : Int)) = some (acc ++ ((List.range 64).filter fun r => x.testBit r).map fun r => ((64 * i + r : Nat) : Int))
  | c, x, 0, acc, hx, hc, hk, ha => by omega
  | c, x, k + 1, acc, hx, hc, hk, ha => by
    unfold loopM
    by_cases e : x = 0
    · subst e
      have : bits_Set_List.s1 fu s (acc, ((0 : Nat) : Int)) = some (.inl acc) := by
        unfold bits_Set_List.s1
        rfl
      rw [this]
      simp
    · obtain ⟨t, q, hx'⟩ := low_split e
      rw [hx'] at hx hc ⊢
      have hl := low_bits hx
      have ht := (low_neg hx).1
      have h0 : ¬ ((2 ^ t * (2 * q + 1) : Nat) : Int) = 0 := by
        intro z
        rw [← hx'] at z
        omega
      have hpos : 0 < 2 ^ t * (2 * q + 1) := by omega
      have hlt : 2 ^ t * (2 * q) < 2 ^ 64 := Nat.lt_of_le_of_lt (Nat.mul_le_mul_left _ (by omega)) hx
      have hw : IntKind.u64.wrap (((2 ^ t * (2 * q + 1) : Nat) : Int) - 1) = ((2 ^ t * (2 * q + 1) - 1 : Nat) : Int) := by
        have : ((2 ^ t * (2 * q + 1) : Nat) : Int) - 1 = ((2 ^ t * (2 * q + 1) - 1 : Nat) : Int) := by omega
        rw [this]
        exact wrap_nat (by omega)
      have hst : bits_Set_List.s1 fu s (acc, ((2 ^ t * (2 * q + 1) : Nat) : Int)) = some (.inr (acc ++ [((64 * i + t : Nat) : Int)], ((2 ^ t * (2 * q) : Nat) : Int))) := by
        unfold bits_Set_List.s1
        simp only
        rw [decide_eq_false h0, Bool.not_false, if_pos rfl, tz_eq hx]
        simp only [Option.bind_some]
        rw [hs, w64 (n := (i : Int) * 64) (by omega) (by omega), w64 (by omega) (by omega), hw, and64 hx (by omega), low_and, show (i : Int) * 64 + (t : Int) = ((64 * i + t : Nat) : Int) by omega]
        rw [if_pos (Nat.le_trans (by simp only [List.length_cons, List.length_nil]; omega : _ ≤ 1000001) (by decide))]
      rw [hst, hl]
      rw [hl, List.length_cons] at hc
      have ih := list_in (fu := fu) hs hi (c - 1) (2 ^ t * (2 * q)) k (acc ++ [((64 * i + t : Nat) : Int)]) hlt (by omega) (by omega) (by simp only [List.length_append, List.length_cons, List.length_nil]; omega)
      simp only
      rw [ih]
      simp
theorem els_add (f : Nat → Bool) (m n : Nat) : els (m + n) f = els m f ++ ((List.range n).filter fun k => f (m + k)).map fun k => ((m + k : Nat) : Int) := by
  unfold els
  rw [List.range_add, List.filter_append, List.map_append, List.filter_map, List.map_map]
  rfl
theorem els_len (n : Nat) (f : Nat → Bool) : (els n f).length = cnt f n := by simp [els, cnt]
theorem els_low {f : Nat → Bool} {n m : Nat} (h : Low n f) (hm : n ≤ m) : els m f = els n f := by
  obtain ⟨k, rfl⟩ : ∃ k, m = n + k := ⟨m - n, by omega⟩
  rw [els_add]
  have : (List.range k).filter (fun k => f (n + k)) = [] := by
    rw [List.filter_eq_nil_iff]
    intro i _ hi
    have := h _ hi
    omega
  rw [this]
  simp
theorem cnt_le (f : Nat → Bool) (n : Nat) : cnt f n ≤ n := by
  unfold cnt
  exact Nat.le_trans (List.length_filter_le _ _) (by simp)
theorem list_eq {fu n : Nat} {f : Nat → Bool} (hn : n ≤ 100000) (hf : n + 64 < fu) (hlow : Low n f) : bits_Set_List.f fu (setOf n f) = some (els n f) := by
  unfold bits_Set_List.f
  have : loopM (bits_Set_List.s0 fu (setOf n f)) fu ([], 0) = some (els (64 * ((n + 63) / 64)) f) := by
    refine loopM_run (S := fun j => (els (64 * j) f, (j : Int))) ((n + 63) / 64) (by simp [els]) ?_ ?_ (by omega)
    · intro j hj
      unfold bits_Set_List.s0
      have hw : (setOf n f).words = wordsOf f ((n + 63) / 64) := rfl
      have c1 : 0 ≤ (j : Int) ∧ (j : Int) < ((wordsOf f ((n + 63) / 64)).length : Int) := by rw [words_len]; omega
      simp only [hw]
      have hb : ((List.range 64).filter fun r => (wordAt f j).testBit r) = (List.range 64).filter fun r => f (64 * j + r) := by
        apply List.filter_congr
        intro r hr
        unfold wordAt
        rw [wdN_bit]
        simp [List.mem_range.1 hr]
      have hle : ((List.range 64).filter fun r => (wordAt f j).testBit r).length ≤ 64 := Nat.le_trans (List.length_filter_le _ _) (by simp)
      have hel : (els (64 * j) f).length ≤ 64 * j := by rw [els_len]; exact cnt_le _ _
      rw [decide_eq_true c1.2, if_pos rfl, if_pos c1, words_ix hj, list_in (fu := fu) (i := j) (s := (els (64 * j) f, (j : Int))) rfl (by omega) _ (wordAt f j) fu (els (64 * j) f) (wdN_lt _ 64) rfl (by omega) (by omega), next64 hj (by omega)]
      simp only [Option.bind_some]
      rw [hb, ← els_add, show 64 * j + 64 = 64 * (j + 1) by omega]
    · unfold bits_Set_List.s0
      have hw : (setOf n f).words = wordsOf f ((n + 63) / 64) := rfl
      simp only [hw]
      rw [words_len, decide_eq_false (by omega), if_neg (by decide)]
  rw [this, els_low hlow (by omega)]
  rfl
theorem mem_els {n k : Nat} {f : Nat → Bool} : (k : Int) ∈ els n f ↔ k < n ∧ f k = true := by
  unfold els
  rw [List.mem_map]
  constructor
  · rintro ⟨i, hi, e⟩
    have : i = k := by omega
    subst this
    obtain ⟨h1, h2⟩ := List.mem_filter.1 hi
    exact ⟨List.mem_range.1 h1, h2⟩
  · rintro ⟨h1, h2⟩
    exact ⟨k, List.mem_filter.2 ⟨List.mem_range.2 h1, h2⟩, rfl⟩
theorem clone_eq {fu n : Nat} {f : Nat → Bool} (hn : n ≤ 100000) : bits_Set_clone.f fu (setOf n f) = some (setOf n f) := by
  unfold bits_Set_clone.f slices_Clone.f
  rw [show (setOf n f).words = wordsOf f ((n + 63) / 64) from rfl, words_len, if_pos (Nat.le_trans (by omega : _ ≤ 1000000) (by decide))]
  rfl
theorem with_eq {fu n : Nat} {f g : Nat → Bool} (hn : n ≤ 90000) (hf : n + 64 < fu) (hg : Low n g) : bits_Set_With.f fu (setOf n f) (setOf n g) = some (setOf n fun k => f k || g k) := by
  unfold bits_Set_With.f
  have hl := cnt_le g n
  rw [clone_eq (by omega), list_eq (by omega) hf hg]
  simp only [Option.bind_some]
  rw [add_eq (by omega) (by rw [els_len]; omega) (by rw [els_len]; omega)]
  refine congrArg some (set_congr fun k => ?_)
  unfold addF
  congr 1
  rw [Bool.eq_iff_iff]
  simp only [Bool.and_eq_true, decide_eq_true_eq, mem_els]
  exact ⟨fun h => h.2.2, fun h => ⟨hg k h, hg k h, h⟩⟩
theorem with1_eq {fu n : Nat} {f : Nat → Bool} (hn : n ≤ 90000) (hf : n + 64 < fu) (hg : Low n f) : bits_Set_With_a1.f fu (setOf n f) = some (setOf n f) := by
  have h := with_eq (fu := fu) (f := f) hn hf hg
  unfold bits_Set_With.f at h
  unfold bits_Set_With_a1.f
  rw [h]
  refine congrArg some (set_congr fun k => ?_)
  simp
theorem gap_eq {fu n k : Nat} {f : Nat → Bool} (hn : n ≤ 100000) (hf : n < fu) (hk : k < n) (h0 : f k = false) (h1 : ∀ i, i < k → f i = true) : bits_Set_Gap.f fu (setOf n f) 0 = some (k : Int) := by
  unfold bits_Set_Gap.f
  have : loopM (bits_Set_Gap.s0 fu (setOf n f)) fu (mxI 0 0) = some (.inl (k : Int)) := by
    refine loopM_run (S := fun j => ((j : Nat) : Int)) k (by rfl) ?_ ?_ (by omega)
    · intro j hj
      unfold bits_Set_Gap.s0
      rw [show (setOf n f).size = (n : Int) from rfl, decide_eq_true (by omega), if_pos rfl, has_eq hn, next64 (n := n) (by omega) hn]
      have : hasI n f (j : Int) = true := by
        unfold hasI
        rw [decide_eq_true (by omega), decide_eq_true (by omega), Int.toNat_natCast, h1 j hj]
        rfl
      simp [this]
    · unfold bits_Set_Gap.s0
      rw [show (setOf n f).size = (n : Int) from rfl, decide_eq_true (by omega), if_pos rfl, has_eq hn]
      have : hasI n f (k : Int) = false := by
        unfold hasI
        rw [Int.toNat_natCast, h0]
        simp
      simp [this]
  rw [this]
  rfl
theorem of_eq {fu n : Nat} {l : List Int} (hn : n ≤ 3072) (hl : l.length ≤ 100000) (hf : l.length < fu) : bits_Of.f fu (n : Int) l = some (setOf n (addF n (fun _ => false) l)) := by
  unfold bits_Of.f
  have e1 : mnI (mxI (n : Int) 0) 3072 = (n : Int) := by
    unfold mxI mnI
    rw [if_neg (by omega)]
    split <;> omega
  have e2 : IntKind.i64.wrap (Int.tdiv (IntKind.i64.wrap ((IntKind.i64.wrap ((n : Int) + 64)) - 1)) 64) = (((n + 63) / 64 : Nat) : Int) := by
    rw [w64 (n := (n : Int) + 64) (by omega) (by omega), w64 (n := (n : Int) + 64 - 1) (by omega) (by omega), show (n : Int) + 64 - 1 = ((n + 63 : Nat) : Int) by omega, tdiv64, w64 (by omega) (by omega)]
  rw [e1, e2, if_pos ⟨by omega, Nat.le_trans (by omega : _ ≤ 100000) (by decide)⟩, Int.toNat_natCast]
  have e3 : (⟨(n : Int), List.replicate ((n + 63) / 64) (0 : Int)⟩ : S_bits_Set) = setOf n fun _ => false := by
    unfold setOf
    congr 1
    apply List.ext_getElem (by simp [wordsOf])
    intro i h1 h2
    have : wordAt (fun _ => false) i = 0 := by
      apply Nat.eq_of_testBit_eq
      intro k
      unfold wordAt
      rw [wdN_bit]
      simp
    simp [wordsOf, this]
  rw [e3, add_eq (by omega) hl hf]
  rfl
structure AA where
  r : Int
  c : Nat → Bool
  e : Nat → Bool
  m : Nat → Bool
  w : Nat → Bool
noncomputable def AA.of (n : Nat) (a : AA) : S_alloc_Alloc := ⟨a.r, (setOf n a.c, setOf n a.e, setOf n a.m, setOf n a.w)⟩
structure AOk (n : Nat) (a : AA) : Prop where
  c : Low n a.c
  e : Low n a.e
  m : Low n a.m
  w : Low n a.w
  r : 0 ≤ a.r ∧ a.r ≤ 1000
def AA.held (a : AA) : Nat → Bool := fun k => ((a.w k || a.c k) || a.e k) || a.m k
def AA.free (n : Nat) (a : AA) : List Nat := (List.range n).filter fun k => !a.held k
def AA.least (n : Nat) (a : AA) : Nat := (a.free n).headD 0
def AA.setW (a : AA) (w : Nat → Bool) : AA := ⟨a.r, a.c, a.e, a.m, w⟩
def AA.put (n : Nat) (a : AA) (k : Nat) : AA := a.setW (addF n a.w [(k : Int)])
def AA.cut (a : AA) (k : Int) : AA := a.setW (dropF a.w [k])
def AA.mark (a : AA) : AA := ⟨a.r, a.c, a.e, a.w, a.w⟩
def AA.back (a : AA) : AA := ⟨a.r, a.c, a.e, a.m, a.m⟩
def AA.commit (a : AA) : AA := ⟨a.r, a.w, a.c, a.w, a.w⟩
def AA.abort (a : AA) : AA := ⟨a.r, a.c, a.e, a.c, a.c⟩
def AA.give (n : Nat) (a : AA) (k : Int) : Int × AA := if hasI n a.w k = true then (0, a.cut k) else (2, a)
def AA.own (n : Nat) (a : AA) (k : Int) : Bool := hasI n a.w k && !hasI n a.m k
def AA.take (n : Nat) (a : AA) : Int × Int × AA := if ((a.free n).length : Int) ≤ a.r then (0, 10, a) else ((a.least n : Int), 0, a.put n (a.least n))
theorem copied_eq {fu n : Nat} {f : Nat → Bool} (hn : n ≤ 90000) (hf : n + 64 < fu) (h : Low n f) : alloc_copied.f fu (setOf n f) = some (setOf n f) := by
  unfold alloc_copied.f
  rw [with1_eq hn hf h]
  rfl
theorem Low.or {n : Nat} {f g : Nat → Bool} (hf : Low n f) (hg : Low n g) : Low n (fun k => f k || g k) := by
  intro k h
  rcases Bool.or_eq_true_iff.1 h with h | h
  · exact hf k h
  · exact hg k h
theorem addF_low {n : Nat} {f : Nat → Bool} {l : List Int} (h : Low n f) : Low n (addF n f l) := by
  intro k hk
  unfold addF at hk
  rcases Bool.or_eq_true_iff.1 hk with h' | h'
  · exact h k h'
  · exact of_decide_eq_true (Bool.and_eq_true_iff.1 h').1
theorem dropF_low {n : Nat} {f : Nat → Bool} {l : List Int} (h : Low n f) : Low n (dropF f l) := fun k hk => h k (Bool.and_eq_true_iff.1 hk).1
theorem held_low {n : Nat} {a : AA} (h : AOk n a) : Low n a.held := ((h.w.or h.c).or h.e).or h.m
theorem held_eq {fu n : Nat} {a : AA} (hn : n ≤ 90000) (hf : n + 64 < fu) (h : AOk n a) : alloc_Alloc_held.f fu (a.of n) = some (setOf n a.held) := by
  unfold alloc_Alloc_held.f AA.of
  simp only
  rw [copied_eq hn hf h.w]
  simp only [Option.bind_some]
  rw [with_eq hn hf h.c]
  simp only [Option.bind_some]
  rw [with_eq hn hf h.e]
  simp only [Option.bind_some]
  rw [with_eq hn hf h.m]
  rfl
theorem cnt_not (f : Nat → Bool) : ∀ n, cnt f n + ((List.range n).filter fun k => !f k).length = n
  | 0 => rfl
  | n + 1 => by
    have := cnt_not f n
    unfold cnt at *
    rw [List.range_succ, List.filter_append, List.filter_append, List.length_append, List.length_append]
    cases h : f n <;> simp [h] <;> omega
theorem free_len (n : Nat) (a : AA) : ((a.free n).length : Int) = (n : Int) - ((cnt a.held n : Nat) : Int) := by
  have := cnt_not a.held n
  unfold AA.free
  omega
theorem filter_head {p : Nat → Bool} : ∀ {n : Nat}, ((List.range n).filter p).length ≠ 0 → ((List.range n).filter p).headD 0 < n ∧ p (((List.range n).filter p).headD 0) = true ∧ ∀ i, i < ((List.range n).filter p).headD 0 → p i = false
  | 0, h => absurd rfl h
  | n + 1, h => by
    rw [List.range_succ, List.filter_append] at h ⊢
    cases e : (List.range n).filter p with
    | nil =>
      rw [e] at h
      have hn : ∀ i, i < n → p i = false := by
        intro i hi
        have := List.filter_eq_nil_iff.1 e i (List.mem_range.2 hi)
        simpa using this
      cases hp : p n
      · simp [hp] at h
      · have e2 : [n].filter p = [n] := by simp [hp]
        rw [e2]
        exact ⟨by simp, hp, hn⟩
    | cons x l =>
      have := filter_head (p := p) (n := n) (by rw [e]; simp)
      rw [e] at this
      simp only [List.headD_cons, List.cons_append] at this ⊢
      exact ⟨by omega, this.2⟩
theorem least_ok {n : Nat} {a : AA} (h : (a.free n).length ≠ 0) : a.least n < n ∧ a.held (a.least n) = false ∧ ∀ i, i < a.least n → a.held i = true := by
  have := filter_head (p := fun k => !a.held k) (n := n) h
  simpa [AA.least, AA.free] using this
theorem take_eq {fu n : Nat} {a : AA} (hn : n ≤ 90000) (hf : n + 64 < fu) (h : AOk n a) : alloc_Alloc_Take.f fu (a.of n) = some ((a.take n).1, (a.take n).2.1, (a.take n).2.2.of n) := by
  have hr := h.r
  have hc := cnt_le a.held n
  have hfl := free_len n a
  unfold alloc_Alloc_Take.f alloc_Alloc_take.f
  rw [held_eq hn hf h]
  simp only [Option.bind_some, bits_Set_Size.f]
  rw [count_eq (by omega) (by omega) (held_low h)]
  simp only [Option.bind_some]
  rw [show (setOf n a.held).size = (n : Int) from rfl, w64 (by omega) (by omega), ← hfl, show (a.of n).reserve = a.r from rfl]
  unfold AA.take
  by_cases e : ((a.free n).length : Int) ≤ a.r
  · rw [decide_eq_true e, if_pos rfl, if_pos e]
    rfl
  · rw [decide_eq_false e, if_neg (by decide), if_neg e]
    obtain ⟨h1, h2, h3⟩ := least_ok (n := n) (a := a) (by omega)
    rw [gap_eq (by omega) (by omega) h1 h2 h3]
    simp only [Option.bind_some]
    rw [show (a.of n).sets.2.2.2 = setOf n a.w from rfl, add_eq (by omega) (by simp) (by simp; omega)]
    rfl
theorem give_eq {fu n : Nat} {a : AA} {k : Int} (hn : n ≤ 90000) (hf : n + 64 < fu) (h : AOk n a) : alloc_Alloc_Give.f fu (a.of n) k = some ((a.give n k).1, (a.give n k).2.of n) := by
  unfold alloc_Alloc_Give.f AA.give
  rw [show (a.of n).sets.2.2.2 = setOf n a.w from rfl, has_eq (by omega)]
  simp only [Option.bind_some]
  cases hasI n a.w k
  · rfl
  · rw [if_neg (by decide), if_pos rfl, dropp_eq (by omega) (by simp) (by simp; omega) h.w]
    rfl
theorem own_eq {fu n : Nat} {a : AA} {k : Int} (hn : n ≤ 90000) : alloc_Alloc_Own.f fu (a.of n) k = some (a.own n k) := by
  unfold alloc_Alloc_Own.f AA.own
  rw [show (a.of n).sets.2.2.2 = setOf n a.w from rfl, show (a.of n).sets.2.2.1 = setOf n a.m from rfl, has_eq (by omega)]
  simp only [Option.bind_some]
  cases hasI n a.w k
  · rfl
  · rw [if_pos rfl, has_eq (by omega)]
    rfl
theorem mark_eq {fu n : Nat} {a : AA} (hn : n ≤ 90000) (hf : n + 64 < fu) (h : AOk n a) : alloc_Alloc_Mark.f fu (a.of n) = some (a.mark.of n) := by
  unfold alloc_Alloc_Mark.f alloc_Alloc_become_c2_c3.f
  rw [show (a.of n).sets.2.2.2 = setOf n a.w from rfl, copied_eq hn hf h.w]
  rfl
theorem back_eq {fu n : Nat} {a : AA} (hn : n ≤ 90000) (hf : n + 64 < fu) (h : AOk n a) : alloc_Alloc_Back.f fu (a.of n) = some (a.back.of n) := by
  unfold alloc_Alloc_Back.f alloc_Alloc_become_c3_c2.f
  rw [show (a.of n).sets.2.2.1 = setOf n a.m from rfl, copied_eq hn hf h.m]
  rfl
theorem abort_eq {fu n : Nat} {a : AA} (hn : n ≤ 90000) (hf : n + 64 < fu) (h : AOk n a) : alloc_Alloc_Abort.f fu (a.of n) = some (a.abort.of n) := by
  unfold alloc_Alloc_Abort.f alloc_Alloc_become_c3_c0.f
  rw [show (a.of n).sets.1 = setOf n a.c from rfl, copied_eq hn hf h.c]
  simp only [Option.bind_some]
  rw [show (⟨(a.of n).reserve, (setOf n a.c, (a.of n).sets.2.1, (a.of n).sets.2.2.1, setOf n a.c)⟩ : S_alloc_Alloc) = (a.setW a.c).of n from rfl, mark_eq (a := a.setW a.c) hn hf ⟨h.c, h.e, h.m, h.c, h.r⟩]
  rfl
theorem commit_eq {fu n : Nat} {a : AA} (hn : n ≤ 90000) (hf : n + 64 < fu) (h : AOk n a) : alloc_Alloc_Commit.f fu (a.of n) = some (a.commit.of n) := by
  unfold alloc_Alloc_Commit.f alloc_Alloc_become_c1_c0.f alloc_Alloc_become_c0_c3.f
  rw [show (a.of n).sets.1 = setOf n a.c from rfl, copied_eq hn hf h.c]
  simp only [Option.bind_some]
  rw [show (a.of n).sets.2.2.2 = setOf n a.w from rfl, copied_eq hn hf h.w]
  simp only [Option.bind_some]
  rw [show (⟨(a.of n).reserve, (setOf n a.w, setOf n a.c, (a.of n).sets.2.2.1, setOf n a.w)⟩ : S_alloc_Alloc) = (⟨a.r, a.w, a.c, a.m, a.w⟩ : AA).of n from rfl, mark_eq (a := ⟨a.r, a.w, a.c, a.m, a.w⟩) hn hf ⟨h.w, h.c, h.m, h.w, h.r⟩]
  rfl
theorem works_eq {fu n : Nat} {a : AA} (hn : n ≤ 90000) (hf : n + 64 < fu) (h : AOk n a) : alloc_Alloc_Works.f fu (a.of n) = some (setOf n a.w) := by
  unfold alloc_Alloc_Works.f
  rw [show (a.of n).sets.2.2.2 = setOf n a.w from rfl, copied_eq hn hf h.w]
  rfl
theorem anew_eq {fu n : Nat} {f g : Nat → Bool} {r : Int} (hn : n ≤ 90000) (hf : n + 64 < fu) (h1 : Low n f) (h2 : Low n g) (hr : 0 ≤ r) : alloc_New.f fu (setOf n f) (setOf n g) r = some (some ((⟨r, f, g, f, f⟩ : AA).of n), 0) := by
  unfold alloc_New.f bits_Set_Size.f
  simp only [Option.bind_some]
  rw [show (setOf n f).size = (n : Int) from rfl, show (setOf n g).size = (n : Int) from rfl, decide_eq_true (rfl : (n : Int) = (n : Int)), if_neg (by decide), decide_eq_false (show ¬ r < 0 by omega), if_neg (by decide), copied_eq hn hf h2, copied_eq hn hf h1]
  rfl
theorem take_ok {n : Nat} {a : AA} (h : AOk n a) : AOk n (a.take n).2.2 := by
  unfold AA.take
  split
  · exact h
  · exact ⟨h.c, h.e, h.m, addF_low h.w, h.r⟩
theorem give_ok {n : Nat} {a : AA} {k : Int} (h : AOk n a) : AOk n (a.give n k).2 := by
  unfold AA.give
  split
  · exact ⟨h.c, h.e, h.m, dropF_low h.w, h.r⟩
  · exact h
theorem mark_ok {n : Nat} {a : AA} (h : AOk n a) : AOk n a.mark := ⟨h.c, h.e, h.w, h.w, h.r⟩
theorem back_ok {n : Nat} {a : AA} (h : AOk n a) : AOk n a.back := ⟨h.c, h.e, h.m, h.m, h.r⟩
theorem abort_ok {n : Nat} {a : AA} (h : AOk n a) : AOk n a.abort := ⟨h.c, h.e, h.c, h.c, h.r⟩
theorem commit_ok {n : Nat} {a : AA} (h : AOk n a) : AOk n a.commit := ⟨h.w, h.c, h.w, h.w, h.r⟩
def upd {α : Type} (g : Nat → α → α) (lo j : Nat) (cs : List α) : List α := cs.mapIdx fun i c => if lo ≤ i ∧ i < lo + j then g i c else c
theorem upd_len {α : Type} (g : Nat → α → α) (lo j : Nat) (cs : List α) : (upd g lo j cs).length = cs.length := by simp [upd]
theorem upd_zero {α : Type} (g : Nat → α → α) (lo : Nat) (cs : List α) : upd g lo 0 cs = cs := by
  apply List.ext_getElem (by simp [upd])
  intro i h1 h2
  simp only [upd, List.getElem_mapIdx]
  rw [if_neg (by omega)]
theorem upd_get {α : Type} (g : Nat → α → α) (lo j : Nat) (cs : List α) (i : Nat) (h : i < (upd g lo j cs).length) : (upd g lo j cs)[i] = if lo ≤ i ∧ i < lo + j then g i (cs[i]'(by simpa [upd] using h)) else cs[i]'(by simpa [upd] using h) := by
  simp only [upd, List.getElem_mapIdx]
theorem upd_next {α : Type} (g : Nat → α → α) (lo j : Nat) (cs : List α) (h : lo + j < cs.length) : (upd g lo j cs)[lo + j]'(by rw [upd_len]; exact h) = cs[lo + j] := by
  rw [upd_get, if_neg (by omega)]
theorem upd_set {α : Type} (g : Nat → α → α) (lo j : Nat) (cs : List α) (h : lo + j < cs.length) : (upd g lo j cs).set (lo + j) (g (lo + j) cs[lo + j]) = upd g lo (j + 1) cs := by
  apply List.ext_getElem (by simp [upd])
  intro i h1 h2
  rw [List.getElem_set, upd_get g lo (j + 1)]
  by_cases e : lo + j = i
  · subst e
    rw [if_pos rfl, if_pos (by omega)]
  · rw [if_neg e, upd_get]
    by_cases c : lo ≤ i ∧ i < lo + j
    · rw [if_pos c, if_pos (by omega)]
    · rw [if_neg c, if_neg (by omega)]
theorem upd_same {α : Type} (g : Nat → α → α) (lo j : Nat) (cs : List α) (h : lo + j < cs.length) (e : g (lo + j) cs[lo + j] = cs[lo + j]) : upd g lo j cs = upd g lo (j + 1) cs := by
  apply List.ext_getElem (by simp [upd])
  intro i h1 h2
  rw [upd_get g lo j, upd_get g lo (j + 1)]
  by_cases e' : lo + j = i
  · subst e'
    rw [if_neg (by omega), if_pos (by omega), e]
  · by_cases c : lo ≤ i ∧ i < lo + j
    · rw [if_pos c, if_pos (by omega)]
    · rw [if_neg c, if_neg (by omega)]
theorem upd_all {α : Type} (g : Nat → α → α) (cs : List α) : upd g 0 cs.length cs = cs.mapIdx g := by
  apply List.ext_getElem (by simp [upd])
  intro i h1 h2
  rw [upd_get, if_pos ⟨by omega, by rw [upd_len] at h1; omega⟩, List.getElem_mapIdx]
theorem getD_set {α : Type} (cs : List α) (i k : Nat) (v d : α) (hi : i < cs.length) : (cs.set i v).getD k d = if i = k then v else cs.getD k d := by
  simp only [List.getD_eq_getElem?_getD, List.getElem?_set]
  by_cases h : i = k
  · subst h
    simp [hi]
  · simp [h]
end Go.Proofs.YtdifnahlheogdaaDoor.Pure
namespace Go.Proofs.YtdifnahlheogdaaDoor
open Go Go.Xw Go.Yw
end Go.Proofs.YtdifnahlheogdaaDoor
namespace Go.Proofs.YtdifnahlheogdaaDoor.Pure
open Go Go.Xw Go.Yw
def lay (v n : Nat) : List Int := (List.range n).map fun i => ((v / 256 ^ i % 256 : Nat) : Int)
theorem lay_len (v n : Nat) : (lay v n).length = n := by simp [lay]
theorem lay_succ (v n : Nat) : lay v (n + 1) = lay v n ++ [((v / 256 ^ n % 256 : Nat) : Int)] := by
  simp [lay, List.range_succ]
theorem wu8_mod {n : Nat} : IntKind.u8.wrap (n : Int) = ((n % 256 : Nat) : Int) := by
  unfold IntKind.wrap
  simp only [IntKind.signed, IntKind.bits]
  simp
theorem shr64 (n : Nat) : shR .u64 (n : Int) 8 = ((n / 256 : Nat) : Int) := by
  unfold shR
  show Int.fdiv (n : Int) (2 ^ min ((8 : Int).toNat) 64) = _
  rw [show (2 : Int) ^ min ((8 : Int).toNat) 64 = 256 from by decide, Int.fdiv_eq_ediv_of_nonneg _ (by decide)]
  omega
theorem wn64 (q : Nat) (h : q < 18446744073709551616) : IntKind.u64.wrap (q : Int) = (q : Int) := wu64 (by omega) (by omega)
theorem tdn (q : Nat) : Int.tdiv (q : Int) 256 = ((q / 256 : Nat) : Int) := by
  rw [Int.tdiv_eq_ediv_of_nonneg (by omega)]
  omega
theorem tmn (q : Nat) : Int.tmod (q : Int) 256 = ((q % 256 : Nat) : Int) := by
  rw [Int.tmod_eq_emod_of_nonneg (by omega)]
  omega
theorem wn8 (q : Nat) : IntKind.u8.wrap ((q % 256 : Nat) : Int) = ((q % 256 : Nat) : Int) := wu8 (by omega) (by omega)
theorem olay_eq {fu v n : Nat} (hn : n ≤ 8) (hf : n < fu) : octet_Lay.f fu (v : Int) (n : Int) = some (lay v n) := by
  unfold octet_Lay.f
  have h0 : ¬ ((n : Int) < 0) := by omega
  have h8 : ¬ ((n : Int) > 8) := by omega
  have hL : Int.toNat (n : Int) ≤ LIM := by
    have : (8 : Nat) ≤ LIM := by decide
    omega
  simp only [h0, h8, decide_false, Bool.false_eq_true, if_false]
  rw [if_pos ⟨by omega, hL⟩]
  have : loopM (octet_Lay.s0 fu (n : Int)) fu ((v : Int), 0, List.replicate (Int.toNat (n : Int)) (0 : Int)) = some (lay v n) := by
    refine loopM_run (S := fun j => (((v / 256 ^ j : Nat) : Int), (j : Int), lay v j ++ List.replicate (n - j) (0 : Int))) n (by simp [lay]) ?_ ?_ hf
    · intro j hj
      unfold octet_Lay.s0
      have w3 : IntKind.i64.wrap ((j : Int) + 1) = ((j + 1 : Nat) : Int) := by rw [w64 (by omega) (by omega)]; omega
      have e1 : (List.replicate (Int.toNat (n : Int)) (0 : Int)).length = n := by simp
      have e2 : (lay v j ++ List.replicate (n - j) (0 : Int)).length = n := by rw [List.length_append, lay_len, List.length_replicate]; omega
      have e3 : List.set (lay v j ++ List.replicate (n - j) (0 : Int)) (Int.toNat (j : Int)) (IntKind.u8.wrap ((v / 256 ^ j : Nat) : Int)) = lay v (j + 1) ++ List.replicate (n - (j + 1)) (0 : Int) := by
        rw [Int.toNat_natCast, List.set_append, if_neg (by rw [lay_len]; omega), lay_len, Nat.sub_self, wu8_mod, lay_succ, show n - j = n - (j + 1) + 1 from by omega, List.replicate_succ]
        simp
      have e4 : shR .u64 ((v / 256 ^ j : Nat) : Int) 8 = ((v / 256 ^ (j + 1) : Nat) : Int) := by
        rw [shr64, Nat.div_div_eq_div_mul, Nat.pow_succ]
      have h1 : (j : Int) < (n : Int) := by omega
      simp only [e1, e2, e3, e4, w3, h1, decide_true, if_true]
      rw [if_pos ⟨by omega, trivial⟩]
    · unfold octet_Lay.s0
      simp
  rw [this]
  rfl
theorem roctet_eq {fu v i : Nat} (hv : v < 18446744073709551616) (hi : i ≤ 1000) (hf : i < fu) : rickyardref01_Octet.f fu (v : Int) (i : Int) = some ((v / 256 ^ i % 256 : Nat) : Int) := by
  unfold rickyardref01_Octet.f
  have : loopM (rickyardref01_Octet.s0 fu (i : Int)) fu ((v : Int), 0) = some ((v / 256 ^ i : Nat) : Int) := by
    refine loopM_run (S := fun j => (((v / 256 ^ j : Nat) : Int), (j : Int))) i (by simp) ?_ ?_ hf
    · intro j hj
      unfold rickyardref01_Octet.s0
      have w3 : IntKind.i64.wrap ((j : Int) + 1) = ((j + 1 : Nat) : Int) := by rw [w64 (by omega) (by omega)]; omega
      have h1 : (j : Int) < (i : Int) := by omega
      have hle : v / 256 ^ j ≤ v := Nat.div_le_self _ _
      have e1 : Int.tdiv ((v / 256 ^ j : Nat) : Int) 256 = ((v / 256 ^ (j + 1) : Nat) : Int) := by
        rw [tdn, Nat.pow_succ, ← Nat.div_div_eq_div_mul]
      have hle2 : v / 256 ^ (j + 1) ≤ v := Nat.div_le_self _ _
      have e2 : IntKind.u64.wrap ((v / 256 ^ (j + 1) : Nat) : Int) = ((v / 256 ^ (j + 1) : Nat) : Int) := wn64 _ (Nat.lt_of_le_of_lt hle2 hv)
      simp only [h1, decide_true, if_true, e1, e2, w3]
    · unfold rickyardref01_Octet.s0
      simp
  rw [this]
  simp only [Option.bind_some, tmn, wn8]
theorem rlay_eq {fu v n : Nat} (hv : v < 18446744073709551616) (hn : n ≤ 8) (hf : n < fu) : rickyardref01_Lay.f fu (v : Int) (n : Int) = some ((lay v n).map toB) := by
  unfold rickyardref01_Lay.f
  have : loopM (rickyardref01_Lay.s0 fu (v : Int) (n : Int)) fu ([], 0) = some ((lay v n).map toB) := by
    refine loopM_run (S := fun j => ((lay v j).map toB, (j : Int))) n (by simp [lay]) ?_ ?_ hf
    · intro j hj
      unfold rickyardref01_Lay.s0
      have w3 : IntKind.i64.wrap ((j : Int) + 1) = ((j + 1 : Nat) : Int) := by rw [w64 (by omega) (by omega)]; omega
      have h1 : (j : Int) < (n : Int) := by omega
      have hlim : ((lay v j).map toB).length + ([((v / 256 ^ j % 256 : Nat) : Int)].map toB).length ≤ LIM := by
        have : (9 : Nat) ≤ LIM := by decide
        simp only [List.length_map, lay_len, List.length_cons, List.length_nil]
        omega
      simp only [h1, decide_true, if_true, roctet_eq (fu := fu) hv (by omega : j ≤ 1000) (by omega), Option.bind_some, w3]
      rw [if_pos hlim, lay_succ, List.map_append]
    · unfold rickyardref01_Lay.s0
      simp
  rw [this]
  rfl
def num : List Int → Nat
  | [] => 0
  | c :: l => c.toNat + 256 * num l
theorem num_append : ∀ (a b : List Int), num (a ++ b) = num a + 256 ^ a.length * num b
  | [], b => by simp [num]
  | c :: a, b => by
    simp only [List.cons_append, num, num_append a b, List.length_cons, Nat.pow_succ]
    rw [Nat.mul_add, Nat.add_assoc, ← Nat.mul_assoc, Nat.mul_comm 256 (256 ^ a.length)]
theorem num_lt : ∀ {l : List Int}, Bytes l → num l < 256 ^ l.length
  | [], _ => by simp [num]
  | c :: l, h => by
    have h1 := h c (by simp)
    have h2 := num_lt (l := l) fun x hx => h x (by simp [hx])
    simp only [num, List.length_cons, Nat.pow_succ]
    omega
theorem or_add (a c j : Nat) (ha : a < 256 ^ j) : a ||| c * 256 ^ j = a + 256 ^ j * c := by
  have e : 256 ^ j = 2 ^ (8 * j) := by rw [Nat.pow_mul]
  rw [e] at ha ⊢
  rw [Nat.mul_comm c, Nat.or_comm, ← Nat.two_pow_add_eq_or_of_lt ha, Nat.add_comm]
theorem read_eq {fu : Nat} {l : List Int} (hb : Bytes l) (hl : l.length ≤ 8) (hf : l.length < fu) : octet_Read.f fu l = some ((num l : Nat) : Int) := by
  unfold octet_Read.f
  have hm : mnI (l.length : Int) 8 = (l.length : Int) := by
    unfold mnI
    split <;> omega
  have hc : cut l 0 (l.length : Int) = l := by
    unfold cut
    simp
  rw [hm, if_pos ⟨by omega, Int.le_refl _⟩]
  have : loopM (octet_Read.s0 fu l) fu (0, 0) = some ((num l : Nat) : Int) := by
    refine loopM_run (S := fun j => (((num (l.take j) : Nat) : Int), (j : Int))) l.length (by simp [num]) ?_ ?_ hf
    · intro j hj
      unfold octet_Read.s0
      rw [hm, hc]
      have h1 : (j : Int) < (l.length : Int) := by omega
      have w3 : IntKind.i64.wrap ((j : Int) + 1) = ((j + 1 : Nat) : Int) := by rw [w64 (by omega) (by omega)]; omega
      have w4 : IntKind.i64.wrap (8 * (j : Int)) = ((8 * j : Nat) : Int) := by rw [w64 (by omega) (by omega)]; omega
      have hcb := hb _ (List.getElem_mem hj)
      obtain ⟨c, hc'⟩ : ∃ c : Nat, l[j] = (c : Int) := ⟨l[j].toNat, by omega⟩
      have hlt : num (l.take j) < 256 ^ j := by
        have := num_lt (l := l.take j) fun x hx => hb x (List.mem_of_mem_take hx)
        rwa [List.length_take, Nat.min_eq_left (by omega)] at this
      have e256 : (256 : Nat) ^ j * 256 ≤ 256 ^ 8 := by
        rw [← Nat.pow_succ]
        exact Nat.pow_le_pow_right (by decide) (by omega)
      have e8 : (256 : Nat) ^ 8 = 18446744073709551616 := by decide
      have hcj : c * 256 ^ j < 18446744073709551616 := by
        have : c * 256 ^ j ≤ 255 * 256 ^ j := Nat.mul_le_mul_right _ (by omega)
        have : 0 < 256 ^ j := Nat.pow_pos (by decide)
        omega
      have e1 : shL .u64 (IntKind.u64.wrap (ix l (j : Int))) ((8 * j : Nat) : Int) = ((c * 256 ^ j : Nat) : Int) := by
        rw [ix_nat hj, hc', wu64 (by omega) (by omega)]
        unfold shL
        rw [Int.toNat_natCast, Nat.min_eq_left (by show 8 * j ≤ 64; omega)]
        have : (c : Int) * 2 ^ (8 * j) = ((c * 256 ^ j : Nat) : Int) := by
          have h256 : ((256 ^ j : Nat) : Int) = 2 ^ (8 * j) := by
            rw [Int.natCast_pow, Int.pow_mul]
            exact congrArg (fun z : Int => z ^ j) (by decide : ((256 : Nat) : Int) = 2 ^ 8)
          rw [Int.natCast_mul, h256]
        rw [this, wu64 (by omega) (by omega)]
      have e2 : bOr .u64 ((num (l.take j) : Nat) : Int) ((c * 256 ^ j : Nat) : Int) = ((num (l.take (j + 1)) : Nat) : Int) := by
        unfold bOr
        show IntKind.u64.wrap (((BitVec.ofInt 64 ((num (l.take j) : Nat) : Int) ||| BitVec.ofInt 64 ((c * 256 ^ j : Nat) : Int)).toNat : Nat) : Int) = _
        rw [BitVec.ofInt_natCast, BitVec.ofInt_natCast, BitVec.toNat_or, BitVec.toNat_ofNat, BitVec.toNat_ofNat, Nat.mod_eq_of_lt (by omega), Nat.mod_eq_of_lt (by omega), or_add _ _ _ hlt, take_next hj, num_append]
        have hs : num (l.take j) + 256 ^ j * c < 18446744073709551616 := by
          rw [Nat.mul_comm]
          have : c * 256 ^ j ≤ 255 * 256 ^ j := Nat.mul_le_mul_right _ (by omega)
          omega
        rw [wu64 (by omega) (by omega)]
        simp only [num, hc', Int.toNat_natCast, List.length_take, Nat.min_eq_left (by omega : j ≤ l.length), Nat.mul_zero, Nat.add_zero]
      simp only [h1, decide_true, if_true, w4, e1, e2, w3]
      rw [if_pos ⟨by omega, trivial⟩, if_pos (by omega)]
    · unfold octet_Read.s0
      rw [hm, hc]
      simp
  rw [this]
  rfl
end Go.Proofs.YtdifnahlheogdaaDoor.Pure
namespace Go.Proofs.YtdifnahlheogdaaDoor
open Go Go.Xw Go.Yw
end Go.Proofs.YtdifnahlheogdaaDoor
namespace Go.Proofs.YtdifnahlheogdaaDoor.Pure
open Go Go.Xw Go.Yw
abbrev Cell := S_pmem_cell
abbrev Dev := S_pmem_Device
def keepC (c : Cell) (w : Int) : Cell := ⟨w, c.stored, 0, false⟩
def evict (p : Int) (cs : List Cell) : List Cell := cs.mapIdx fun i c => if 0 ≤ p ∧ (i : Int) = p % (cs.length : Int) then keepC c c.stored else c
def pick (p : S_pmem_plan) : Int := if p.list.length = 0 then -1 else ix p.list p.at_
def nextP (p : S_pmem_plan) : S_pmem_plan := if p.list.length = 0 then p else ⟨p.list, (p.at_ + 1) % (p.list.length : Int)⟩
def tick (d : Dev) : Dev := ⟨evict (pick d.plan) d.cells, nextP d.plan, if d.armed then decide (d.left - 1 = 0) else d.off, d.armed, if d.armed then d.left - 1 else d.left, d.steps + 1⟩
def mayI (off : Bool) (k n : Int) : Int := if off = true then 3 else if k < 0 ∨ k ≥ n then 2 else 0
def putC (k w : Int) (cs : List Cell) : List Cell := cs.mapIdx fun i c => if (i : Int) = k then ⟨c.lasts, w, c.sent, c.flushed⟩ else c
def sendC (c : Cell) : Cell := ⟨c.lasts, c.stored, c.stored, true⟩
def sendL (k : Int) (cs : List Cell) : List Cell := cs.mapIdx fun i c => if 8 * k ≤ (i : Int) ∧ (i : Int) < 8 * k + 8 then sendC c else c
def fenceC (c : Cell) : Cell := if c.flushed = true then keepC c c.sent else c
def withC (d : Dev) (cs : List Cell) : Dev := ⟨cs, d.plan, d.off, d.armed, d.left, d.steps⟩
def storeD (d : Dev) (k w : Int) : Int × Dev := if mayI d.off k (d.cells.length : Int) = 0 then (0, tick (withC d (putC k w d.cells))) else (mayI d.off k (d.cells.length : Int), d)
def loadD (d : Dev) (k : Int) : Int × Int := if mayI d.off k (d.cells.length : Int) = 0 then ((ix d.cells k).stored, 0) else (0, mayI d.off k (d.cells.length : Int))
def flushD (d : Dev) (k : Int) : Int × Dev := if mayI d.off k ((d.cells.length / 8 : Nat) : Int) = 0 then (0, tick (withC d (sendL k d.cells))) else (mayI d.off k ((d.cells.length / 8 : Nat) : Int), d)
def fenceD (d : Dev) : Int × Dev := if d.off = true then (3, d) else (0, tick (withC d (d.cells.map fenceC)))
def armD (d : Dev) (n : Int) : Dev := if d.off = true then d else ⟨d.cells, d.plan, decide (n = 0), decide (n ≥ 0), n, d.steps⟩
def I64 (x : Int) : Prop := -9223372036854775808 ≤ x ∧ x ≤ 9223372036854775807
def U64 (x : Int) : Prop := 0 ≤ x ∧ x ≤ 18446744073709551615
def okC (c : Cell) : Prop := U64 c.lasts ∧ U64 c.stored ∧ U64 c.sent
structure DevOk (n : Nat) (B : Int) (d : Dev) : Prop where
  len : d.cells.length = n
  val : ∀ c ∈ d.cells, okC c
  at0 : d.plan.list.length ≠ 0 → 0 ≤ d.plan.at_ ∧ d.plan.at_ < (d.plan.list.length : Int)
  pl : d.plan.list.length ≤ 1000
  arm : d.armed = true → 0 ≤ d.left ∧ d.left ≤ 9223372036854775807 ∧ d.off = decide (d.left = 0)
  una : d.armed = false → d.off = false
  st : 0 ≤ d.steps ∧ d.steps ≤ B
theorem ix_set {α : Type} [Inhabited α] {l : List α} {k : Nat} {v : α} (h : k < l.length) : ix (l.set k v) (k : Int) = v := by
  rw [ix_nat (by simpa using h)]
  simp
theorem updR_nat {α : Type} [Inhabited α] {l : List α} {k : Nat} {f : α → α} : updR l (k : Int) f = l.set k (f (ix l (k : Int))) := by
  unfold updR
  rw [Int.toNat_natCast]
theorem keep_eq {fu k : Nat} {l : List Cell} {w : Int} (h : k < l.length) : pmem_cell_keep__i0.f fu l (k : Int) w = some (l.set k (keepC (ix l (k : Int)) w)) := by
  unfold pmem_cell_keep__i0.f
  simp only [updR_nat, List.set_set, ix_set h, keepC]
theorem pnext_eq {fu : Nat} {d : Dev} (h0 : d.plan.list.length ≠ 0 → 0 ≤ d.plan.at_ ∧ d.plan.at_ < (d.plan.list.length : Int)) (hl : d.plan.list.length ≤ 1000) : pmem_plan_next__i0_1.f fu d = some (pick d.plan, ⟨d.cells, nextP d.plan, d.off, d.armed, d.left, d.steps⟩) := by
  unfold pmem_plan_next__i0_1.f pick nextP
  by_cases e : d.plan.list.length = 0
  · have e' : (d.plan.list.length : Int) = 0 := by omega
    rw [decide_eq_true e', if_pos rfl, if_pos e, if_pos e]
  · have e' : ¬ (d.plan.list.length : Int) = 0 := by omega
    have h := h0 e
    rw [decide_eq_false e', if_neg (by decide), if_pos h, if_pos e', if_neg e, if_neg e, w64 (by omega) (by omega), Int.tmod_eq_emod_of_nonneg (by omega)]
theorem set_upd {cs : List Cell} {k : Nat} (g : Cell → Cell) (hk : k < cs.length) : cs.set k (g (ix cs (k : Int))) = cs.mapIdx fun i c => if i = k then g c else c := by
  rw [ix_nat hk]
  apply List.ext_getElem (by simp)
  intro i h1 h2
  rw [List.getElem_set, List.getElem_mapIdx]
  by_cases e : k = i
  · subst e
    simp
  · rw [if_neg e, if_neg (fun q => e q.symm)]
theorem evict_no {p : Int} (cs : List Cell) (h : ¬ 0 ≤ p) : evict p cs = cs := by
  apply List.ext_getElem (by simp [evict])
  intro i h1 h2
  simp only [evict, List.getElem_mapIdx]
  rw [if_neg fun q => h q.1]
theorem dstep_eq {fu n : Nat} {B : Int} {d : Dev} (h : DevOk n B d) (hB : B < 9223372036854775807) (ho : d.off = false) : pmem_Device_step.f fu d = some (tick d) := by
  unfold pmem_Device_step.f
  have hs := h.st
  have w1 : IntKind.i64.wrap (d.steps + 1) = d.steps + 1 := w64 (by omega) (by omega)
  rw [pnext_eq (d := ⟨d.cells, d.plan, d.off, d.armed, d.left, IntKind.i64.wrap (d.steps + 1)⟩) h.at0 h.pl, w1]
  simp only [Option.bind_some]
  have hc : ∀ q, q = pick d.plan → q ≥ 0 → ((if (decide ((List.length d.cells : Int) > 0)) = true then if (List.length d.cells : Int) ≠ 0 then if 0 ≤ (Int.tmod q (List.length d.cells : Int)) ∧ (Int.tmod q (List.length d.cells : Int)) < (List.length d.cells : Int) then ((pmem_cell_keep__i0.f fu d.cells (Int.tmod q (List.length d.cells : Int)) ((ix d.cells (Int.tmod q (List.length d.cells : Int))).stored) : Option (List S_pmem_cell)).bind fun t8 => some (t8)) else none else none else some (d.cells)) : Option (List S_pmem_cell)) = some (evict q d.cells) := by
    intro q _ hq
    by_cases hl : (List.length d.cells : Int) > 0
    · rw [decide_eq_true hl, Int.tmod_eq_emod_of_nonneg hq]
      have hm0 := Int.emod_nonneg q (show (List.length d.cells : Int) ≠ 0 by omega)
      have hm1 := Int.emod_lt_of_pos q hl
      have e1 : (List.length d.cells : Int) ≠ 0 := by omega
      obtain ⟨k, hk⟩ : ∃ k : Nat, q % (List.length d.cells : Int) = (k : Int) := ⟨(q % (List.length d.cells : Int)).toNat, by omega⟩
      have hkl : k < d.cells.length := by omega
      rw [if_pos rfl, if_pos e1, if_pos ⟨hm0, hm1⟩, hk, keep_eq hkl]
      simp only [Option.bind_some]
      refine congrArg some ((set_upd (fun c => keepC c c.stored) hkl).trans ?_)
      apply List.ext_getElem (by simp [evict])
      intro i h1 h2
      simp only [evict, List.getElem_mapIdx, hk]
      by_cases e : i = k
      · rw [if_pos e, if_pos ⟨hq, by omega⟩]
      · rw [if_neg e, if_neg fun z => e (by omega)]
    · have : d.cells = [] := List.length_eq_zero_iff.1 (by omega)
      rw [this]
      simp [evict]
  have hd : ∀ (r : List Cell), ((((if d.armed = true then some ((decide ((IntKind.i64.wrap (d.left - 1)) = 0)), (IntKind.i64.wrap (d.left - 1))) else some (d.off, d.left)) : Option (Bool × Int)).bind fun x45 => some ((⟨r, nextP d.plan, x45.1, d.armed, x45.2, (d.steps + 1)⟩ : S_pmem_Device))) : Option Dev) = some ⟨r, nextP d.plan, if d.armed then decide (d.left - 1 = 0) else d.off, d.armed, if d.armed then d.left - 1 else d.left, d.steps + 1⟩ := by
    intro r
    cases ha : d.armed
    · simp
    · have := h.arm ha
      rw [ho] at this
      have : d.left ≠ 0 := by
        intro e
        rw [e] at this
        exact absurd this.2.2 (by decide)
      rw [w64 (by omega) (by omega)]
      simp
  by_cases hq : pick d.plan ≥ 0
  · rw [decide_eq_true hq, if_pos rfl, hc _ rfl hq]
    simp only [Option.bind_some]
    exact hd _
  · rw [decide_eq_false hq, if_neg (by decide)]
    have := hd d.cells
    rw [this]
    unfold tick
    rw [evict_no _ hq]
theorem evict_len (p : Int) (cs : List Cell) : (evict p cs).length = cs.length := by simp [evict]
theorem keep_ok {c : Cell} {w : Int} (h : okC c) (hw : U64 w) : okC (keepC c w) := ⟨hw, h.2.1, by unfold U64; simp [keepC]⟩
theorem mapIdx_ok {cs : List Cell} {g : Nat → Cell → Cell} (h : ∀ c ∈ cs, okC c) (hg : ∀ i c, okC c → okC (g i c)) : ∀ c ∈ cs.mapIdx g, okC c := by
  intro c hc
  obtain ⟨i, hi, rfl⟩ := List.getElem_of_mem hc
  rw [List.getElem_mapIdx]
  exact hg _ _ (h _ (List.getElem_mem _))
theorem evict_ok {p : Int} {cs : List Cell} (h : ∀ c ∈ cs, okC c) : ∀ c ∈ evict p cs, okC c := by
  refine mapIdx_ok h fun i c hc => ?_
  split
  · exact keep_ok hc hc.2.1
  · exact hc
theorem tick_ok {n : Nat} {B : Int} {d : Dev} (h : DevOk n B d) (ho : d.off = false) : DevOk n (B + 1) (tick d) := by
  refine ⟨?_, ?_, ?_, ?_, ?_, ?_, ?_⟩
  · exact (evict_len _ _).trans h.len
  · exact evict_ok h.val
  · intro e
    by_cases z : d.plan.list.length = 0
    · exact absurd (by simp [tick, nextP, z]) e
    · have : (tick d).plan = ⟨d.plan.list, (d.plan.at_ + 1) % (d.plan.list.length : Int)⟩ := by simp [tick, nextP, z]
      rw [this]
      exact ⟨Int.emod_nonneg _ (by omega), Int.emod_lt_of_pos _ (by omega)⟩
  · by_cases z : d.plan.list.length = 0
    · simp [tick, nextP, z]
    · simp only [tick, nextP, z, if_false]
      exact h.pl
  · intro ha
    have ha' : d.armed = true := ha
    have := h.arm ha'
    have hl : d.left ≠ 0 := by
      intro e
      rw [e, ho] at this
      exact absurd this.2.2 (by decide)
    simp only [tick, ha', if_true]
    exact ⟨by omega, by omega, trivial⟩
  · intro ha
    have ha' : d.armed = false := ha
    simp only [tick, ha', Bool.false_eq_true, if_false]
    exact h.una ha'
  · have := h.st
    simp only [tick]
    omega
theorem DevOk.up {n : Nat} {B C : Int} {d : Dev} (h : DevOk n B d) (hc : B ≤ C) : DevOk n C d := ⟨h.len, h.val, h.at0, h.pl, h.arm, h.una, ⟨h.st.1, by have := h.st; omega⟩⟩
theorem with_ok {n : Nat} {B : Int} {d : Dev} (h : DevOk n B d) {cs : List Cell} (hl : cs.length = n) (hv : ∀ c ∈ cs, okC c) : DevOk n B (withC d cs) := ⟨hl, hv, h.at0, h.pl, h.arm, h.una, h.st⟩
theorem may_eq {fu : Nat} {d : Dev} {k m : Int} : pmem_Device_may.f fu d k m = some (mayI d.off k m) := by
  unfold pmem_Device_may.f mayI
  cases d.off
  · simp only [Bool.false_eq_true, if_false]
    by_cases h1 : k < 0
    · simp [h1]
    · by_cases h2 : k ≥ m <;> simp [h1, h2]
  · simp
theorem may_zero {b : Bool} {k m : Int} : mayI b k m = 0 ↔ b = false ∧ 0 ≤ k ∧ k < m := by
  unfold mayI
  cases b
  · simp only [Bool.false_eq_true, if_false]
    split <;> simp <;> omega
  · simp
theorem store_eq {fu n : Nat} {B k w : Int} {d : Dev} (h : DevOk n B d) (hB : B < 9223372036854775807) (hw : U64 w) : pmem_Device_Store.f fu d k w = some (storeD d k w) := by
  unfold pmem_Device_Store.f storeD
  rw [may_eq]
  simp only [Option.bind_some]
  by_cases e : mayI d.off k (d.cells.length : Int) = 0
  · obtain ⟨ho, h0, h1⟩ := may_zero.1 e
    rw [decide_eq_true e, if_pos e, if_neg (by decide), if_pos ⟨h0, h1⟩]
    obtain ⟨j, rfl⟩ : ∃ j : Nat, k = (j : Int) := ⟨k.toNat, by omega⟩
    have e1 : (updR d.cells (j : Int) fun c => (⟨c.lasts, w, c.sent, c.flushed⟩ : S_pmem_cell)) = putC (j : Int) w d.cells := by
      rw [updR_nat]
      refine (set_upd (fun c => ⟨c.lasts, w, c.sent, c.flushed⟩) (by omega)).trans ?_
      apply List.ext_getElem (by simp [putC])
      intro i h1 h2
      simp only [putC, List.getElem_mapIdx, Int.natCast_inj]
    have e2 : pmem_Device_step.f fu (⟨putC (j : Int) w d.cells, d.plan, d.off, d.armed, d.left, d.steps⟩ : S_pmem_Device) = some (tick (withC d (putC (j : Int) w d.cells))) := by
      refine dstep_eq (with_ok h (by simp [putC, h.len]) (mapIdx_ok h.val fun i c hc => ?_)) hB ho
      split
      · exact ⟨hc.1, hw, hc.2.2⟩
      · exact hc
    rw [e1, e2]
    rfl
  · rw [decide_eq_false e, if_neg e, if_pos (by decide)]
theorem load_eq {fu : Nat} {k : Int} {d : Dev} : pmem_Device_Load.f fu d k = some (loadD d k) := by
  unfold pmem_Device_Load.f loadD
  rw [may_eq]
  simp only [Option.bind_some]
  by_cases e : mayI d.off k (d.cells.length : Int) = 0
  · obtain ⟨ho, h0, h1⟩ := may_zero.1 e
    rw [decide_eq_true e, if_pos e, if_neg (by decide), if_pos ⟨h0, h1⟩]
  · rw [decide_eq_false e, if_neg e, if_pos (by decide)]
theorem lines_eq {fu : Nat} {d : Dev} (h : d.cells.length ≤ 1000000) : pmem_Device_Lines.f fu d = some ((d.cells.length / 8 : Nat) : Int) := by
  unfold pmem_Device_Lines.f
  rw [Int.tdiv_eq_ediv_of_nonneg (by omega), w64 (by omega) (by omega)]
  congr 1
theorem send_loop {fu : Nat} {cs : List Cell} {k : Nat} (h : 8 * k + 8 ≤ cs.length) (hl : cs.length ≤ 1000000) (hf : 8 < fu) : loopM (pmem_Device_Flush.s0 fu (k : Int)) fu (0, cs) = some (sendL (k : Int) cs) := by
  refine loopM_run (S := fun j => ((j : Int), upd (fun _ c => sendC c) (8 * k) j cs)) 8 (by rw [upd_zero]; rfl) ?_ ?_ hf
  · intro j hj
    unfold pmem_Device_Flush.s0
    have w1 : IntKind.i64.wrap ((k : Int) * 8) = ((8 * k : Nat) : Int) := by rw [w64 (by omega) (by omega)]; omega
    have w2 : IntKind.i64.wrap (((8 * k : Nat) : Int) + (j : Int)) = ((8 * k + j : Nat) : Int) := by rw [w64 (by omega) (by omega)]; omega
    have w3 : IntKind.i64.wrap ((j : Int) + 1) = ((j + 1 : Nat) : Int) := by rw [w64 (by omega) (by omega)]; omega
    have hlt : 8 * k + j < (upd (fun _ c => sendC c) (8 * k) j cs).length := by rw [upd_len]; omega
    have c1 : 0 ≤ ((8 * k + j : Nat) : Int) ∧ ((8 * k + j : Nat) : Int) < ((upd (fun _ c => sendC c) (8 * k) j cs).length : Int) := by omega
    have c2 : (j : Int) < 8 := by omega
    simp only [w1, w2, w3]
    rw [decide_eq_true c2, if_pos rfl, if_pos c1]
    simp only [updR_nat, ix_set hlt, List.set_set]
    rw [ix_nat hlt, upd_next _ _ _ _ (by omega)]
    refine congrArg (fun z => some (Sum.inr (((j + 1 : Nat) : Int), z))) ?_
    exact upd_set (fun _ c => sendC c) (8 * k) j cs (by omega)
  · unfold pmem_Device_Flush.s0
    rw [decide_eq_false (show ¬ (((8 : Nat) : Int) < 8) by decide), if_neg (by decide)]
    refine congrArg (fun z => some (Sum.inl z)) ?_
    apply List.ext_getElem (by simp [upd, sendL])
    intro i h1 h2
    simp only [upd, sendL, List.getElem_mapIdx]
    by_cases c : 8 * k ≤ i ∧ i < 8 * k + 8
    · rw [if_pos c, if_pos (by omega)]
    · rw [if_neg c, if_neg (by omega)]
theorem sendL_ok {cs : List Cell} {k : Int} (h : ∀ c ∈ cs, okC c) : ∀ c ∈ sendL k cs, okC c := by
  refine mapIdx_ok h fun i c hc => ?_
  split
  · exact ⟨hc.1, hc.2.1, hc.2.1⟩
  · exact hc
theorem flush_eq {fu n : Nat} {B k : Int} {d : Dev} (h : DevOk n B d) (hB : B < 9223372036854775807) (hn : n ≤ 1000000) (hf : 8 < fu) : pmem_Device_Flush.f fu d k = some (flushD d k) := by
  unfold pmem_Device_Flush.f flushD
  have hl : d.cells.length ≤ 1000000 := by rw [h.len]; exact hn
  rw [lines_eq hl]
  simp only [Option.bind_some]
  rw [may_eq]
  simp only [Option.bind_some]
  by_cases e : mayI d.off k ((d.cells.length / 8 : Nat) : Int) = 0
  · obtain ⟨ho, h0, h1⟩ := may_zero.1 e
    rw [decide_eq_true e, if_pos e, if_neg (by decide)]
    obtain ⟨j, rfl⟩ : ∃ j : Nat, k = (j : Int) := ⟨k.toNat, by omega⟩
    rw [send_loop (by omega) hl hf]
    have e2 : pmem_Device_step.f fu (⟨sendL (j : Int) d.cells, d.plan, d.off, d.armed, d.left, d.steps⟩ : S_pmem_Device) = some (tick (withC d (sendL (j : Int) d.cells))) :=
      dstep_eq (with_ok h (by simp [sendL, h.len]) (sendL_ok h.val)) hB ho
    simp only [Option.bind_some]
    rw [e2]
    rfl
  · rw [decide_eq_false e, if_neg e, if_pos (by decide)]
theorem fence_loop {fu : Nat} {d : Dev} (hl : d.cells.length ≤ 1000000) (hf : d.cells.length < fu) : loopM (pmem_Device_Fence.s0 fu d) fu (0, d.cells) = some (d.cells.map fenceC) := by
  refine loopM_run (S := fun j => ((j : Int), upd (fun _ c => fenceC c) 0 j d.cells)) d.cells.length (by rw [upd_zero]; rfl) ?_ ?_ hf
  · intro j hj
    unfold pmem_Device_Fence.s0
    have w3 : IntKind.i64.wrap ((j : Int) + 1) = ((j + 1 : Nat) : Int) := by rw [w64 (by omega) (by omega)]; omega
    have hlt : j < (upd (fun _ c => fenceC c) 0 j d.cells).length := by rw [upd_len]; omega
    have hnx : (upd (fun _ c => fenceC c) 0 j d.cells)[j] = d.cells[j] := by
      rw [upd_get, if_neg (by omega)]
    have c1 : 0 ≤ (j : Int) ∧ (j : Int) < ((upd (fun _ c => fenceC c) 0 j d.cells).length : Int) := by omega
    have c2 : (j : Int) < (d.cells.length : Int) := by omega
    simp only [w3]
    rw [decide_eq_true c2, if_pos rfl, if_pos c1, keep_eq hlt, ix_nat hlt, hnx]
    have hs := upd_set (fun _ c => fenceC c) 0 j d.cells (by omega)
    simp only [Nat.zero_add] at hs
    cases hfl : d.cells[j].flushed
    · have : fenceC d.cells[j] = d.cells[j] := by simp [fenceC, hfl]
      have := upd_same (fun _ c => fenceC c) 0 j d.cells (by omega) (by simpa using this)
      simp only [Bool.false_eq_true, if_false, Option.bind_some]
      rw [this]
    · have : fenceC d.cells[j] = keepC d.cells[j] d.cells[j].sent := by simp [fenceC, hfl]
      rw [this] at hs
      simp only [if_true, Option.bind_some]
      refine congrArg (fun z => some (Sum.inr (((j + 1 : Nat) : Int), z))) hs
  · unfold pmem_Device_Fence.s0
    rw [decide_eq_false (by omega), if_neg (by decide)]
    refine congrArg (fun z => some (Sum.inl z)) ?_
    show upd (fun _ c => fenceC c) 0 d.cells.length d.cells = _
    rw [upd_all]
    apply List.ext_getElem (by simp)
    intro i h1 h2
    simp
theorem fence_okC {c : Cell} (h : okC c) : okC (fenceC c) := by
  unfold fenceC
  split
  · exact keep_ok h h.2.2
  · exact h
theorem fence_eq {fu n : Nat} {B : Int} {d : Dev} (h : DevOk n B d) (hB : B < 9223372036854775807) (hn : n ≤ 1000000) (hf : n < fu) : pmem_Device_Fence.f fu d = some (fenceD d) := by
  unfold pmem_Device_Fence.f fenceD
  rw [may_eq]
  simp only [Option.bind_some]
  cases ho : d.off
  · have e : mayI false 0 1 = 0 := by decide
    rw [e, if_neg (by decide), if_neg (by decide), fence_loop (by rw [h.len]; exact hn) (by rw [h.len]; exact hf)]
    have e2 : pmem_Device_step.f fu (⟨d.cells.map fenceC, d.plan, d.off, d.armed, d.left, d.steps⟩ : S_pmem_Device) = some (tick (withC d (d.cells.map fenceC))) :=
      dstep_eq (with_ok h (by simp [h.len]) (fun c hc => by
        obtain ⟨x, hx, rfl⟩ := List.mem_map.1 hc
        exact fence_okC (h.val x hx))) hB ho
    rw [ho] at e2
    simp only [Option.bind_some]
    rw [e2]
    rfl
  · have e : mayI true 0 1 = 3 := by decide
    rw [e]
    rfl
theorem arm_eq {fu : Nat} {d : Dev} {k : Int} : pmem_Device_Arm.f fu d k = some (armD d k) := by
  unfold pmem_Device_Arm.f armD
  split <;> rfl
def octs (ws : List Int) : List Int := ws.flatMap fun w => lay w.toNat 8
theorem octs_len : ∀ ws : List Int, (octs ws).length = 8 * ws.length
  | [] => rfl
  | w :: ws => by
    have := octs_len ws
    simp only [octs, List.flatMap_cons, List.length_append, lay_len, List.length_cons] at *
    omega
theorem octs_append (a b : List Int) : octs (a ++ b) = octs a ++ octs b := by simp [octs]
theorem octs_one (w : Int) : octs [w] = lay w.toNat 8 := by simp [octs]
theorem octets_eq {fu : Nat} {ws : List Int} (hv : ∀ w ∈ ws, U64 w) (hl : ws.length ≤ 100000) (hf : ws.length + 8 < fu) : octet_Octets.f fu ws = some (octs ws) := by
  unfold octet_Octets.f
  have : loopM (octet_Octets.s0 fu ws) fu ([], 0) = some (octs ws) := by
    refine loopM_run (S := fun j => (octs (ws.take j), (j : Int))) ws.length (by simp [octs]) ?_ ?_ (by omega)
    · intro j hj
      unfold octet_Octets.s0
      have w3 : IntKind.i64.wrap ((j : Int) + 1) = ((j + 1 : Nat) : Int) := by rw [w64 (by omega) (by omega)]; omega
      have c1 : 0 ≤ (j : Int) ∧ (j : Int) < (ws.length : Int) := by omega
      have hu := hv _ (List.getElem_mem hj)
      obtain ⟨v, hv'⟩ : ∃ v : Nat, ws[j] = (v : Int) := ⟨ws[j].toNat, by unfold U64 at hu; omega⟩
      simp only [w3]
      rw [decide_eq_true c1.2, if_pos rfl, if_pos c1, ix_nat hj, hv', show octet_Lay.f fu (v : Int) 8 = some (lay v 8) from olay_eq (n := 8) (by omega) (by omega)]
      simp only [Option.bind_some]
      rw [if_pos (by rw [octs_len, lay_len, List.length_take]; exact Nat.le_trans (by omega : _ ≤ 1000008) (by decide)), take_next hj, octs_append, octs_one, hv', Int.toNat_natCast]
    · unfold octet_Octets.s0
      rw [decide_eq_false (show ¬ ((ws.length : Int) < (ws.length : Int)) by omega), if_neg (by decide), List.take_length]
  rw [this]
  rfl
theorem set_next {l : List Int} {n j : Nat} {v : Int} (h : j < n) (hl : l.length = j) : (l ++ List.replicate (n - j) (0 : Int)).set j v = (l ++ [v]) ++ List.replicate (n - (j + 1)) (0 : Int) := by
  rw [List.set_append, if_neg (by omega), hl, Nat.sub_self, show n - j = n - (j + 1) + 1 from by omega, List.replicate_succ]
  simp
def lastsD (d : Dev) : List Int := d.cells.map fun c => c.lasts
def storedD (d : Dev) : List Int := d.cells.map fun c => c.stored
theorem image_eq {fu n : Nat} {B : Int} {d : Dev} (h : DevOk n B d) (hn : n ≤ 100000) (hf : n + 8 < fu) : pmem_Device_Image.f fu d = some (octs (lastsD d)) := by
  unfold pmem_Device_Image.f pmem_Device_octets_pmem_Device_Image_1.f
  have hl := h.len
  rw [if_pos ⟨by omega, Nat.le_trans (by omega : _ ≤ 100000) (by decide)⟩]
  have : loopM (pmem_Device_octets_pmem_Device_Image_1.s0 fu d) fu (0, (List.replicate (Int.toNat (List.length d.cells : Int)) (0 : Int))) = some (lastsD d) := by
    refine loopM_run (S := fun j => ((j : Int), (lastsD d).take j ++ List.replicate (d.cells.length - j) (0 : Int))) d.cells.length (by simp) ?_ ?_ (by omega)
    · intro j hj
      unfold pmem_Device_octets_pmem_Device_Image_1.s0
      have w3 : IntKind.i64.wrap ((j : Int) + 1) = ((j + 1 : Nat) : Int) := by rw [w64 (by omega) (by omega)]; omega
      have hjl : j < (lastsD d).length := by simpa [lastsD] using hj
      have ht : ((lastsD d).take j).length = j := by rw [List.length_take]; omega
      have c1 : 0 ≤ (j : Int) ∧ (j : Int) < (d.cells.length : Int) := by omega
      have c2 : 0 ≤ (j : Int) ∧ (j : Int) < (((lastsD d).take j ++ List.replicate (d.cells.length - j) (0 : Int)).length : Int) := by
        rw [List.length_append, ht, List.length_replicate]
        omega
      simp only [w3]
      rw [decide_eq_true c1.2, if_pos rfl, if_pos c1]
      simp only [pmem_Device_Image_1__i0.f, Option.bind_some, ix_nat hj]
      rw [if_pos c2, Int.toNat_natCast, set_next hj ht, take_next hjl]
      simp [lastsD]
    · unfold pmem_Device_octets_pmem_Device_Image_1.s0
      rw [decide_eq_false (show ¬ ((d.cells.length : Int) < (d.cells.length : Int)) by omega), if_neg (by decide), Nat.sub_self, List.take_of_length_le (by simp [lastsD])]
      simp
  rw [this]
  simp only [Option.bind_some]
  rw [octets_eq (fun w hw => by
    obtain ⟨c, hc, rfl⟩ := List.mem_map.1 hw
    exact (h.val c hc).1) (by simp [lastsD, hl, hn]) (by simp only [lastsD, List.length_map]; omega)]
  rfl
theorem view_eq {fu n : Nat} {B : Int} {d : Dev} (h : DevOk n B d) (hn : n ≤ 100000) (hf : n + 8 < fu) : pmem_Device_View.f fu d = some (octs (storedD d)) := by
  unfold pmem_Device_View.f pmem_Device_octets_pmem_Device_View_1.f
  have hl := h.len
  rw [if_pos ⟨by omega, Nat.le_trans (by omega : _ ≤ 100000) (by decide)⟩]
  have : loopM (pmem_Device_octets_pmem_Device_View_1.s0 fu d) fu (0, (List.replicate (Int.toNat (List.length d.cells : Int)) (0 : Int))) = some (storedD d) := by
    refine loopM_run (S := fun j => ((j : Int), (storedD d).take j ++ List.replicate (d.cells.length - j) (0 : Int))) d.cells.length (by simp) ?_ ?_ (by omega)
    · intro j hj
      unfold pmem_Device_octets_pmem_Device_View_1.s0
      have w3 : IntKind.i64.wrap ((j : Int) + 1) = ((j + 1 : Nat) : Int) := by rw [w64 (by omega) (by omega)]; omega
      have hjl : j < (storedD d).length := by simpa [storedD] using hj
      have ht : ((storedD d).take j).length = j := by rw [List.length_take]; omega
      have c1 : 0 ≤ (j : Int) ∧ (j : Int) < (d.cells.length : Int) := by omega
      have c2 : 0 ≤ (j : Int) ∧ (j : Int) < (((storedD d).take j ++ List.replicate (d.cells.length - j) (0 : Int)).length : Int) := by
        rw [List.length_append, ht, List.length_replicate]
        omega
      simp only [w3]
      rw [decide_eq_true c1.2, if_pos rfl, if_pos c1]
      simp only [pmem_Device_View_1__i0.f, Option.bind_some, ix_nat hj]
      rw [if_pos c2, Int.toNat_natCast, set_next hj ht, take_next hjl]
      simp [storedD]
    · unfold pmem_Device_octets_pmem_Device_View_1.s0
      rw [decide_eq_false (show ¬ ((d.cells.length : Int) < (d.cells.length : Int)) by omega), if_neg (by decide), Nat.sub_self, List.take_of_length_le (by simp [storedD])]
      simp
  rw [this]
  simp only [Option.bind_some]
  rw [octets_eq (fun w hw => by
    obtain ⟨c, hc, rfl⟩ := List.mem_map.1 hw
    exact (h.val c hc).2.1) (by simp [storedD, hl, hn]) (by simp only [storedD, List.length_map]; omega)]
  rfl
def newD (n : Nat) : Dev := ⟨List.replicate n ⟨0, 0, 0, false⟩, ⟨[], 0⟩, false, false, 0, 0⟩
theorem new_eq {fu : Nat} {k : Nat} (hk : k ≤ 4096) : pmem_New.f fu (k : Int) = some (some (newD (8 * k)), 0) := by
  unfold pmem_New.f
  have h1 : ¬ (k : Int) < 0 := by omega
  have h2 : ¬ (k : Int) > 4096 := by omega
  have w : IntKind.i64.wrap ((k : Int) * 8) = ((8 * k : Nat) : Int) := by rw [w64 (by omega) (by omega)]; omega
  rw [decide_eq_false h1, decide_eq_false h2, if_neg (by decide), if_neg (by decide), w, Int.toNat_natCast, if_pos ⟨by omega, Nat.le_trans (by omega : _ ≤ 100000) (by decide)⟩]
  rfl
theorem newD_ok (n : Nat) : DevOk n 0 (newD n) := by
  refine ⟨by simp [newD], fun c hc => ?_, fun h => absurd rfl h, by simp [newD], fun h => (by cases h), fun _ => rfl, by simp [newD]⟩
  rw [List.eq_of_mem_replicate hc]
  unfold okC U64
  simp
theorem arm_ok {n : Nat} {B k : Int} {d : Dev} (h : DevOk n B d) (hk : I64 k) : DevOk n B (armD d k) := by
  unfold armD
  cases ho : d.off
  · rw [if_neg (by decide)]
    refine ⟨h.len, h.val, h.at0, h.pl, fun ha => ?_, fun ha => ?_, h.st⟩
    · have : k ≥ 0 := by simpa using ha
      exact ⟨this, hk.2, rfl⟩
    · have : ¬ k ≥ 0 := by simpa using ha
      exact decide_eq_false (by omega)
  · rw [if_pos rfl]
    exact h
theorem store_ok {n : Nat} {B k w : Int} {d : Dev} (h : DevOk n B d) (hw : U64 w) : DevOk n (B + 1) (storeD d k w).2 := by
  unfold storeD
  split
  · rename_i e
    refine tick_ok (with_ok h (by simp [putC, h.len]) (mapIdx_ok h.val fun i c hc => ?_)) (may_zero.1 e).1
    split
    · exact ⟨hc.1, hw, hc.2.2⟩
    · exact hc
  · exact h.up (by omega)
theorem flush_ok {n : Nat} {B k : Int} {d : Dev} (h : DevOk n B d) : DevOk n (B + 1) (flushD d k).2 := by
  unfold flushD
  split
  · rename_i e
    exact tick_ok (with_ok h (by simp [sendL, h.len]) (sendL_ok h.val)) (may_zero.1 e).1
  · exact h.up (by omega)
theorem fence_ok {n : Nat} {B : Int} {d : Dev} (h : DevOk n B d) : DevOk n (B + 1) (fenceD d).2 := by
  unfold fenceD
  cases ho : d.off
  · rw [if_neg (by decide)]
    exact tick_ok (with_ok h (by simp [h.len]) (fun c hc => by
        obtain ⟨x, hx, rfl⟩ := List.mem_map.1 hc
        exact fence_okC (h.val x hx))) ho
  · rw [if_pos rfl]
    exact h.up (by omega)
theorem steps_eq {fu : Nat} {d : Dev} : pmem_Device_Steps.f fu d = some d.steps := rfl
theorem shr_pow (n j : Nat) (hj : j < 8) : shR .u64 (n : Int) ((8 * j : Nat) : Int) = ((n / 256 ^ j : Nat) : Int) := by
  unfold shR
  rw [Int.toNat_natCast]
  have e : min (8 * j) IntKind.u64.bits = 8 * j := Nat.min_eq_left (by show 8 * j ≤ 64; omega)
  rw [e, show (256 : Nat) = 2 ^ 8 from rfl, ← Nat.pow_mul]
  have : ((2 : Int) ^ (8 * j)) = ((2 ^ (8 * j) : Nat) : Int) := by simp
  rw [this, Int.fdiv_eq_ediv_of_nonneg _ (Int.natCast_nonneg _)]
  simp
theorem text_eq {fu : Nat} {ws : List Int} (hv : ∀ w ∈ ws, U64 w) (hl : ws.length ≤ 100000) (hf : ws.length + 8 < fu) : rickyardref05_Text.f fu ws = some ((octs ws).map toB) := by
  unfold rickyardref05_Text.f
  have : loopM (rickyardref05_Text.s0 fu ws) fu ([], 0) = some (octs ws) := by
    refine loopM_run (S := fun j => (octs (ws.take j), (j : Int))) ws.length (by simp [octs]) ?_ ?_ (by omega)
    · intro j hj
      unfold rickyardref05_Text.s0
      have w3 : IntKind.i64.wrap ((j : Int) + 1) = ((j + 1 : Nat) : Int) := next64 hj hl
      have c1 : 0 ≤ (j : Int) ∧ (j : Int) < (ws.length : Int) := by omega
      have hu := hv _ (List.getElem_mem hj)
      obtain ⟨v, hv'⟩ : ∃ v : Nat, ws[j] = (v : Int) := ⟨ws[j].toNat, by unfold U64 at hu; omega⟩
      have inner : loopM (rickyardref05_Text.s1 fu ws (octs (ws.take j), (j : Int))) fu (octs (ws.take j), 0) = some (octs (ws.take j) ++ lay v 8) := by
        refine loopM_run (S := fun i => (octs (ws.take j) ++ lay v i, (i : Int))) 8 (by simp [lay]) ?_ ?_ (by omega)
        · intro i hi
          unfold rickyardref05_Text.s1
          have c2 : (i : Int) < 8 := by omega
          have w4 : IntKind.i64.wrap (8 * (i : Int)) = ((8 * i : Nat) : Int) := by rw [w64 (by omega) (by omega)]; omega
          have w5 : IntKind.i64.wrap ((i : Int) + 1) = ((i + 1 : Nat) : Int) := by rw [w64 (by omega) (by omega)]; omega
          simp only [w4, w5]
          have hlim : List.length (octs (ws.take j) ++ lay v i) + List.length [((v / 256 ^ i % 256 : Nat) : Int)] ≤ LIM := by
            rw [List.length_append, octs_len, lay_len, List.length_take]
            exact Nat.le_trans (by simp only [List.length_cons, List.length_nil]; omega : _ ≤ 1000000) (by decide)
          rw [decide_eq_true c2, if_pos rfl, if_pos c1, if_pos (by omega), ix_nat hj, hv', shr_pow _ _ hi, wu8_mod, if_pos hlim, lay_succ, List.append_assoc]
        · unfold rickyardref05_Text.s1
          rw [decide_eq_false (show ¬ (((8 : Nat) : Int) < 8) by decide), if_neg (by decide)]
      simp only [w3]
      rw [decide_eq_true c1.2, if_pos rfl, inner, take_next hj, octs_append, octs_one, hv', Int.toNat_natCast]
      rfl
    · unfold rickyardref05_Text.s0
      rw [decide_eq_false (show ¬ ((ws.length : Int) < (ws.length : Int)) by omega), if_neg (by decide), List.take_length]
  rw [this]
  rfl
theorem of_toB {l : List Int} (h : Bytes l) : (l.map toB).map ofB = l := by
  rw [List.map_map]
  conv => rhs; rw [← List.map_id l]
  apply List.map_congr_left
  intro x hx
  have := h x hx
  simp only [Function.comp, ofB, toB, UInt8.toNat_ofNat', id]
  omega
theorem Bytes.drop {l : List Int} (h : Bytes l) (n : Nat) : Bytes (l.drop n) := fun x hx => h x (List.mem_of_mem_drop hx)
theorem Bytes.take {l : List Int} (h : Bytes l) (n : Nat) : Bytes (l.take n) := fun x hx => h x (List.mem_of_mem_take hx)
theorem getD_toB {l : List Int} (hb : Bytes l) {i : Nat} (h : i < l.length) : ofB (List.getD (l.map toB) (Int.toNat (i : Int)) 0) = ix l (i : Int) := by
  rw [Int.toNat_natCast, List.getD_eq_getElem?_getD, List.getElem?_map, List.getElem?_eq_getElem h, ix_nat h]
  have := of_toB (l := [l[i]]) (by intro x hx; obtain rfl := List.mem_singleton.1 hx; exact hb _ (List.getElem_mem h))
  simpa using this
theorem num_lt8 {l : List Int} (hb : Bytes l) (hl : l.length ≤ 8) : num l < 18446744073709551616 := by
  have h1 := num_lt hb
  have h2 : (256 : Nat) ^ l.length ≤ 256 ^ 8 := Nat.pow_le_pow_right (by decide) hl
  have h3 : (256 : Nat) ^ 8 = 18446744073709551616 := by decide
  omega
theorem rnumber_eq {fu : Nat} {l : List Int} (hb : Bytes l) (hl : l.length ≤ 8) (hf : l.length < fu) : rickyardref01_Number.f fu (l.map toB) = some ((num l : Nat) : Int) := by
  unfold rickyardref01_Number.f
  have w0 : IntKind.i64.wrap (((l.map toB).length : Int) - 1) = (l.length : Int) - 1 := by rw [List.length_map, w64 (by omega) (by omega)]
  rw [w0]
  have : loopM (rickyardref01_Number.s0 fu (l.map toB)) fu (0, (l.length : Int) - 1) = some ((num l : Nat) : Int) := by
    refine loopM_run (S := fun j => (((num (l.drop (l.length - j)) : Nat) : Int), (l.length : Int) - 1 - (j : Int))) l.length (by simp [num]) ?_ ?_ hf
    · intro j hj
      unfold rickyardref01_Number.s0
      obtain ⟨i, hi⟩ : ∃ i : Nat, l.length - j = i + 1 := ⟨l.length - j - 1, by omega⟩
      have e1 : (l.length : Int) - 1 - (j : Int) = (i : Int) := by omega
      have hil : i < l.length := by omega
      have e2 : l.length - (j + 1) = i := by omega
      have c1 : (i : Int) ≥ 0 := by omega
      have c2 : (i : Int) < 8 := by omega
      have c3 : True ∧ (i : Int) < ((l.map toB).length : Int) := ⟨trivial, by rw [List.length_map]; omega⟩
      have w1 : IntKind.i64.wrap ((i : Int) - 1) = (l.length : Int) - 1 - ((j + 1 : Nat) : Int) := by rw [w64 (by omega) (by omega)]; omega
      have hcb := hb _ (List.getElem_mem hil)
      obtain ⟨c, hc⟩ : ∃ c : Nat, l[i] = (c : Int) := ⟨l[i].toNat, by omega⟩
      have hd : l.drop i = l[i] :: l.drop (i + 1) := List.drop_eq_getElem_cons hil
      have hn : num (l.drop i) = c + 256 * num (l.drop (i + 1)) := by rw [hd, num, hc, Int.toNat_natCast]
      have hlt := num_lt8 (hb.drop i) (by rw [List.length_drop]; omega)
      rw [hn] at hlt
      have w2 : IntKind.u64.wrap (((num (l.drop (i + 1)) : Nat) : Int) * 256) = ((num (l.drop (i + 1)) : Nat) : Int) * 256 := wu64 (by omega) (by omega)
      have w3 : IntKind.u64.wrap (ix l (i : Int)) = (c : Int) := by rw [ix_nat hil, hc, wu64 (by omega) (by omega)]
      have w4 : IntKind.u64.wrap (((num (l.drop (i + 1)) : Nat) : Int) * 256 + (c : Int)) = ((num (l.drop i) : Nat) : Int) := by rw [wu64 (by omega) (by omega), hn]; omega
      simp only [e1, hi, e2, getD_toB hb hil, w1, w2, w3, w4, c1, c2, decide_true, if_true]
      rw [if_pos c3]
      rfl
    · unfold rickyardref01_Number.s0
      have : ¬ (l.length : Int) - 1 - (l.length : Int) ≥ 0 := by omega
      simp only [this]
      simp
  rw [this]
  rfl
theorem read_long {fu : Nat} {l : List Int} (h : 8 ≤ l.length) : octet_Read.f fu l = octet_Read.f fu (l.take 8) := by
  have h8 : (l.take 8).length = 8 := by rw [List.length_take]; omega
  have e1 : mnI (l.length : Int) 8 = 8 := by unfold mnI; split <;> omega
  have e2 : mnI ((l.take 8).length : Int) 8 = 8 := by rw [h8]; rfl
  have e3 : cut l 0 8 = l.take 8 := rfl
  have e4 : cut (l.take 8) 0 8 = l.take 8 := by
    unfold cut
    rw [List.take_of_length_le (by rw [h8]; decide)]
    rfl
  have es : octet_Read.s0 fu l = octet_Read.s0 fu (l.take 8) := by
    unfold octet_Read.s0
    rw [e1, e2, e3, e4]
  unfold octet_Read.f
  rw [e1, e2, es, if_pos (by omega), if_pos (by rw [h8]; decide)]
def wordsU (l : List Int) (j : Nat) : List Int := (List.range j).map fun i => ((num ((l.drop (8 * i)).take 8) : Nat) : Int)
theorem wordsU_succ (l : List Int) (j : Nat) : wordsU l (j + 1) = wordsU l j ++ [((num ((l.drop (8 * j)).take 8) : Nat) : Int)] := by
  simp [wordsU, List.range_succ]
theorem wordsU_len (l : List Int) (j : Nat) : (wordsU l j).length = j := by simp [wordsU]
theorem chunk_len {l : List Int} {j : Nat} (h : 8 * j + 8 ≤ l.length) : ((l.drop (8 * j)).take 8).length = 8 := by
  rw [List.length_take, List.length_drop]
  omega
theorem words_U64 {l : List Int} (hb : Bytes l) {n : Nat} : ∀ w ∈ wordsU l n, U64 w := by
  intro w hw
  obtain ⟨i, _, rfl⟩ := List.mem_map.1 hw
  have := num_lt8 ((hb.drop (8 * i)).take 8) (by rw [List.length_take]; omega)
  unfold U64
  omega
theorem words_eq {fu n : Nat} {l : List Int} (hb : Bytes l) (hl : l.length = 8 * n) (hn : n ≤ 100000) (hf : n + 8 < fu) : octet_Words.f fu l = some (wordsU l n) := by
  unfold octet_Words.f
  have : loopM (octet_Words.s0 fu) fu (l, []) = some (wordsU l n) := by
    refine loopM_run (S := fun j => (l.drop (8 * j), wordsU l j)) n (by simp [wordsU]) ?_ ?_ (by omega)
    · intro j hj
      unfold octet_Words.s0
      have hdl : (l.drop (8 * j)).length = 8 * n - 8 * j := by rw [List.length_drop, hl]
      have c1 : ((l.drop (8 * j)).length : Int) ≥ 8 := by omega
      have hc : ((l.drop (8 * j)).take 8).length = 8 := chunk_len (by omega)
      have hr : octet_Read.f fu (l.drop (8 * j)) = some ((num ((l.drop (8 * j)).take 8) : Nat) : Int) := by
        rw [read_long (by omega)]
        exact read_eq ((hb.drop _).take _) (by omega) (by omega)
      have e1 : cut (l.drop (8 * j)) 8 ((l.drop (8 * j)).length : Int) = l.drop (8 * (j + 1)) := by
        unfold cut
        rw [Int.toNat_natCast, List.take_length, show Int.toNat 8 = 8 from rfl, List.drop_drop]
        congr 1
      simp only [e1]
      rw [decide_eq_true c1, if_pos rfl, hr]
      simp only [Option.bind_some]
      rw [if_pos (by rw [wordsU_len]; exact Nat.le_trans (by simp only [List.length_cons, List.length_nil]; omega : _ ≤ 100001) (by decide)), if_pos c1, wordsU_succ]
    · unfold octet_Words.s0
      have : ¬ (((l.drop (8 * n)).length : Int) ≥ 8) := by rw [List.length_drop]; omega
      simp only [this, decide_false, Bool.false_eq_true, if_false]
  rw [this]
  rfl
def putAll : Dev → Int → List Int → Int × Dev
  | d, _, [] => (0, d)
  | d, k, w :: ws => if (storeD d k w).1 = 0 then putAll (storeD d k w).2 (k + 1) ws else storeD d k w
def sendD (d : Dev) (line first : Int) (ws : List Int) : Int × Dev := if (putAll d (8 * line + first) ws).1 = 0 then flushD (putAll d (8 * line + first) ws).2 line else putAll d (8 * line + first) ws
def inL (d : Dev) (line : Int) : Prop := 0 ≤ line ∧ line < ((d.cells.length / 8 : Nat) : Int)
instance (d : Dev) (line : Int) : Decidable (inL d line) := inferInstanceAs (Decidable (_ ∧ _))
def writeD (d : Dev) (line : Int) (b : List Int) : Int × Dev := if inL d line ∧ b.length = 64 then sendD d line 0 (wordsU b 8) else (2, d)
def lineC (d : Dev) (line : Int) : List Int := (List.range 8).map fun (i : Nat) => (ix d.cells (8 * line + (i : Int))).stored
def readD (d : Dev) (line : Int) : List Int × Int := if inL d line then if d.off = true then ([], 3) else (octs (lineC d line), 0) else ([], 2)
theorem put_ok {n : Nat} : ∀ {ws : List Int} {B k : Int} {d : Dev} (h : DevOk n B d) (hw : ∀ w ∈ ws, U64 w), DevOk n (B + (ws.length : Int)) (putAll d k ws).2
  | [], B, k, d, h, _ => h.up (by simp)
  | w :: ws, B, k, d, h, hw => by
    have h1 := store_ok (k := k) h (hw w (by simp))
    unfold putAll
    split
    · exact (put_ok h1 fun x hx => hw x (by simp [hx])).up (by simp only [List.length_cons]; omega)
    · exact h1.up (by simp only [List.length_cons]; omega)
theorem send_ok {n : Nat} {ws : List Int} {B k i : Int} {d : Dev} (h : DevOk n B d) (hw : ∀ w ∈ ws, U64 w) : DevOk n (B + (ws.length : Int) + 1) (sendD d k i ws).2 := by
  have h1 := put_ok (k := 8 * k + i) h hw
  unfold sendD
  split
  · exact flush_ok h1
  · exact h1.up (by omega)
theorem store_loop {fu n : Nat} {line first : Int} {ws : List Int} (hn : n ≤ 100000) (hw : ∀ w ∈ ws, U64 w) (hl : ws.length ≤ 1000) (hline : 0 ≤ line ∧ line ≤ 100000) (hfirst : 0 ≤ first ∧ first ≤ 1000) : ∀ (r j : Nat) (B : Int) (d : Dev) (k : Nat), j + r = ws.length → DevOk n B d → B + (r : Int) < 9223372036854775807 → r < k →
    loopM (press_store.s0 fu line first ws) k ((j : Int), d) = some (if (putAll d (8 * line + first + (j : Int)) (ws.drop j)).1 = 0 then .inr (putAll d (8 * line + first + (j : Int)) (ws.drop j)).2 else .inl (putAll d (8 * line + first + (j : Int)) (ws.drop j)))
  | r, j, B, d, 0, hj, h, hB, hk => by omega
  | 0, j, B, d, k + 1, hj, h, hB, hk => by
    unfold loopM
    have : j = ws.length := by omega
    subst this
    unfold press_store.s0
    rw [decide_eq_false (show ¬ ((ws.length : Int) < (ws.length : Int)) by omega), if_neg (by decide), List.drop_of_length_le (Nat.le_refl _)]
    rfl
  | r + 1, j, B, d, k + 1, hj, h, hB, hk => by
    have hjl : j < ws.length := by omega
    have hu := hw _ (List.getElem_mem hjl)
    have hst : pmem_Device_Store.f fu d (8 * line + first + (j : Int)) ws[j] = some (storeD d (8 * line + first + (j : Int)) ws[j]) := store_eq h (by omega) hu
    have w1 : IntKind.i64.wrap (line * 8) = 8 * line := by rw [w64 (by omega) (by omega)]; omega
    have w2 : IntKind.i64.wrap (8 * line + first) = 8 * line + first := w64 (by omega) (by omega)
    have w3 : IntKind.i64.wrap (8 * line + first + (j : Int)) = 8 * line + first + (j : Int) := w64 (by omega) (by omega)
    have hd : ws.drop j = ws[j] :: ws.drop (j + 1) := List.drop_eq_getElem_cons hjl
    unfold loopM
    have hs : press_store.s0 fu line first ws ((j : Int), d) = some (if (storeD d (8 * line + first + (j : Int)) ws[j]).1 = 0 then .inr (((j + 1 : Nat) : Int), (storeD d (8 * line + first + (j : Int)) ws[j]).2) else .inl (.inl (storeD d (8 * line + first + (j : Int)) ws[j]))) := by
      unfold press_store.s0
      simp only [w1, w2, w3]
      rw [decide_eq_true (show (j : Int) < (ws.length : Int) by omega), if_pos rfl, if_pos (by omega), ix_nat hjl, hst, next64 hjl (by omega)]
      simp only [Option.bind_some]
      by_cases e : (storeD d (8 * line + first + (j : Int)) ws[j]).1 = 0
      · rw [decide_eq_true e, if_neg (by decide), if_pos e]
      · rw [decide_eq_false e, if_pos (by decide), if_neg e]
    rw [hs, hd]
    unfold putAll
    by_cases e : (storeD d (8 * line + first + (j : Int)) ws[j]).1 = 0
    · have ih := store_loop (fu := fu) (n := n) (line := line) (first := first) hn hw hl hline hfirst r (j + 1) (B + 1) (storeD d (8 * line + first + (j : Int)) ws[j]).2 k (by omega) (store_ok h hu) (by omega) (by omega)
      rw [show 8 * line + first + ((j + 1 : Nat) : Int) = 8 * line + first + (j : Int) + 1 from by omega] at ih
      rw [if_pos e, if_pos e]
      exact ih
    · rw [if_neg e, if_neg e]
      simp only [e, if_false]
theorem send_eq {fu n : Nat} {B line first : Int} {ws : List Int} {d : Dev} (h : DevOk n B d) (hB : B + (ws.length : Int) + 1 < 9223372036854775807) (hn : n ≤ 100000) (hw : ∀ w ∈ ws, U64 w) (hl : ws.length ≤ 1000) (hline : 0 ≤ line ∧ line ≤ 100000) (hfirst : 0 ≤ first ∧ first ≤ 1000) (hf : 2000 < fu) : press_store.f fu d line first ws = some (sendD d line first ws) := by
  unfold press_store.f sendD
  have h1 := store_loop (fu := fu) hn hw hl hline hfirst ws.length 0 B d fu (by omega) h (by omega) (by omega)
  simp only [List.drop_zero, Int.natCast_zero, Int.add_zero] at h1
  have h2 := put_ok (k := 8 * line + first) h hw
  rw [h1]
  by_cases e : (putAll d (8 * line + first) ws).1 = 0
  · rw [if_pos e, if_pos e]
    simp only [Option.bind_some]
    rw [flush_eq h2 (by omega) (by omega) (by omega)]
    rfl
  · rw [if_neg e, if_neg e]
    rfl
theorem pmay_eq {fu : Nat} {d : Dev} {k : Int} (hl : d.cells.length ≤ 1000000) : press_may.f fu d k = some (if inL d k then 0 else 2) := by
  unfold press_may.f
  rw [lines_eq hl]
  by_cases h1 : k < 0
  · rw [decide_eq_true h1, if_neg (show ¬ inL d k from fun q => by have := q.1; omega)]
    rfl
  · rw [decide_eq_false h1, if_neg (by decide)]
    simp only [Option.bind_some]
    by_cases h2 : k ≥ ((d.cells.length / 8 : Nat) : Int)
    · rw [decide_eq_true h2, if_neg (show ¬ inL d k from fun q => by have := q.2; omega)]
      rfl
    · rw [decide_eq_false h2, if_pos (show inL d k from ⟨by omega, by omega⟩)]
      rfl
theorem write_eq {fu n : Nat} {B line : Int} {b : List Int} {d : Dev} (h : DevOk n B d) (hB : B + 9 < 9223372036854775807) (hn : n ≤ 100000) (hb : Bytes b) (hf : 2000 < fu) : press_Write.f fu d line b = some (writeD d line b) := by
  unfold press_Write.f writeD
  have hlen := h.len
  rw [pmay_eq (by omega)]
  simp only [Option.bind_some]
  by_cases hi : inL d line
  · rw [if_pos hi, if_neg (by decide)]
    by_cases hl : b.length = 64
    · have hw := words_U64 (n := 8) hb
      unfold inL at hi
      rw [decide_eq_true (show (b.length : Int) = 64 by omega), if_neg (by decide), if_pos ⟨hi, hl⟩, words_eq (n := 8) hb (by omega) (by decide) (by omega)]
      simp only [Option.bind_some]
      rw [send_eq h (by rw [wordsU_len]; omega) hn hw (by rw [wordsU_len]; decide) (by omega) (by decide) hf]
      rfl
    · rw [decide_eq_false (show ¬ (b.length : Int) = 64 by omega), if_pos (by decide), if_neg (fun q => hl q.2)]
  · rw [if_neg hi, if_pos (by decide), if_neg (fun q => hi q.1)]
theorem sure_eq {fu n : Nat} {B : Int} {d : Dev} (h : DevOk n B d) (hB : B < 9223372036854775807) (hn : n ≤ 100000) (hf : n < fu) : press_Sure.f fu d = some (fenceD d) := by
  unfold press_Sure.f
  rw [fence_eq h hB (by omega) hf]
  rfl
theorem arr_set8 (a : Arr 8 Int) (j : Nat) (v : Int) (hj : j < 8) (f : Nat → Int) (hf : ∀ i, i < j → ix a.l (i : Int) = f i) (hv : v = f j) : ∀ i, i < j + 1 → ix (Arr.set a (j : Int) v).l (i : Int) = f i := by
  intro i hi
  have hl := a.h
  have e : (Arr.set a (j : Int) v).l = a.l.set j v := by simp [Arr.set]
  rw [e, ix_nat (by rw [List.length_set]; omega), List.getElem_set]
  by_cases h : j = i
  · subst h
    rw [if_pos rfl, hv]
  · rw [if_neg h, ← ix_nat (by omega)]
    exact hf i (by omega)
theorem read_dev {fu n : Nat} {B line : Int} {d : Dev} (h : DevOk n B d) (hn : n ≤ 100000) (hf : 2000 < fu) : press_Read.f fu d line = some (readD d line) := by
  unfold press_Read.f readD
  have hlen := h.len
  rw [pmay_eq (by omega)]
  simp only [Option.bind_some]
  by_cases hi : inL d line
  · rw [if_pos hi, if_neg (by decide), if_pos hi]
    have hin := hi
    unfold inL at hin
    have w1 : IntKind.i64.wrap (line * 8) = 8 * line := by rw [w64 (by omega) (by omega)]; omega
    have hld : ∀ j : Nat, j < 8 → pmem_Device_Load.f fu d (8 * line + (j : Int)) = some (if d.off = true then (0, 3) else ((ix d.cells (8 * line + (j : Int))).stored, 0)) := by
      intro j hj
      rw [load_eq]
      unfold loadD
      cases ho : d.off
      · rw [if_pos (may_zero.2 ⟨rfl, by omega, by omega⟩), if_neg (by decide)]
      · have : mayI true (8 * line + (j : Int)) (d.cells.length : Int) = 3 := rfl
        rw [this, if_neg (by decide), if_pos rfl]
    cases ho : d.off
    · rw [if_neg (by decide)]
      have loop : ∃ e, loopM (press_Read.s0 fu d line) fu (0, Arr.rep 8 (0 : Int)) = some e ∧ ∃ a : Arr 8 Int, e = .inr a ∧ ∀ i : Nat, i < 8 → ix a.l (i : Int) = (ix d.cells (8 * line + (i : Int))).stored := by
        refine loopM_inv (fun j s => ∃ a : Arr 8 Int, s = ((j : Int), a) ∧ ∀ i : Nat, i < j → ix a.l (i : Int) = (ix d.cells (8 * line + (i : Int))).stored) 8 _ ?_ ?_ (j := 0) ⟨_, rfl, fun i hi => by omega⟩ (by omega) (by omega)
        · rintro j _ hj ⟨a, rfl, ha⟩
          unfold press_Read.s0
          have w3 : IntKind.i64.wrap (8 * line + (j : Int)) = 8 * line + (j : Int) := w64 (by omega) (by omega)
          simp only [w1, w3]
          rw [decide_eq_true (show (j : Int) < 8 by omega), if_pos rfl, hld j hj, ho, if_neg (by decide), next64 hj (by decide)]
          simp only [Option.bind_some, decide_true, Bool.not_true, Bool.false_eq_true, if_false]
          rw [if_pos (by omega)]
          exact ⟨_, rfl, _, rfl, arr_set8 a j _ hj (fun i => (ix d.cells (8 * line + (i : Int))).stored) ha rfl⟩
        · rintro _ ⟨a, rfl, ha⟩
          unfold press_Read.s0
          rw [decide_eq_false (show ¬ (((8 : Nat) : Int) < 8) by decide), if_neg (by decide)]
          exact ⟨_, rfl, a, rfl, ha⟩
      obtain ⟨e, h1, a, rfl, ha⟩ := loop
      have hal : a.l = lineC d line := by
        apply List.ext_getElem (by rw [a.h]; simp [lineC])
        intro i h1 h2
        have : i < 8 := by rw [a.h] at h1; exact h1
        rw [← ix_nat h1, ha i this]
        simp [lineC]
      have hu : ∀ w ∈ lineC d line, U64 w := by
        intro w hw
        obtain ⟨i, hi8, rfl⟩ := List.mem_map.1 hw
        have := List.mem_range.1 hi8
        obtain ⟨p, hp⟩ : ∃ p : Nat, 8 * line + (i : Int) = (p : Int) := ⟨(8 * line + (i : Int)).toNat, by omega⟩
        rw [hp, ix_nat (by omega)]
        exact (h.val _ (List.getElem_mem _)).2.1
      rw [h1]
      simp only [Option.bind_some]
      rw [hal, octets_eq hu (by simp [lineC]) (by simp [lineC]; omega)]
      rfl
    · rw [if_pos rfl]
      have loop : loopM (press_Read.s0 fu d line) fu (0, Arr.rep 8 (0 : Int)) = some (.inl ([], 3)) := by
        obtain ⟨k, rfl⟩ : ∃ k, fu = k + 1 := ⟨fu - 1, by omega⟩
        unfold loopM
        have := hld 0 (by decide)
        rw [ho, if_pos rfl] at this
        unfold press_Read.s0
        have w3 : IntKind.i64.wrap (8 * line + 0) = 8 * line + ((0 : Nat) : Int) := by rw [w64 (by omega) (by omega)]; rfl
        simp only [w1, w3]
        rw [this]
        rfl
      rw [loop]
      rfl
  · rw [if_neg hi, if_pos (by decide), if_neg hi]
noncomputable def SO (n : Nat) (d : Dev) (a : AA) : S_shadow_Store := ⟨d, a.of n⟩
def writtenS (d : Dev) (a : AA) (k : Int) (b : List Int) : Int × Int × Dev × AA := if (writeD d k b).1 = 0 then (k, 0, (writeD d k b).2, a) else (0, (writeD d k b).1, (writeD d k b).2, a)
def makeS (n : Nat) (d : Dev) (a : AA) (b : List Int) : Int × Int × Dev × AA := if b.length = 64 then if (a.take n).2.1 = 0 then writtenS d (a.take n).2.2 (a.take n).1 b else (0, (a.take n).2.1, d, (a.take n).2.2) else (0, 2, d, a)
def turnS (n : Nat) (d : Dev) (a : AA) (k : Int) (b : List Int) : Int × Int × Dev × AA :=
  if b.length = 64 ∧ hasI n a.w k = true then
    if a.own n k = true then writtenS d a k b
    else if (makeS n d a b).2.1 = 0 then ((makeS n d a b).1, ((makeS n d a b).2.2.2.give n k).1, (makeS n d a b).2.2.1, ((makeS n d a b).2.2.2.give n k).2) else (0, (makeS n d a b).2.1, (makeS n d a b).2.2.1, (makeS n d a b).2.2.2)
  else (0, 2, d, a)
theorem write_dev {m : Nat} {B line : Int} {b : List Int} {d : Dev} (h : DevOk m B d) (hb : Bytes b) : DevOk m (B + 9) (writeD d line b).2 := by
  unfold writeD
  split
  · have := send_ok (k := line) (i := 0) h (words_U64 (n := 8) hb)
    exact this.up (by rw [wordsU_len]; omega)
  · exact h.up (by omega)
theorem written_eq {fu n m : Nat} {B k : Int} {b : List Int} {d : Dev} {a : AA} (h : DevOk m B d) (hB : B + 9 < 9223372036854775807) (hm : m ≤ 100000) (hb : Bytes b) (hf : 2000 < fu) : shadow_Store_written.f fu (SO n d a) k b = some ((writtenS d a k b).1, (writtenS d a k b).2.1, SO n (writtenS d a k b).2.2.1 (writtenS d a k b).2.2.2) := by
  unfold shadow_Store_written.f writtenS
  rw [show (SO n d a).device = d from rfl, write_eq h hB hm hb hf]
  simp only [Option.bind_some]
  by_cases e : (writeD d k b).1 = 0
  · rw [decide_eq_true e, if_neg (by decide), if_pos e]
    rfl
  · rw [decide_eq_false e, if_pos (by decide), if_neg e]
    rfl
theorem written_dev {m : Nat} {B k : Int} {b : List Int} {d : Dev} {a : AA} (h : DevOk m B d) (hb : Bytes b) : DevOk m (B + 9) (writtenS d a k b).2.2.1 ∧ (writtenS d a k b).2.2.2 = a := by
  have := write_dev (line := k) h hb
  unfold writtenS
  split <;> exact ⟨this, rfl⟩
theorem make_eq {fu n m : Nat} {B : Int} {b : List Int} {d : Dev} {a : AA} (h : DevOk m B d) (hB : B + 9 < 9223372036854775807) (hm : m ≤ 100000) (hb : Bytes b) (hf : 2000 < fu) (ha : AOk n a) (hn : n ≤ 90000) (hfn : n + 64 < fu) : shadow_Store_Make.f fu (SO n d a) b = some ((makeS n d a b).1, (makeS n d a b).2.1, SO n (makeS n d a b).2.2.1 (makeS n d a b).2.2.2) := by
  unfold shadow_Store_Make.f makeS
  by_cases e : b.length = 64
  · rw [decide_eq_true (show (b.length : Int) = 64 by omega), if_neg (by decide), if_pos e, show (SO n d a).blocks = a.of n from rfl, take_eq hn hfn ha]
    simp only [Option.bind_some]
    by_cases e2 : (a.take n).2.1 = 0
    · rw [decide_eq_true e2, if_neg (by decide), if_pos e2, show (⟨(SO n d a).device, (a.take n).2.2.of n⟩ : S_shadow_Store) = SO n d (a.take n).2.2 from rfl, written_eq h hB hm hb hf]
      rfl
    · rw [decide_eq_false e2, if_pos (by decide), if_neg e2]
      rfl
  · rw [decide_eq_false (show ¬ (b.length : Int) = 64 by omega), if_pos (by decide), if_neg e]
theorem make_ok {n m : Nat} {B : Int} {b : List Int} {d : Dev} {a : AA} (h : DevOk m B d) (hb : Bytes b) (ha : AOk n a) : DevOk m (B + 9) (makeS n d a b).2.2.1 ∧ AOk n (makeS n d a b).2.2.2 := by
  have ht := take_ok ha
  unfold makeS
  split
  · split
    · obtain ⟨h1, h2⟩ := written_dev (k := (a.take n).1) (a := (a.take n).2.2) h hb
      rw [h2]
      exact ⟨h1, ht⟩
    · exact ⟨h.up (by omega), ht⟩
  · exact ⟨h.up (by omega), ha⟩
theorem turn_eq {fu n m : Nat} {B k : Int} {b : List Int} {d : Dev} {a : AA} (h : DevOk m B d) (hB : B + 9 < 9223372036854775807) (hm : m ≤ 100000) (hb : Bytes b) (hf : 2000 < fu) (ha : AOk n a) (hn : n ≤ 90000) (hfn : n + 64 < fu) : shadow_Store_Turn.f fu (SO n d a) k b = some ((turnS n d a k b).1, (turnS n d a k b).2.1, SO n (turnS n d a k b).2.2.1 (turnS n d a k b).2.2.2) := by
  unfold shadow_Store_Turn.f turnS
  by_cases e : b.length = 64
  · rw [decide_eq_true (show (b.length : Int) = 64 by omega), if_neg (by decide), show (SO n d a).blocks = a.of n from rfl, works_eq hn hfn ha]
    simp only [Option.bind_some]
    rw [has_eq (by omega)]
    simp only [Option.bind_some]
    cases hh : hasI n a.w k
    · rw [Bool.not_false, if_pos rfl, if_neg (fun q => by simp at q)]
    · rw [Bool.not_true, if_neg (by decide), if_pos ⟨e, rfl⟩, own_eq hn]
      simp only [Option.bind_some]
      cases ho : a.own n k
      · rw [if_neg (by decide), if_neg (by decide), make_eq h hB hm hb hf ha hn hfn]
        simp only [Option.bind_some]
        obtain ⟨m1, m2⟩ := make_ok (n := n) h hb ha
        by_cases e2 : (makeS n d a b).2.1 = 0
        · rw [decide_eq_true e2, if_neg (by decide), if_pos e2, show (SO n (makeS n d a b).2.2.1 (makeS n d a b).2.2.2).blocks = (makeS n d a b).2.2.2.of n from rfl, give_eq hn hfn m2]
          rfl
        · rw [decide_eq_false e2, if_pos (by decide), if_neg e2]
      · rw [if_pos rfl, if_pos rfl, written_eq h hB hm hb hf]
        rfl
  · rw [decide_eq_false (show ¬ (b.length : Int) = 64 by omega), if_pos (by decide), if_neg (fun q => e q.1)]
theorem drop_eq {fu n : Nat} {k : Int} {d : Dev} {a : AA} (ha : AOk n a) (hn : n ≤ 90000) (hfn : n + 64 < fu) : shadow_Store_Drop.f fu (SO n d a) k = some ((a.give n k).1, SO n d (a.give n k).2) := by
  unfold shadow_Store_Drop.f
  rw [show (SO n d a).blocks = a.of n from rfl, give_eq hn hfn ha]
  rfl
theorem sget_eq {fu n m : Nat} {B k : Int} {d : Dev} {a : AA} (h : DevOk m B d) (hm : m ≤ 100000) (hf : 2000 < fu) : shadow_Store_Get.f fu (SO n d a) k = some (readD d k) := by
  unfold shadow_Store_Get.f
  rw [show (SO n d a).device = d from rfl, read_dev h hm hf]
  rfl
theorem ssure_eq {fu n m : Nat} {B : Int} {d : Dev} {a : AA} (h : DevOk m B d) (hB : B < 9223372036854775807) (hm : m ≤ 100000) (hf : m < fu) : shadow_Store_Sure.f fu (SO n d a) = some ((fenceD d).1, SO n (fenceD d).2 a) := by
  unfold shadow_Store_Sure.f
  rw [show (SO n d a).device = d from rfl, sure_eq h hB hm hf]
  rfl
structure Clean (d : Dev) : Prop where
  off : d.off = false
  arm : d.armed = false
  pl : d.plan.list = []
abbrev FU : Nat := 200000
theorem awake19 : rickyardlaw19_awake.f FU = some true := by decide +kernel
def ini (n : Nat) : Nat → Bool := addF n (fun _ => false) [0, 1]
def nul (n : Nat) : Nat → Bool := addF n (fun _ => false) []
def A0 (n : Nat) (r : Int) : AA := ⟨r, ini n, nul n, ini n, ini n⟩
theorem ini_low (n : Nat) : Low n (ini n) := addF_low fun k h => by cases h
theorem nul_low (n : Nat) : Low n (nul n) := addF_low fun k h => by cases h
theorem A0_ok {n : Nat} {r : Int} (hr : 0 ≤ r ∧ r ≤ 1000) : AOk n (A0 n r) := ⟨ini_low n, nul_low n, ini_low n, ini_low n, hr⟩
theorem made_eq {fu n : Nat} {r : Int} (hn : n ≤ 3072) (hf : n + 2000 < fu) (hr : 0 ≤ r ∧ r ≤ 1000) : rickyardlaw19_Made.f fu (n : Int) r = some (some (SO n (newD (8 * n)) (A0 n r)), some (newD (8 * n)), some ((A0 n r).of n)) := by
  unfold rickyardlaw19_Made.f
  rw [new_eq (by omega)]
  simp only [Option.bind_some, Option.elim_some]
  rw [of_eq (l := [0, 1]) hn (by decide) (by simp; omega), of_eq (l := []) hn (by decide) (by simp; omega)]
  simp only [Option.bind_some]
  rw [anew_eq (by omega) (by omega) (addF_low fun k h => by cases h) (addF_low fun k h => by cases h) hr.1]
  simp only [Option.bind_some, Option.elim_some]
  have ha := A0_ok (n := n) hr
  unfold shadow_New.f
  rw [show (⟨r, addF n (fun _ => false) [0, 1], addF n (fun _ => false) [], addF n (fun _ => false) [0, 1], addF n (fun _ => false) [0, 1]⟩ : AA) = A0 n r from rfl, works_eq (by omega) (by omega) ha]
  have hl : (newD (8 * n)).cells.length = 8 * n := by simp [newD]
  simp only [Option.bind_some, bits_Set_Size.f]
  rw [lines_eq (by omega), hl]
  simp only [Option.bind_some]
  rw [show (setOf n (A0 n r).w).size = (n : Int) from rfl, decide_eq_false (show ¬ ((n : Int) > ((8 * n / 8 : Nat) : Int)) by omega), if_neg (by decide)]
  rfl
end Go.Proofs.YtdifnahlheogdaaDoor.Pure
namespace Go.Proofs.YtdifnahlheogdaaDoor
open Go Go.Xw Go.Yw
end Go.Proofs.YtdifnahlheogdaaDoor
