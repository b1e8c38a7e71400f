/- PressActs: texts merged, part 7 of 8. The last part proves that the law PressActs holds for every input. -/
import Derived.Test.YtklhbaghbmndeaaPkPressActs6
import Derived.ProofKit
import Derived.OpenShut
import Derived.ChangeOld
import Derived.Below
import Derived.SizedLaws
import Derived.WalkKit
set_option linter.unusedVariables false
set_option linter.unusedSimpArgs false
namespace Go.Proofs.Ytklhbaghbmndeaa
open Go Go.Xw
def rickyardlaw15_PressActs.s0 (fu : Nat) (a0 : Int) (a1 : List S_rickyardlaw15_Act) : (Int × (List S_pmem_cell) × (List Int) × Int × Bool × Bool × Int × Int × (List Int) × (List Int) × (List Int) × (List Bool) × (List Int) × Int × Int × Int) → Option (Sum (Sum Bool ((List S_pmem_cell) × (List Int) × Int × Bool × Bool × Int × Int × (List Int) × (List Int) × (List Int) × (List Bool) × (List Int) × Int × Int × Int)) (Int × (List S_pmem_cell) × (List Int) × Int × Bool × Bool × Int × Int × (List Int) × (List Int) × (List Int) × (List Bool) × (List Int) × Int × Int × Int)) := fun s68 => (if (decide (s68.1 < (List.length a1 : Int))) = true then (if 0 ≤ s68.1 ∧ s68.1 < (List.length a1 : Int) then ((rickyardlaw15_do.f fu (⟨s68.2.1, (⟨s68.2.2.1, s68.2.2.2.1⟩ : S_pmem_plan), s68.2.2.2.2.1, s68.2.2.2.2.2.1, s68.2.2.2.2.2.2.1, s68.2.2.2.2.2.2.2.1⟩ : S_pmem_Device) (⟨s68.2.2.2.2.2.2.2.2.1, s68.2.2.2.2.2.2.2.2.2.1, s68.2.2.2.2.2.2.2.2.2.2.1, s68.2.2.2.2.2.2.2.2.2.2.2.1, s68.2.2.2.2.2.2.2.2.2.2.2.2.1, s68.2.2.2.2.2.2.2.2.2.2.2.2.2.1, s68.2.2.2.2.2.2.2.2.2.2.2.2.2.2.1, s68.2.2.2.2.2.2.2.2.2.2.2.2.2.2.2⟩ : S_rickyardref05_Device) (⟨(ix a1 s68.1).Kind, (ix a1 s68.1).At, (ix a1 s68.1).I, (ix a1 s68.1).B, ((ix a1 s68.1).A)⟩ : S_rickyardlaw15_Act) : Option (Bool × S_pmem_Device × S_rickyardref05_Device)).bind fun t129 => (if (!t129.1) = true then some (Sum.inl (Sum.inl (false))) else ((pmem_Device_Steps.f fu t129.2.1 : Option Int).bind fun t179 => (if (!decide (t179 = t129.2.2.Steps)) = true then some (Sum.inl (Sum.inl (false))) else ((pmem_Device_View.f fu t129.2.1 : Option (List Int)).bind fun t195 => ((rickyardref05_Text.f fu t129.2.2.Stored : Option (List UInt8)).bind fun t201 => (if (!decide ((List.map toB t195) = t201)) = true then some (Sum.inl (Sum.inl (false))) else ((pmem_Device_Image.f fu t129.2.1 : Option (List Int)).bind fun t217 => ((rickyardref05_Text.f fu t129.2.2.Lasts : Option (List UInt8)).bind fun t223 => (if (!decide ((List.map toB t217) = t223)) = true then some (Sum.inl (Sum.inl (false))) else ((pmem_Device_Fates.f fu t129.2.1 : Option (List S_api_Fate)).bind fun t236 => ((rickyardref05_Device_Fates.f fu t129.2.2 : Option (List S_api_Fate)).bind fun t248 => ((rickyardref05_Same.f fu t236 t248 : Option Bool).bind fun t256 => (if (!t256) = true then some (Sum.inl (Sum.inl (false))) else (if 0 ≤ s68.1 ∧ s68.1 < (List.length a1 : Int) then ((press_Lasts.f fu t129.2.1 ((ix a1 s68.1).At) : Option ((List Int) × Bool)).bind fun t262 => (if 0 ≤ s68.1 ∧ s68.1 < (List.length a1 : Int) then (if (decide (((ix a1 s68.1).At) ≥ 0)) = true then (if 0 ≤ s68.1 ∧ s68.1 < (List.length a1 : Int) then (if (!decide (t262.2 = (decide (((ix a1 s68.1).At) < (Int.tmod (IntKind.i64.wrap a0) 5))))) = true then some (Sum.inl (Sum.inl (false))) else (if t262.2 = true then (if 0 ≤ s68.1 ∧ s68.1 < (List.length a1 : Int) then (if 0 ≤ s68.1 ∧ s68.1 < (List.length a1 : Int) then (if (0 : Int) ≤ (IntKind.i64.wrap (8 * ((ix a1 s68.1).At))) ∧ (IntKind.i64.wrap (8 * ((ix a1 s68.1).At))) ≤ (IntKind.i64.wrap ((IntKind.i64.wrap (8 * ((ix a1 s68.1).At))) + 8)) ∧ (IntKind.i64.wrap ((IntKind.i64.wrap (8 * ((ix a1 s68.1).At))) + 8)) ≤ (List.length t129.2.2.Lasts : Int) then ((rickyardref05_Text.f fu (cut t129.2.2.Lasts (IntKind.i64.wrap (8 * ((ix a1 s68.1).At))) (IntKind.i64.wrap ((IntKind.i64.wrap (8 * ((ix a1 s68.1).At))) + 8))) : Option (List UInt8)).bind fun t288 => (if (!decide ((List.map toB t262.1) = t288)) = true then some (Sum.inl (Sum.inl (false))) else (if (!t262.2) = true then (if (!decide ((List.length t262.1 : Int) = 0)) = true then some (Sum.inl (Sum.inl (false))) else some (Sum.inr ((IntKind.i64.wrap (s68.1 + 1)), t129.2.1.cells, t129.2.1.plan.list, t129.2.1.plan.at_, t129.2.1.off, t129.2.1.armed, t129.2.1.left, t129.2.1.steps, t129.2.2.Lasts, t129.2.2.Stored, t129.2.2.Sent, t129.2.2.Flushed, t129.2.2.Plan, t129.2.2.Since, t129.2.2.Left, t129.2.2.Steps))) else some (Sum.inr ((IntKind.i64.wrap (s68.1 + 1)), t129.2.1.cells, t129.2.1.plan.list, t129.2.1.plan.at_, t129.2.1.off, t129.2.1.armed, t129.2.1.left, t129.2.1.steps, t129.2.2.Lasts, t129.2.2.Stored, t129.2.2.Sent, t129.2.2.Flushed, t129.2.2.Plan, t129.2.2.Since, t129.2.2.Left, t129.2.2.Steps))))) else none) else none) else none) else (if (!t262.2) = true then (if (!decide ((List.length t262.1 : Int) = 0)) = true then some (Sum.inl (Sum.inl (false))) else some (Sum.inr ((IntKind.i64.wrap (s68.1 + 1)), t129.2.1.cells, t129.2.1.plan.list, t129.2.1.plan.at_, t129.2.1.off, t129.2.1.armed, t129.2.1.left, t129.2.1.steps, t129.2.2.Lasts, t129.2.2.Stored, t129.2.2.Sent, t129.2.2.Flushed, t129.2.2.Plan, t129.2.2.Since, t129.2.2.Left, t129.2.2.Steps))) else some (Sum.inr ((IntKind.i64.wrap (s68.1 + 1)), t129.2.1.cells, t129.2.1.plan.list, t129.2.1.plan.at_, t129.2.1.off, t129.2.1.armed, t129.2.1.left, t129.2.1.steps, t129.2.2.Lasts, t129.2.2.Stored, t129.2.2.Sent, t129.2.2.Flushed, t129.2.2.Plan, t129.2.2.Since, t129.2.2.Left, t129.2.2.Steps))))) else none) else (if (!decide (t262.2 = false)) = true then some (Sum.inl (Sum.inl (false))) else (if t262.2 = true then (if 0 ≤ s68.1 ∧ s68.1 < (List.length a1 : Int) then (if 0 ≤ s68.1 ∧ s68.1 < (List.length a1 : Int) then (if (0 : Int) ≤ (IntKind.i64.wrap (8 * ((ix a1 s68.1).At))) ∧ (IntKind.i64.wrap (8 * ((ix a1 s68.1).At))) ≤ (IntKind.i64.wrap ((IntKind.i64.wrap (8 * ((ix a1 s68.1).At))) + 8)) ∧ (IntKind.i64.wrap ((IntKind.i64.wrap (8 * ((ix a1 s68.1).At))) + 8)) ≤ (List.length t129.2.2.Lasts : Int) then ((rickyardref05_Text.f fu (cut t129.2.2.Lasts (IntKind.i64.wrap (8 * ((ix a1 s68.1).At))) (IntKind.i64.wrap ((IntKind.i64.wrap (8 * ((ix a1 s68.1).At))) + 8))) : Option (List UInt8)).bind fun t315 => (if (!decide ((List.map toB t262.1) = t315)) = true then some (Sum.inl (Sum.inl (false))) else (if (!t262.2) = true then (if (!decide ((List.length t262.1 : Int) = 0)) = true then some (Sum.inl (Sum.inl (false))) else some (Sum.inr ((IntKind.i64.wrap (s68.1 + 1)), t129.2.1.cells, t129.2.1.plan.list, t129.2.1.plan.at_, t129.2.1.off, t129.2.1.armed, t129.2.1.left, t129.2.1.steps, t129.2.2.Lasts, t129.2.2.Stored, t129.2.2.Sent, t129.2.2.Flushed, t129.2.2.Plan, t129.2.2.Since, t129.2.2.Left, t129.2.2.Steps))) else some (Sum.inr ((IntKind.i64.wrap (s68.1 + 1)), t129.2.1.cells, t129.2.1.plan.list, t129.2.1.plan.at_, t129.2.1.off, t129.2.1.armed, t129.2.1.left, t129.2.1.steps, t129.2.2.Lasts, t129.2.2.Stored, t129.2.2.Sent, t129.2.2.Flushed, t129.2.2.Plan, t129.2.2.Since, t129.2.2.Left, t129.2.2.Steps))))) else none) else none) else none) else (if (!t262.2) = true then (if (!decide ((List.length t262.1 : Int) = 0)) = true then some (Sum.inl (Sum.inl (false))) else some (Sum.inr ((IntKind.i64.wrap (s68.1 + 1)), t129.2.1.cells, t129.2.1.plan.list, t129.2.1.plan.at_, t129.2.1.off, t129.2.1.armed, t129.2.1.left, t129.2.1.steps, t129.2.2.Lasts, t129.2.2.Stored, t129.2.2.Sent, t129.2.2.Flushed, t129.2.2.Plan, t129.2.2.Since, t129.2.2.Left, t129.2.2.Steps))) else some (Sum.inr ((IntKind.i64.wrap (s68.1 + 1)), t129.2.1.cells, t129.2.1.plan.list, t129.2.1.plan.at_, t129.2.1.off, t129.2.1.armed, t129.2.1.left, t129.2.1.steps, t129.2.2.Lasts, t129.2.2.Stored, t129.2.2.Sent, t129.2.2.Flushed, t129.2.2.Plan, t129.2.2.Since, t129.2.2.Left, t129.2.2.Steps)))))) else none)) else none))))))))))))))) else none) else some (Sum.inl (Sum.inr (s68.2.1, s68.2.2.1, s68.2.2.2.1, s68.2.2.2.2.1, s68.2.2.2.2.2.1, s68.2.2.2.2.2.2.1, s68.2.2.2.2.2.2.2.1, s68.2.2.2.2.2.2.2.2.1, s68.2.2.2.2.2.2.2.2.2.1, s68.2.2.2.2.2.2.2.2.2.2.1, s68.2.2.2.2.2.2.2.2.2.2.2.1, s68.2.2.2.2.2.2.2.2.2.2.2.2.1, s68.2.2.2.2.2.2.2.2.2.2.2.2.2.1, s68.2.2.2.2.2.2.2.2.2.2.2.2.2.2.1, s68.2.2.2.2.2.2.2.2.2.2.2.2.2.2.2))))
def rickyardlaw15_PressActs.f (fu : Nat) (a0 : Int) (a1 : List S_rickyardlaw15_Act) : Option Bool := ((((rickyardlaw15_awake.f fu : Option Bool).bind fun t3 => (if (!t3) = true then some (true) else ((rickyardlaw15_small.f fu a1 30 : Option Bool).bind fun t8 => some ((!t8))))) : Option Bool).bind fun x1 => (if x1 = true then ((rickyardlaw15_awake.f fu : Option Bool).bind fun t16 => some (t16)) else ((pmem_New.f fu (Int.tmod (IntKind.i64.wrap a0) 5) : Option ((Option S_pmem_Device) × Int)).bind fun t20 => (Option.elim t20.1 (some (false)) (fun m27 => ((rickyardref05_New.f fu (Int.tmod (IntKind.i64.wrap a0) 5) : Option S_rickyardref05_Device).bind fun t38 => ((loopM (rickyardlaw15_PressActs.s0 fu a0 a1) fu (0, m27.cells, m27.plan.list, m27.plan.at_, m27.off, m27.armed, m27.left, m27.steps, t38.Lasts, t38.Stored, t38.Sent, t38.Flushed, t38.Plan, t38.Since, t38.Left, t38.Steps)).bind fun e69 => match e69 with | Sum.inl p => some p | Sum.inr x72 => some (true))))))))
set_option maxRecDepth 100000 in
set_option maxHeartbeats 4000000 in
theorem rickyardlaw15_PressActs.ok (fu : Nat) (w : World) (a0 : Int) (a1 : List S_rickyardlaw15_Act) (V1_0 : Value) (R1_0 : RdN 8 D_rickyardlaw15_Act w V1_0 a1) (r : Bool) (h : rickyardlaw15_PressActs.f fu a0 a1 = some r) :
  Calls Try.prog 13 (([.int .u8 a0, V1_0] : List Value).toArray) w (fun e w' => ∃ v, e = .returned v ∧ v = .bool r ∧ Gr w w') := by
 unfold rickyardlaw15_PressActs.f at h
 have fB : Gr w w := Fr.refl _ _
 refine calls_cw Try.func13 rfl Try.ntmps13 rfl ?_
 refine cw_seq ?_
 refine cw_region ?_
 refine ol_val (v := .bool false) (by exact xr_assign rfl rfl) rfl rfl rfl ?_
 refine ol_nil ?_
 refine cw_seq ?_
 refine cw_seq ?_
 obtain ⟨x1, j2, h⟩ := bs h
 refine cw_mid (fun ρ' w' => ρ' 0 = .int .u8 a0 ∧ ρ' 1 = V1_0 ∧ ρ' 18 = .bool x1 ∧ Gr w w') ?_ ?_
 ·skip
  refine cw_region ?_
  obtain ⟨t3, k4, j2⟩ := bs j2
  refine ol_op (by exact opv_call rfl cal52 an (rickyardlaw15_awake.ok fu _ _ k4)) rfl rfl rfl ?_
  rintro _ w6 ⟨rfl, q5⟩
  have fB := fB.gr q5
  refine ol_val (v := .bool (!t3)) (by exact xr_not rfl rfl) rfl rfl rfl ?_
  refine ol_val (v := .bool (!t3)) (by exact xr_move rfl rfl) rfl rfl rfl ?_
  rcases is j2 with ⟨c7, j2⟩ | ⟨c7, j2⟩
  ·skip
   refine ol_gskip rfl rfl rfl rfl rfl c7 ?_
   refine ol_gskip rfl rfl rfl rfl rfl c7 ?_
   refine ol_gskip rfl rfl rfl rfl rfl c7 ?_
   refine ol_val (v := .bool true) (by exact xr_pickT rfl rfl c7 rfl) rfl rfl rfl ?_
   refine ol_nil ?_
   obtain rfl := Option.some.inj j2
   refine thn_i ?_
   exact ⟨rfl, rfl, rfl, q5⟩
  refine ol_gval (v := V1_0) (by exact xr_move rfl rfl) rfl rfl rfl rfl rfl c7 ?_
  obtain ⟨t8, k9, j2⟩ := bs j2
  refine ol_gop (by exact opv_call rfl cal58 (ac rfl (ac rfl an)) (rickyardlaw15_small.ok fu _ a1 V1_0 (RdN.gr R1_0 D_rickyardlaw15_Act.gr fB) 30 _ k9)) rfl rfl rfl rfl rfl c7 ?_
  rintro _ w11 ⟨rfl, q10⟩
  have fB := fB.gr q10
  refine ol_gval (v := .bool (!t8)) (by exact xr_not rfl rfl) rfl rfl rfl rfl rfl c7 ?_
  refine ol_val (v := .bool (!t8)) (by exact xr_pickF rfl rfl c7 rfl) rfl rfl rfl ?_
  refine ol_nil ?_
  obtain rfl := Option.some.inj j2
  refine thn_i ?_
  exact ⟨rfl, rfl, rfl, (q5.gr q10)⟩
 rintro ρ12 w13 ⟨e0, e1, e18, q14⟩
 have fB := fB.gr q14
 rcases is h with ⟨c15, h⟩ | ⟨c15, h⟩
 ·refine cw_condT e18 c15 ?_
  refine cw_seq ?_
  refine cw_region ?_
  obtain ⟨t16, k17, h⟩ := bs h
  refine ol_op (by exact opv_call rfl cal52 an (rickyardlaw15_awake.ok fu _ _ k17)) rfl rfl rfl ?_
  rintro _ w19 ⟨rfl, q18⟩
  have fB := fB.gr q18
  refine ol_val (v := .bool t16) (by exact xr_assign rfl rfl) rfl rfl rfl ?_
  refine ol_nil ?_
  refine cw_ret ?_
  repeat (first | with_reducible refine thn_r ?_ | with_reducible refine blk_r ?_)
  obtain rfl := Option.some.inj h
  refine fin_ret1 Try.results13 rfl ?_
  exact ⟨_, rfl, rfl, fB⟩
 refine cw_condF e18 c15 ?_
 refine cw_skip ?_
 refine cw_seq ?_
 refine cw_region ?_
 refine ol_val (v := .int .u8 a0) (by exact xr_move rfl e0) rfl rfl rfl ?_
 refine ol_val (v := .int .i64 (IntKind.i64.wrap a0)) (by exact xr_conv rfl Try.underlying5 Try.underlying3 rfl) rfl rfl rfl ?_
 refine ol_val (v := .int .i64 (Int.tmod (IntKind.i64.wrap a0) 5)) (by exact xr_rem rfl rfl rfl (by decide)) rfl rfl rfl ?_
 refine ol_val (v := .int .i64 (Int.tmod (IntKind.i64.wrap a0) 5)) (by exact xr_assign rfl rfl) rfl rfl rfl ?_
 refine ol_nil ?_
 refine cw_seq ?_
 refine cw_region ?_
 refine ol_val (v := .int .i64 (Int.tmod (IntKind.i64.wrap a0) 5)) (by exact xr_move rfl rfl) rfl rfl rfl ?_
 obtain ⟨t20, k21, h⟩ := bs h
 refine ol_op (by exact opv_call rfl cal26 (ac rfl an) (pmem_New.ok fu _ (Int.tmod (IntKind.i64.wrap a0) 5) _ k21)) rfl rfl rfl ?_
 rintro _ w25 ⟨u22, p23, rfl, q24⟩
 rcases en h with ⟨e26, h⟩ | ⟨m27, e26, h⟩
 ·obtain rfl := p23.1 e26
  have fB := fB.gr q24
  refine ol_val (v := .tuple #[.pointer none, .int .i64 t20.2]) (by exact xr_move rfl rfl) rfl rfl rfl ?_
  refine ol_val (v := .pointer none) (by exact xr_extract rfl rfl rfl) rfl rfl rfl ?_
  refine ol_val (v := .int .i64 t20.2) (by exact xr_extract rfl rfl rfl) rfl rfl rfl ?_
  refine ol_val (v := .pointer none) (by exact xr_assign rfl rfl) rfl rfl rfl ?_
  refine ol_val (v := .int .i64 t20.2) (by exact xr_assign rfl rfl) rfl rfl rfl ?_
  refine ol_nil ?_
  refine cw_seq ?_
  refine cw_seq ?_
  refine cw_region ?_
  refine ol_val (v := .pointer none) (by exact xr_move rfl rfl) rfl rfl rfl ?_
  refine ol_val (v := .bool true) (by exact xr_eqP (b := true) rfl Try.underlying30 rfl rfl (by simp) (by simp)) rfl rfl rfl ?_
  refine ol_nil ?_
  refine cw_condT rfl rfl ?_
  refine cw_seq ?_
  refine cw_region ?_
  refine ol_val (v := .bool false) (by exact xr_assign rfl rfl) rfl rfl rfl ?_
  refine ol_nil ?_
  refine cw_ret ?_
  repeat (first | with_reducible refine thn_r ?_ | with_reducible refine blk_r ?_)
  obtain rfl := Option.some.inj h
  refine fin_ret1 Try.results13 rfl ?_
  exact ⟨_, rfl, rfl, fB⟩
 obtain ⟨G28, u32, u35, o33, o36, rfl, z29, b30⟩ := p23.2 _ e26
 have o33 := Own.base o33 fB.size
 have o36 := Own.base o36 fB.size
 have z29 := Nat.le_trans fB.size z29
 have fB := fB.gr q24
 refine ol_val (v := .tuple #[.pointer (some ⟨G28, 0, none⟩), .int .i64 t20.2]) (by exact xr_move rfl rfl) rfl rfl rfl ?_
 refine ol_val (v := .pointer (some ⟨G28, 0, none⟩)) (by exact xr_extract rfl rfl rfl) rfl rfl rfl ?_
 refine ol_val (v := .int .i64 t20.2) (by exact xr_extract rfl rfl rfl) rfl rfl rfl ?_
 refine ol_val (v := .pointer (some ⟨G28, 0, none⟩)) (by exact xr_assign rfl rfl) rfl rfl rfl ?_
 refine ol_val (v := .int .i64 t20.2) (by exact xr_assign rfl rfl) rfl rfl rfl ?_
 refine ol_nil ?_
 refine cw_seq ?_
 refine cw_seq ?_
 refine cw_region ?_
 refine ol_val (v := .pointer (some ⟨G28, 0, none⟩)) (by exact xr_move rfl rfl) rfl rfl rfl ?_
 refine ol_val (v := .bool false) (by exact xr_eqP (b := false) rfl Try.underlying30 rfl rfl (by simp) (by simp)) rfl rfl rfl ?_
 refine ol_nil ?_
 refine cw_condF rfl rfl ?_
 refine cw_skip ?_
 refine cw_seq ?_
 refine cw_region ?_
 refine ol_val (v := .int .i64 (Int.tmod (IntKind.i64.wrap a0) 5)) (by exact xr_move rfl rfl) rfl rfl rfl ?_
 obtain ⟨t38, k39, h⟩ := bs h
 refine ol_op (by exact opv_call rfl cal44 (ac rfl an) (rickyardref05_New.ok fu _ (Int.tmod (IntKind.i64.wrap a0) 5) _ k39)) rfl rfl rfl ?_
 rintro u40 w43 ⟨_, p41, rfl, q42⟩
 obtain ⟨G44, u48, u51, u54, u57, u60, o49, o52, o55, o58, o61, a63, a64, a65, rfl, z45, b46⟩ := p41
 have a66 := OffV.call o36 o61
 have o49 := Own.base o49 fB.size
 have o52 := Own.base o52 fB.size
 have o55 := Own.base o55 fB.size
 have o58 := Own.base o58 fB.size
 have o61 := Own.base o61 fB.size
 have n67 := b30.ne z45
 have z45 := Nat.le_trans fB.size z45
 have b30 := b30.gr q42
 have o33 := o33.gr q42
 have o36 := o36.gr q42
 have fB := fB.gr q42
 refine ol_val (v := .pointer (some ⟨G44, 0, none⟩)) (by exact xr_assign rfl rfl) rfl rfl rfl ?_
 refine ol_nil ?_
 refine cw_seq ?_
 refine cw_seq ?_
 refine cw_region ?_
 refine ol_val (v := .int .i64 0) (by exact xr_assign rfl rfl) rfl rfl rfl ?_
 refine ol_nil ?_
 obtain ⟨e69, l70, h71⟩ := bs h
 refine cw_mid (fun ρ' w' => ∃ x72, e69 = Sum.inr x72 ∧ ∃ v73 : Value, ∃ v76 : Value, ∃ v79 : Value, ∃ v82 : Value, ∃ v85 : Value, ∃ v88 : Value, ∃ v91 : Value, Gr w w') ?_ ?_
 ·refine cw_block ?_
  refine cw_round (fun (s68 : Int × (List S_pmem_cell) × (List Int) × Int × Bool × Bool × Int × Int × (List Int) × (List Int) × (List Int) × (List Bool) × (List Int) × Int × Int × Int) ρ' w' => ∃ v94 : Value, ∃ v97 : Value, ∃ v100 : Value, ∃ v103 : Value, ∃ v106 : Value, ∃ v109 : Value, ∃ v112 : Value, ∃ o95 : Own k_pmem_cell 142 w' w.heap.size v94 s68.2.1, ∃ o98 : Own (kI .i64) 3 w' w.heap.size v97 s68.2.2.1, ∃ o101 : Own (kI .u64) 22 w' w.heap.size v100 s68.2.2.2.2.2.2.2.2.1, ∃ o104 : Own (kI .u64) 22 w' w.heap.size v103 s68.2.2.2.2.2.2.2.2.2.1, ∃ o107 : Own (kI .u64) 22 w' w.heap.size v106 s68.2.2.2.2.2.2.2.2.2.2.1, ∃ o110 : Own kB 4 w' w.heap.size v109 s68.2.2.2.2.2.2.2.2.2.2.2.1, ∃ o113 : Own (kI .i64) 3 w' w.heap.size v112 s68.2.2.2.2.2.2.2.2.2.2.2.2.1, OffV v97 v112 ∧ OffV v100 v103 ∧ OffV v100 v106 ∧ OffV v103 v106 ∧ ρ' 1 = V1_0 ∧ ρ' 5 = .int .i64 (Int.tmod (IntKind.i64.wrap a0) 5) ∧ ρ' 6 = .pointer (some ⟨G28, 0, none⟩) ∧ ρ' 8 = .pointer (some ⟨G44, 0, none⟩) ∧ ρ' 9 = .int .i64 s68.1 ∧ Blk w' G28 139 [Seg.cell v94 o95.one, Seg.cell v97 o98.one, Seg.cell (.int .i64 s68.2.2.2.1), Seg.cell (.bool s68.2.2.2.2.1), Seg.cell (.bool s68.2.2.2.2.2.1), Seg.cell (.int .i64 s68.2.2.2.2.2.2.1), Seg.cell (.int .i64 s68.2.2.2.2.2.2.2.1)] ∧ Blk w' G44 65 [Seg.cell v100 o101.one, Seg.cell v103 o104.one, Seg.cell v106 o107.one, Seg.cell v109 o110.one, Seg.cell v112 o113.one, Seg.cell (.int .i64 s68.2.2.2.2.2.2.2.2.2.2.2.2.2.1), Seg.cell (.int .i64 s68.2.2.2.2.2.2.2.2.2.2.2.2.2.2.1), Seg.cell (.int .i64 s68.2.2.2.2.2.2.2.2.2.2.2.2.2.2.2)] ∧ Gr w w') l70 ?_ ?_
  ·skip
   exact ⟨u32, u35, u48, u51, u54, u57, u60, o33, o36, o49, o52, o55, o58, o61, a66, a63, a64, a65, e1, rfl, rfl, rfl, rfl, b30, b46, fB⟩
  rintro s68 x121 ρ119 w120 ⟨v94, v97, v100, v103, v106, v109, v112, o95, o98, o101, o104, o107, o110, o113, a115, a116, a117, a118, e1, e5, e6, e8, e9, b30, b46, fB⟩ h
  unfold rickyardlaw15_PressActs.s0 at h
  refine cw_seq ?_
  refine cw_seq ?_
  refine cw_region ?_
  refine ol_val (v := .int .i64 s68.1) (by exact xr_move rfl e9) rfl rfl rfl ?_
  refine ol_val (v := V1_0) (by exact xr_move rfl e1) rfl rfl rfl ?_
  refine ol_val (v := .int .i64 (List.length a1 : Int)) (by exact xr_lenN rfl Try.underlying82 rfl (RdN.gr R1_0 D_rickyardlaw15_Act.gr fB)) rfl rfl rfl ?_
  refine ol_val (v := .bool (decide (s68.1 < (List.length a1 : Int)))) (by exact xr_lss rfl rfl rfl) rfl rfl rfl ?_
  refine ol_nil ?_
  rcases is h with ⟨c122, h⟩ | ⟨c122, h⟩
  ·refine cw_condT rfl c122 ?_
   refine cw_skip ?_
   refine cw_seq ?_
   refine cw_block ?_
   refine cw_seq ?_
   refine cw_seq ?_
   refine rd_region mo ?_
   intro w123 q124
   have b30 := b30.gr q124
   have b46 := b46.gr q124
   have o95 := o95.gr q124
   have o98 := o98.gr q124
   have o101 := o101.gr q124
   have o104 := o104.gr q124
   have o107 := o107.gr q124
   have o110 := o110.gr q124
   have o113 := o113.gr q124
   have fB := fB.gr q124
   obtain ⟨g125, h⟩ := gs h
   refine rd_drawL 0 6 [fun vz wz => vz = (.pointer (some ⟨G28, 0, none⟩) : Value), fun vz wz => vz = (.pointer (some ⟨G44, 0, none⟩) : Value), fun vz wz => vz = (V1_0 : Value), fun vz wz => vz = (.int .i64 s68.1 : Value), fun vz wz => vz = (.pointer (some ⟨(sb V1_0), so V1_0 + Int.toNat s68.1 * 8, none⟩) : Value), fun vz wz => vz = (aggV [Seg.cell (.int .i64 ((ix a1 s68.1).Kind)), Seg.cell (.int .i64 ((ix a1 s68.1).At)), Seg.cell (.int .i64 ((ix a1 s68.1).I)), Seg.cell (cellAt w (sb V1_0) (so V1_0 + Int.toNat s68.1 * 8 + 3)) (N_rickyardlaw15_Act R1_0 g125.1 g125.2).2.1.one, Seg.cell (.int .i64 (((ix a1 s68.1).A).Kind)), Seg.cell (.int .i64 (((ix a1 s68.1).A).At)), Seg.cell (.int .u64 (((ix a1 s68.1).A).W)), Seg.cell (cellAt w (sb V1_0) (so V1_0 + Int.toNat s68.1 * 8 + 7)) (N_rickyardlaw15_Act R1_0 g125.1 g125.2).2.2.one] : Value)] rfl ⟨fun _ _ _ h _ => h, fun _ _ _ h _ => h, fun _ _ _ h _ => h, fun _ _ _ h _ => h, fun _ _ _ h _ => h, fun _ _ _ h _ => h, trivial⟩ ?_ ?_
   ·refine ⟨?_, ?_, ?_, ?_, ?_, ?_, trivial⟩
    ·intro ρz wz hz hk hd
     exact sk_val (v := .pointer (some ⟨G28, 0, none⟩)) (by exact xr_move rfl ((hk 6 rfl).trans e6)) rfl rfl
    ·intro ρz wz hz hk hd
     exact sk_val (v := .pointer (some ⟨G44, 0, none⟩)) (by exact xr_move rfl ((hk 8 rfl).trans e8)) rfl rfl
    ·intro ρz wz hz hk hd
     exact sk_val (v := V1_0) (by exact xr_move rfl ((hk 1 rfl).trans e1)) rfl rfl
    ·intro ρz wz hz hk hd
     exact sk_val (v := .int .i64 s68.1) (by exact xr_move rfl ((hk 9 rfl).trans e9)) rfl rfl
    ·intro ρz wz hz hk hd
     have d40 := hd 2 rfl rfl 40 rfl
     have d41 := hd 3 rfl rfl 41 rfl
     exact sk_val (by exact xr_indexN (v := V1_0) rfl Try.underlying82 sz85 d40 (RdN.gr R1_0 D_rickyardlaw15_Act.gr (fB.gr hz)) d41 g125.1 g125.2) rfl rfl
    intro ρz wz hz hk hd
    have d42 := hd 4 rfl rfl 42 rfl
    exact sk_val (by exact xr_loadS (ss := [Seg.cell (.int .i64 ((ix a1 s68.1).Kind)), Seg.cell (.int .i64 ((ix a1 s68.1).At)), Seg.cell (.int .i64 ((ix a1 s68.1).I)), Seg.cell (cellAt w (sb V1_0) (so V1_0 + Int.toNat s68.1 * 8 + 3)) (N_rickyardlaw15_Act R1_0 g125.1 g125.2).2.1.one, Seg.cell (.int .i64 (((ix a1 s68.1).A).Kind)), Seg.cell (.int .i64 (((ix a1 s68.1).A).At)), Seg.cell (.int .u64 (((ix a1 s68.1).A).W)), Seg.cell (cellAt w (sb V1_0) (so V1_0 + Int.toNat s68.1 * 8 + 7)) (N_rickyardlaw15_Act R1_0 g125.1 g125.2).2.2.one]) rfl ag85 sz85 rfl d42 (At.gr (N_rickyardlaw15_Act R1_0 g125.1 g125.2).1 (fB.gr hz))) rfl rfl
   intro ρ126 w127 q128 hk hd
   have e1 := (hk 1 rfl).trans e1
   have e5 := (hk 5 rfl).trans e5
   have e6 := (hk 6 rfl).trans e6
   have e8 := (hk 8 rfl).trans e8
   have e9 := (hk 9 rfl).trans e9
   have e38 := hd 0 rfl rfl 38 rfl
   have e39 := hd 1 rfl rfl 39 rfl
   have e43 := hd 5 rfl rfl 43 rfl
   have b30 := b30.gr q128
   have b46 := b46.gr q128
   have o95 := o95.gr q128
   have o98 := o98.gr q128
   have o101 := o101.gr q128
   have o104 := o104.gr q128
   have o107 := o107.gr q128
   have o110 := o110.gr q128
   have o113 := o113.gr q128
   have fB := fB.gr q128
   refine rd_seq (m := 6) (n := 9) rfl ?_
   obtain ⟨t129, k130, h⟩ := bs h
   have c164 : ∀ k, (k = G28 ∨ some k = Value.ownBlock v94 ∨ some k = Value.ownBlock v97 ∨ k = G44 ∨ some k = Value.ownBlock v100 ∨ some k = Value.ownBlock v103 ∨ some k = Value.ownBlock v106 ∨ some k = Value.ownBlock v109 ∨ some k = Value.ownBlock v112) → w.heap.size ≤ k := (cv_or (cv_eq z29) (cv_or (cv_own o95.geO) (cv_or (cv_own o98.geO) (cv_or (cv_eq z45) (cv_or (cv_own o101.geO) (cv_or (cv_own o104.geO) (cv_or (cv_own o107.geO) (cv_or (cv_own o110.geO) (cv_own o113.geO)))))))))
   refine ol_op (by exact opv_call rfl cal59 (ac e38 (ac e39 (ac e43 an))) (rickyardlaw15_do.ok fu _ (⟨s68.2.1, (⟨s68.2.2.1, s68.2.2.2.1⟩ : S_pmem_plan), s68.2.2.2.2.1, s68.2.2.2.2.2.1, s68.2.2.2.2.2.2.1, s68.2.2.2.2.2.2.2.1⟩ : S_pmem_Device) G28 v94 (Own.base o95 (Nat.zero_le _)) v97 (Own.base o98 (Nat.zero_le _)) b30 (⟨s68.2.2.2.2.2.2.2.2.1, s68.2.2.2.2.2.2.2.2.2.1, s68.2.2.2.2.2.2.2.2.2.2.1, s68.2.2.2.2.2.2.2.2.2.2.2.1, s68.2.2.2.2.2.2.2.2.2.2.2.2.1, s68.2.2.2.2.2.2.2.2.2.2.2.2.2.1, s68.2.2.2.2.2.2.2.2.2.2.2.2.2.2.1, s68.2.2.2.2.2.2.2.2.2.2.2.2.2.2.2⟩ : S_rickyardref05_Device) G44 v100 (Own.base o101 (Nat.zero_le _)) v103 (Own.base o104 (Nat.zero_le _)) v106 (Own.base o107 (Nat.zero_le _)) v109 (Own.base o110 (Nat.zero_le _)) v112 (Own.base o113 (Nat.zero_le _)) b46 (⟨(ix a1 s68.1).Kind, (ix a1 s68.1).At, (ix a1 s68.1).I, (ix a1 s68.1).B, ((ix a1 s68.1).A)⟩ : S_rickyardlaw15_Act) (cellAt w (sb V1_0) (so V1_0 + Int.toNat s68.1 * 8 + 3)) ((N_rickyardlaw15_Act R1_0 g125.1 g125.2).2.1.gr fB) (cellAt w (sb V1_0) (so V1_0 + Int.toNat s68.1 * 8 + 7)) ((N_rickyardlaw15_Act R1_0 g125.1 g125.2).2.2.gr fB) a115 a116 a117 a118 n67 (OffR.new (N_rickyardlaw15_Act R1_0 g125.1 g125.2).2.1 z29 rfl) (OffRV.call (N_rickyardlaw15_Act R1_0 g125.1 g125.2).2.1 o95 rfl) (OffRV.call (N_rickyardlaw15_Act R1_0 g125.1 g125.2).2.1 o98 rfl) (OffR.new (N_rickyardlaw15_Act R1_0 g125.1 g125.2).2.1 z45 rfl) (OffRV.call (N_rickyardlaw15_Act R1_0 g125.1 g125.2).2.1 o101 rfl) (OffRV.call (N_rickyardlaw15_Act R1_0 g125.1 g125.2).2.1 o104 rfl) (OffRV.call (N_rickyardlaw15_Act R1_0 g125.1 g125.2).2.1 o107 rfl) (OffRV.call (N_rickyardlaw15_Act R1_0 g125.1 g125.2).2.1 o110 rfl) (OffRV.call (N_rickyardlaw15_Act R1_0 g125.1 g125.2).2.1 o113 rfl) (OffR.new (N_rickyardlaw15_Act R1_0 g125.1 g125.2).2.2 z29 rfl) (OffRV.call (N_rickyardlaw15_Act R1_0 g125.1 g125.2).2.2 o95 rfl) (OffRV.call (N_rickyardlaw15_Act R1_0 g125.1 g125.2).2.2 o98 rfl) (OffR.new (N_rickyardlaw15_Act R1_0 g125.1 g125.2).2.2 z45 rfl) (OffRV.call (N_rickyardlaw15_Act R1_0 g125.1 g125.2).2.2 o101 rfl) (OffRV.call (N_rickyardlaw15_Act R1_0 g125.1 g125.2).2.2 o104 rfl) (OffRV.call (N_rickyardlaw15_Act R1_0 g125.1 g125.2).2.2 o107 rfl) (OffRV.call (N_rickyardlaw15_Act R1_0 g125.1 g125.2).2.2 o110 rfl) (OffRV.call (N_rickyardlaw15_Act R1_0 g125.1 g125.2).2.2 o113 rfl) _ k130)) rfl rfl rfl ?_
   rintro _ w165 ⟨u132, u136, u140, u144, u148, u152, u156, o133, m134, o137, m138, o141, m142, o145, m146, o149, m150, o153, m154, o157, m158, a160, a161, a162, a163, rfl, b30, b46, q131⟩
   have o133 := Own.rebase o133 (fun g hg => (m134 g hg).elim (fun x => Nat.le_trans fB.size x) (c164 g))
   have o137 := Own.rebase o137 (fun g hg => (m138 g hg).elim (fun x => Nat.le_trans fB.size x) (c164 g))
   have o141 := Own.rebase o141 (fun g hg => (m142 g hg).elim (fun x => Nat.le_trans fB.size x) (c164 g))
   have o145 := Own.rebase o145 (fun g hg => (m146 g hg).elim (fun x => Nat.le_trans fB.size x) (c164 g))
   have o149 := Own.rebase o149 (fun g hg => (m150 g hg).elim (fun x => Nat.le_trans fB.size x) (c164 g))
   have o153 := Own.rebase o153 (fun g hg => (m154 g hg).elim (fun x => Nat.le_trans fB.size x) (c164 g))
   have o157 := Own.rebase o157 (fun g hg => (m158 g hg).elim (fun x => Nat.le_trans fB.size x) (c164 g))
   have fB := fB.call q131 (fun k h => .inl (c164 k h))
   refine ol_val (v := .bool (!t129.1)) (by exact xr_not rfl rfl) rfl rfl rfl ?_
   refine ol_val (v := .bool (!t129.1)) (by exact xr_move rfl rfl) rfl rfl rfl ?_
   refine ol_nilK ?_
   rcases is h with ⟨c166, h⟩ | ⟨c166, h⟩
   ·skip
    refine rd_drawL 9 15 [fun _ _ => True, fun _ _ => True, fun _ _ => True, fun _ _ => True, fun _ _ => True, fun _ _ => True, fun _ _ => True, fun _ _ => True, fun _ _ => True, fun vz _ => vz = undef, fun vz _ => vz = undef, fun vz _ => vz = undef, fun vz _ => vz = undef, fun vz _ => vz = undef, fun vz _ => vz = undef] rfl ⟨fun _ _ _ h _ => h, fun _ _ _ h _ => h, fun _ _ _ h _ => h, fun _ _ _ h _ => h, fun _ _ _ h _ => h, fun _ _ _ h _ => h, fun _ _ _ h _ => h, fun _ _ _ h _ => h, fun _ _ _ h _ => h, fun _ _ _ h _ => h, fun _ _ _ h _ => h, fun _ _ _ h _ => h, fun _ _ _ h _ => h, fun _ _ _ h _ => h, fun _ _ _ h _ => h, trivial⟩ ?_ ?_
    ·refine ⟨?_, ?_, ?_, ?_, ?_, ?_, trivial⟩
     ·intro ρz wz hz hk hd
      exact sk_skip rfl rfl ((hk 46 rfl).trans rfl) c166 rfl
     ·intro ρz wz hz hk hd
      exact sk_skip rfl rfl ((hk 46 rfl).trans rfl) c166 rfl
     ·intro ρz wz hz hk hd
      exact sk_skip rfl rfl ((hk 46 rfl).trans rfl) c166 rfl
     ·intro ρz wz hz hk hd
      exact sk_skip rfl rfl ((hk 46 rfl).trans rfl) c166 rfl
     ·intro ρz wz hz hk hd
      exact sk_skip rfl rfl ((hk 46 rfl).trans rfl) c166 rfl
     intro ρz wz hz hk hd
     exact sk_skip rfl rfl ((hk 46 rfl).trans rfl) c166 rfl
    intro ρ167 w168 q169 hk hd
    have e1 := (hk 1 rfl).trans e1
    have e5 := (hk 5 rfl).trans e5
    have e6 := (hk 6 rfl).trans e6
    have e8 := (hk 8 rfl).trans e8
    have e9 := (hk 9 rfl).trans e9
    have e46 := (hk 46 rfl).trans rfl
    have e47 := hd 9 rfl rfl 47 rfl
    have e48 := hd 10 rfl rfl 48 rfl
    have e49 := hd 11 rfl rfl 49 rfl
    have e50 := hd 12 rfl rfl 50 rfl
    have e51 := hd 13 rfl rfl 51 rfl
    have e52 := hd 14 rfl rfl 52 rfl
    have b30 := b30.gr q169
    have b46 := b46.gr q169
    have o133 := o133.gr q169
    have o137 := o137.gr q169
    have o141 := o141.gr q169
    have o145 := o145.gr q169
    have o149 := o149.gr q169
    have o153 := o153.gr q169
    have o157 := o157.gr q169
    have fB := fB.gr q169
    refine rd_seq (m := 15) (n := 18) rfl ?_
    refine ol_gskip rfl rfl rfl rfl e46 c166 ?_
    refine ol_val (v := .bool true) (by exact xr_pickT rfl e46 c166 rfl) rfl rfl rfl ?_
    refine ol_val (v := .bool true) (by exact xr_move rfl rfl) rfl rfl rfl ?_
    refine ol_nilK ?_
    refine rd_drawL 18 26 [fun _ _ => True, fun _ _ => True, fun _ _ => True, fun _ _ => True, fun _ _ => True, fun _ _ => True, fun _ _ => True, fun _ _ => True, fun _ _ => True, fun _ _ => True, fun _ _ => True, fun _ _ => True, fun _ _ => True, fun _ _ => True, fun _ _ => True, fun _ _ => True, fun _ _ => True, fun _ _ => True, fun vz _ => vz = undef, fun vz _ => vz = undef, fun vz _ => vz = undef, fun vz _ => vz = undef, fun vz _ => vz = undef, fun vz _ => vz = undef, fun vz _ => vz = undef, fun vz _ => vz = undef] rfl ⟨fun _ _ _ h _ => h, fun _ _ _ h _ => h, fun _ _ _ h _ => h, fun _ _ _ h _ => h, fun _ _ _ h _ => h, fun _ _ _ h _ => h, fun _ _ _ h _ => h, fun _ _ _ h _ => h, fun _ _ _ h _ => h, fun _ _ _ h _ => h, fun _ _ _ h _ => h, fun _ _ _ h _ => h, fun _ _ _ h _ => h, fun _ _ _ h _ => h, fun _ _ _ h _ => h, fun _ _ _ h _ => h, fun _ _ _ h _ => h, fun _ _ _ h _ => h, fun _ _ _ h _ => h, fun _ _ _ h _ => h, fun _ _ _ h _ => h, fun _ _ _ h _ => h, fun _ _ _ h _ => h, fun _ _ _ h _ => h, fun _ _ _ h _ => h, fun _ _ _ h _ => h, trivial⟩ ?_ ?_
    ·refine ⟨?_, ?_, ?_, ?_, ?_, ?_, ?_, ?_, trivial⟩
     ·intro ρz wz hz hk hd
      exact sk_skip rfl rfl ((hk 55 rfl).trans rfl) rfl rfl
     ·intro ρz wz hz hk hd
      exact sk_skip rfl rfl ((hk 55 rfl).trans rfl) rfl rfl
     ·intro ρz wz hz hk hd
      exact sk_skip rfl rfl ((hk 55 rfl).trans rfl) rfl rfl
     ·intro ρz wz hz hk hd
      exact sk_skip rfl rfl ((hk 55 rfl).trans rfl) rfl rfl
     ·intro ρz wz hz hk hd
      exact sk_skip rfl rfl ((hk 55 rfl).trans rfl) rfl rfl
     ·intro ρz wz hz hk hd
      exact sk_skip rfl rfl ((hk 55 rfl).trans rfl) rfl rfl
     ·intro ρz wz hz hk hd
      exact sk_skip rfl rfl ((hk 55 rfl).trans rfl) rfl rfl
     intro ρz wz hz hk hd
     exact sk_skip rfl rfl ((hk 55 rfl).trans rfl) rfl rfl
    intro ρ170 w171 q172 hk hd
    have e1 := (hk 1 rfl).trans e1
    have e5 := (hk 5 rfl).trans e5
    have e6 := (hk 6 rfl).trans e6
    have e8 := (hk 8 rfl).trans e8
    have e9 := (hk 9 rfl).trans e9
    have e47 := (hk 47 rfl).trans e47
    have e48 := (hk 48 rfl).trans e48
    have e49 := (hk 49 rfl).trans e49
    have e50 := (hk 50 rfl).trans e50
    have e51 := (hk 51 rfl).trans e51
    have e52 := (hk 52 rfl).trans e52
    have e53 := (hk 53 rfl).trans rfl
    have e55 := (hk 55 rfl).trans rfl
    have e56 := hd 18 rfl rfl 56 rfl
    have e57 := hd 19 rfl rfl 57 rfl
    have e58 := hd 20 rfl rfl 58 rfl
    have e59 := hd 21 rfl rfl 59 rfl
    have e60 := hd 22 rfl rfl 60 rfl
    have e61 := hd 23 rfl rfl 61 rfl
    have e62 := hd 24 rfl rfl 62 rfl
    have e63 := hd 25 rfl rfl 63 rfl
    have b30 := b30.gr q172
    have b46 := b46.gr q172
    have o133 := o133.gr q172
    have o137 := o137.gr q172
    have o141 := o141.gr q172
    have o145 := o145.gr q172
    have o149 := o149.gr q172
    have o153 := o153.gr q172
    have o157 := o157.gr q172
    have fB := fB.gr q172
    refine rd_seq (m := 26) (n := 29) rfl ?_
    refine ol_gskip rfl rfl rfl rfl e55 rfl ?_
    refine ol_val (v := .bool true) (by exact xr_pickT rfl e55 rfl rfl) rfl rfl rfl ?_
    refine ol_val (v := .bool true) (by exact xr_move rfl rfl) rfl rfl rfl ?_
    refine ol_nilK ?_
    refine rd_drawL 29 37 [fun _ _ => True, fun _ _ => True, fun _ _ => True, fun _ _ => True, fun _ _ => True, fun _ _ => True, fun _ _ => True, fun _ _ => True, fun _ _ => True, fun _ _ => True, fun _ _ => True, fun _ _ => True, fun _ _ => True, fun _ _ => True, fun _ _ => True, fun _ _ => True, fun _ _ => True, fun _ _ => True, fun _ _ => True, fun _ _ => True, fun _ _ => True, fun _ _ => True, fun _ _ => True, fun _ _ => True, fun _ _ => True, fun _ _ => True, fun _ _ => True, fun _ _ => True, fun _ _ => True, fun vz _ => vz = undef, fun vz _ => vz = undef, fun vz _ => vz = undef, fun vz _ => vz = undef, fun vz _ => vz = undef, fun vz _ => vz = undef, fun vz _ => vz = undef, fun vz _ => vz = undef] rfl ⟨fun _ _ _ h _ => h, fun _ _ _ h _ => h, fun _ _ _ h _ => h, fun _ _ _ h _ => h, fun _ _ _ h _ => h, fun _ _ _ h _ => h, fun _ _ _ h _ => h, fun _ _ _ h _ => h, fun _ _ _ h _ => h, fun _ _ _ h _ => h, fun _ _ _ h _ => h, fun _ _ _ h _ => h, fun _ _ _ h _ => h, fun _ _ _ h _ => h, fun _ _ _ h _ => h, fun _ _ _ h _ => h, fun _ _ _ h _ => h, fun _ _ _ h _ => h, fun _ _ _ h _ => h, fun _ _ _ h _ => h, fun _ _ _ h _ => h, fun _ _ _ h _ => h, fun _ _ _ h _ => h, fun _ _ _ h _ => h, fun _ _ _ h _ => h, fun _ _ _ h _ => h, fun _ _ _ h _ => h, fun _ _ _ h _ => h, fun _ _ _ h _ => h, fun _ _ _ h _ => h, fun _ _ _ h _ => h, fun _ _ _ h _ => h, fun _ _ _ h _ => h, fun _ _ _ h _ => h, fun _ _ _ h _ => h, fun _ _ _ h _ => h, fun _ _ _ h _ => h, trivial⟩ ?_ ?_
    ·refine ⟨?_, ?_, ?_, ?_, ?_, ?_, ?_, ?_, trivial⟩
     ·intro ρz wz hz hk hd
      exact sk_skip rfl rfl ((hk 66 rfl).trans rfl) rfl rfl
     ·intro ρz wz hz hk hd
      exact sk_skip rfl rfl ((hk 66 rfl).trans rfl) rfl rfl
     ·intro ρz wz hz hk hd
      exact sk_skip rfl rfl ((hk 66 rfl).trans rfl) rfl rfl
     ·intro ρz wz hz hk hd
      exact sk_skip rfl rfl ((hk 66 rfl).trans rfl) rfl rfl
     ·intro ρz wz hz hk hd
      exact sk_skip rfl rfl ((hk 66 rfl).trans rfl) rfl rfl
     ·intro ρz wz hz hk hd
      exact sk_skip rfl rfl ((hk 66 rfl).trans rfl) rfl rfl
     ·intro ρz wz hz hk hd
      exact sk_skip rfl rfl ((hk 66 rfl).trans rfl) rfl rfl
     intro ρz wz hz hk hd
     exact sk_skip rfl rfl ((hk 66 rfl).trans rfl) rfl rfl
    intro ρ173 w174 q175 hk hd
    have e1 := (hk 1 rfl).trans e1
    have e5 := (hk 5 rfl).trans e5
    have e6 := (hk 6 rfl).trans e6
    have e8 := (hk 8 rfl).trans e8
    have e9 := (hk 9 rfl).trans e9
    have e47 := (hk 47 rfl).trans e47
    have e48 := (hk 48 rfl).trans e48
    have e49 := (hk 49 rfl).trans e49
    have e50 := (hk 50 rfl).trans e50
    have e51 := (hk 51 rfl).trans e51
    have e52 := (hk 52 rfl).trans e52
    have e53 := (hk 53 rfl).trans e53
    have e56 := (hk 56 rfl).trans e56
    have e57 := (hk 57 rfl).trans e57
    have e58 := (hk 58 rfl).trans e58
    have e59 := (hk 59 rfl).trans e59
    have e60 := (hk 60 rfl).trans e60
    have e61 := (hk 61 rfl).trans e61
    have e62 := (hk 62 rfl).trans e62
    have e63 := (hk 63 rfl).trans e63
    have e64 := (hk 64 rfl).trans rfl
    have e66 := (hk 66 rfl).trans rfl
    have e67 := hd 29 rfl rfl 67 rfl
    have e68 := hd 30 rfl rfl 68 rfl
    have e69 := hd 31 rfl rfl 69 rfl
    have e70 := hd 32 rfl rfl 70 rfl
    have e71 := hd 33 rfl rfl 71 rfl
    have e72 := hd 34 rfl rfl 72 rfl
    have e73 := hd 35 rfl rfl 73 rfl
    have e74 := hd 36 rfl rfl 74 rfl
    have b30 := b30.gr q175
    have b46 := b46.gr q175
    have o133 := o133.gr q175
    have o137 := o137.gr q175
    have o141 := o141.gr q175
    have o145 := o145.gr q175
    have o149 := o149.gr q175
    have o153 := o153.gr q175
    have o157 := o157.gr q175
    have fB := fB.gr q175
    refine rd_seq (m := 37) (n := 40) rfl ?_
    refine ol_gskip rfl rfl rfl rfl e66 rfl ?_
    refine ol_val (v := .bool true) (by exact xr_pickT rfl e66 rfl rfl) rfl rfl rfl ?_
    refine ol_val (v := .bool true) (by exact xr_move rfl rfl) rfl rfl rfl ?_
    refine ol_nilK ?_
    refine rd_drawL 40 43 [fun _ _ => True, fun _ _ => True, fun _ _ => True, fun _ _ => True, fun _ _ => True, fun _ _ => True, fun _ _ => True, fun _ _ => True, fun _ _ => True, fun _ _ => True, fun _ _ => True, fun _ _ => True, fun _ _ => True, fun _ _ => True, fun _ _ => True, fun _ _ => True, fun _ _ => True, fun _ _ => True, fun _ _ => True, fun _ _ => True, fun _ _ => True, fun _ _ => True, fun _ _ => True, fun _ _ => True, fun _ _ => True, fun _ _ => True, fun _ _ => True, fun _ _ => True, fun _ _ => True, fun _ _ => True, fun _ _ => True, fun _ _ => True, fun _ _ => True, fun _ _ => True, fun _ _ => True, fun _ _ => True, fun _ _ => True, fun _ _ => True, fun _ _ => True, fun _ _ => True, fun vz _ => vz = undef, fun vz _ => vz = undef, fun vz _ => vz = undef] rfl ⟨fun _ _ _ h _ => h, fun _ _ _ h _ => h, fun _ _ _ h _ => h, fun _ _ _ h _ => h, fun _ _ _ h _ => h, fun _ _ _ h _ => h, fun _ _ _ h _ => h, fun _ _ _ h _ => h, fun _ _ _ h _ => h, fun _ _ _ h _ => h, fun _ _ _ h _ => h, fun _ _ _ h _ => h, fun _ _ _ h _ => h, fun _ _ _ h _ => h, fun _ _ _ h _ => h, fun _ _ _ h _ => h, fun _ _ _ h _ => h, fun _ _ _ h _ => h, fun _ _ _ h _ => h, fun _ _ _ h _ => h, fun _ _ _ h _ => h, fun _ _ _ h _ => h, fun _ _ _ h _ => h, fun _ _ _ h _ => h, fun _ _ _ h _ => h, fun _ _ _ h _ => h, fun _ _ _ h _ => h, fun _ _ _ h _ => h, fun _ _ _ h _ => h, fun _ _ _ h _ => h, fun _ _ _ h _ => h, fun _ _ _ h _ => h, fun _ _ _ h _ => h, fun _ _ _ h _ => h, fun _ _ _ h _ => h, fun _ _ _ h _ => h, fun _ _ _ h _ => h, fun _ _ _ h _ => h, fun _ _ _ h _ => h, fun _ _ _ h _ => h, fun _ _ _ h _ => h, fun _ _ _ h _ => h, fun _ _ _ h _ => h, trivial⟩ ?_ ?_
    ·refine ⟨?_, ?_, ?_, trivial⟩
     ·intro ρz wz hz hk hd
      exact sk_skip rfl rfl ((hk 77 rfl).trans rfl) rfl rfl
     ·intro ρz wz hz hk hd
      exact sk_skip rfl rfl ((hk 77 rfl).trans rfl) rfl rfl
     intro ρz wz hz hk hd
     exact sk_skip rfl rfl ((hk 77 rfl).trans rfl) rfl rfl
    intro ρ176 w177 q178 hk hd
    have e1 := (hk 1 rfl).trans e1
    have e5 := (hk 5 rfl).trans e5
    have e6 := (hk 6 rfl).trans e6
    have e8 := (hk 8 rfl).trans e8
    have e9 := (hk 9 rfl).trans e9
    have e47 := (hk 47 rfl).trans e47
    have e48 := (hk 48 rfl).trans e48
    have e49 := (hk 49 rfl).trans e49
    have e50 := (hk 50 rfl).trans e50
    have e51 := (hk 51 rfl).trans e51
    have e52 := (hk 52 rfl).trans e52
    have e53 := (hk 53 rfl).trans e53
    have e56 := (hk 56 rfl).trans e56
    have e57 := (hk 57 rfl).trans e57
    have e58 := (hk 58 rfl).trans e58
    have e59 := (hk 59 rfl).trans e59
    have e60 := (hk 60 rfl).trans e60
    have e61 := (hk 61 rfl).trans e61
    have e62 := (hk 62 rfl).trans e62
    have e63 := (hk 63 rfl).trans e63
    have e64 := (hk 64 rfl).trans e64
    have e67 := (hk 67 rfl).trans e67
    have e68 := (hk 68 rfl).trans e68
    have e69 := (hk 69 rfl).trans e69
    have e70 := (hk 70 rfl).trans e70
    have e71 := (hk 71 rfl).trans e71
    have e72 := (hk 72 rfl).trans e72
    have e73 := (hk 73 rfl).trans e73
    have e74 := (hk 74 rfl).trans e74
    have e75 := (hk 75 rfl).trans rfl
    have e77 := (hk 77 rfl).trans rfl
    have e78 := hd 40 rfl rfl 78 rfl
    have e79 := hd 41 rfl rfl 79 rfl
    have e80 := hd 42 rfl rfl 80 rfl
    have b30 := b30.gr q178
    have b46 := b46.gr q178
    have o133 := o133.gr q178
    have o137 := o137.gr q178
    have o141 := o141.gr q178
    have o145 := o145.gr q178
    have o149 := o149.gr q178
    have o153 := o153.gr q178
    have o157 := o157.gr q178
    have fB := fB.gr q178
    refine rd_seq (m := 43) (n := 47) rfl ?_
    refine ol_gskip rfl rfl rfl rfl e77 rfl ?_
    refine ol_gskip rfl rfl rfl rfl e77 rfl ?_
    refine ol_gskip rfl rfl rfl rfl e77 rfl ?_
    refine ol_val (v := .bool true) (by exact xr_pickT rfl e77 rfl rfl) rfl rfl rfl ?_
    refine ol_nilK ?_
    refine rd_end rfl ?_
    refine cw_condT rfl rfl ?_
    refine cw_seq ?_
    refine cw_region ?_
    refine ol_val (v := .bool false) (by exact xr_assign rfl rfl) rfl rfl rfl ?_
    refine ol_nil ?_
    refine cw_ret ?_
    repeat (first | with_reducible refine thn_r ?_ | with_reducible refine blk_r ?_)
    obtain rfl := Option.some.inj h
    refine lp_ret ?_
    rintro rfl
    repeat (first | with_reducible refine thn_r ?_ | with_reducible refine blk_r ?_)
    have h := h71
    obtain rfl := Option.some.inj h
    refine fin_ret1 Try.results13 rfl ?_
    exact ⟨_, rfl, rfl, fB⟩
   obtain ⟨t179, k180, h⟩ := bs h
   refine rd_drawL 9 15 [fun _ _ => True, fun _ _ => True, fun _ _ => True, fun _ _ => True, fun _ _ => True, fun _ _ => True, fun _ _ => True, fun _ _ => True, fun _ _ => True, fun vz wz => vz = (.pointer (some ⟨G28, 0, none⟩) : Value), fun vz wz => vz = (.int .i64 t179 : Value), fun vz wz => vz = (.pointer (some ⟨G44, 0, none⟩) : Value), fun vz wz => vz = (.pointer (some ⟨G44, 0, none⟩) : Value), fun vz wz => vz = (.pointer (some ⟨G44, 7, none⟩) : Value), fun vz wz => vz = (.int .i64 t129.2.2.Steps : Value)] rfl ⟨fun _ _ _ h _ => h, fun _ _ _ h _ => h, fun _ _ _ h _ => h, fun _ _ _ h _ => h, fun _ _ _ h _ => h, fun _ _ _ h _ => h, fun _ _ _ h _ => h, fun _ _ _ h _ => h, fun _ _ _ h _ => h, fun _ _ _ h _ => h, fun _ _ _ h _ => h, fun _ _ _ h _ => h, fun _ _ _ h _ => h, fun _ _ _ h _ => h, fun _ _ _ h _ => h, trivial⟩ ?_ ?_
   ·refine ⟨?_, ?_, ?_, ?_, ?_, ?_, trivial⟩
    ·intro ρz wz hz hk hd
     exact sk_gval (v := .pointer (some ⟨G28, 0, none⟩)) (by exact xr_move rfl ((hk 6 rfl).trans e6)) rfl rfl ((hk 46 rfl).trans rfl) c166 rfl
    ·intro ρz wz hz hk hd
     have d47 := hd 9 rfl rfl 47 rfl
     refine sk_gop (by exact opv_call rfl cal37 (ac d47 an) (pmem_Device_Steps.ok fu _ t129.2.1 G28 u132 (o133.gr hz).rd u136 (o137.gr hz).rd (b30.gr hz) _ k180)) rfl rfl ((hk 46 rfl).trans rfl) c166 ?_
     rintro _ wy ⟨rfl, q181⟩
     exact ⟨rfl, q181⟩
    ·intro ρz wz hz hk hd
     exact sk_gval (v := .pointer (some ⟨G44, 0, none⟩)) (by exact xr_move rfl ((hk 8 rfl).trans e8)) rfl rfl ((hk 46 rfl).trans rfl) c166 rfl
    ·intro ρz wz hz hk hd
     have d49 := hd 11 rfl rfl 49 rfl
     exact sk_gval (v := .pointer (some ⟨G44, 0, none⟩)) (by exact xr_nilCheck rfl d49) rfl rfl ((hk 46 rfl).trans rfl) c166 rfl
    ·intro ρz wz hz hk hd
     have d50 := hd 12 rfl rfl 50 rfl
     exact sk_gval (v := .pointer (some ⟨G44, 7, none⟩)) (by exact xr_fieldAddr (p := 0) (q := 7) rfl fl65_7 d50) rfl rfl ((hk 46 rfl).trans rfl) c166 rfl
    intro ρz wz hz hk hd
    have d51 := hd 13 rfl rfl 51 rfl
    exact sk_gval (v := .int .i64 t129.2.2.Steps) (by exact xr_load1 (v := .int .i64 t129.2.2.Steps) rfl ag3 d51 ((b46.gr hz).seg 7 rfl rfl)) rfl rfl ((hk 46 rfl).trans rfl) c166 rfl
   intro ρ182 w183 q184 hk hd
   have e1 := (hk 1 rfl).trans e1
   have e5 := (hk 5 rfl).trans e5
   have e6 := (hk 6 rfl).trans e6
   have e8 := (hk 8 rfl).trans e8
   have e9 := (hk 9 rfl).trans e9
   have e46 := (hk 46 rfl).trans rfl
   have e47 := hd 9 rfl rfl 47 rfl
   have e48 := hd 10 rfl rfl 48 rfl
   have e49 := hd 11 rfl rfl 49 rfl
   have e50 := hd 12 rfl rfl 50 rfl
   have e51 := hd 13 rfl rfl 51 rfl
   have e52 := hd 14 rfl rfl 52 rfl
   have b30 := b30.gr q184
   have b46 := b46.gr q184
   have o133 := o133.gr q184
   have o137 := o137.gr q184
   have o141 := o141.gr q184
   have o145 := o145.gr q184
   have o149 := o149.gr q184
   have o153 := o153.gr q184
   have o157 := o157.gr q184
   have fB := fB.gr q184
   refine rd_seq (m := 15) (n := 18) rfl ?_
   refine ol_gval (v := .bool (!decide (t179 = t129.2.2.Steps))) (by exact xr_neI rfl Try.underlying3 rfl e48 e52) rfl rfl rfl rfl e46 c166 ?_
   refine ol_val (v := .bool (!decide (t179 = t129.2.2.Steps))) (by exact xr_pickF rfl e46 c166 rfl) rfl rfl rfl ?_
   refine ol_val (v := .bool (!decide (t179 = t129.2.2.Steps))) (by exact xr_move rfl rfl) rfl rfl rfl ?_
   refine ol_nilK ?_
   rcases is h with ⟨c185, h⟩ | ⟨c185, h⟩
   ·skip
    refine rd_drawL 18 26 [fun _ _ => True, fun _ _ => True, fun _ _ => True, fun _ _ => True, fun _ _ => True, fun _ _ => True, fun _ _ => True, fun _ _ => True, fun _ _ => True, fun _ _ => True, fun _ _ => True, fun _ _ => True, fun _ _ => True, fun _ _ => True, fun _ _ => True, fun _ _ => True, fun _ _ => True, fun _ _ => True, fun vz _ => vz = undef, fun vz _ => vz = undef, fun vz _ => vz = undef, fun vz _ => vz = undef, fun vz _ => vz = undef, fun vz _ => vz = undef, fun vz _ => vz = undef, fun vz _ => vz = undef] rfl ⟨fun _ _ _ h _ => h, fun _ _ _ h _ => h, fun _ _ _ h _ => h, fun _ _ _ h _ => h, fun _ _ _ h _ => h, fun _ _ _ h _ => h, fun _ _ _ h _ => h, fun _ _ _ h _ => h, fun _ _ _ h _ => h, fun _ _ _ h _ => h, fun _ _ _ h _ => h, fun _ _ _ h _ => h, fun _ _ _ h _ => h, fun _ _ _ h _ => h, fun _ _ _ h _ => h, fun _ _ _ h _ => h, fun _ _ _ h _ => h, fun _ _ _ h _ => h, fun _ _ _ h _ => h, fun _ _ _ h _ => h, fun _ _ _ h _ => h, fun _ _ _ h _ => h, fun _ _ _ h _ => h, fun _ _ _ h _ => h, fun _ _ _ h _ => h, fun _ _ _ h _ => h, trivial⟩ ?_ ?_
    ·refine ⟨?_, ?_, ?_, ?_, ?_, ?_, ?_, ?_, trivial⟩
     ·intro ρz wz hz hk hd
      exact sk_skip rfl rfl ((hk 55 rfl).trans rfl) c185 rfl
     ·intro ρz wz hz hk hd
      exact sk_skip rfl rfl ((hk 55 rfl).trans rfl) c185 rfl
     ·intro ρz wz hz hk hd
      exact sk_skip rfl rfl ((hk 55 rfl).trans rfl) c185 rfl
     ·intro ρz wz hz hk hd
      exact sk_skip rfl rfl ((hk 55 rfl).trans rfl) c185 rfl
     ·intro ρz wz hz hk hd
      exact sk_skip rfl rfl ((hk 55 rfl).trans rfl) c185 rfl
     ·intro ρz wz hz hk hd
      exact sk_skip rfl rfl ((hk 55 rfl).trans rfl) c185 rfl
     ·intro ρz wz hz hk hd
      exact sk_skip rfl rfl ((hk 55 rfl).trans rfl) c185 rfl
     intro ρz wz hz hk hd
     exact sk_skip rfl rfl ((hk 55 rfl).trans rfl) c185 rfl
    intro ρ186 w187 q188 hk hd
    have e1 := (hk 1 rfl).trans e1
    have e5 := (hk 5 rfl).trans e5
    have e6 := (hk 6 rfl).trans e6
    have e8 := (hk 8 rfl).trans e8
    have e9 := (hk 9 rfl).trans e9
    have e47 := (hk 47 rfl).trans e47
    have e48 := (hk 48 rfl).trans e48
    have e49 := (hk 49 rfl).trans e49
    have e50 := (hk 50 rfl).trans e50
    have e51 := (hk 51 rfl).trans e51
    have e52 := (hk 52 rfl).trans e52
    have e53 := (hk 53 rfl).trans rfl
    have e55 := (hk 55 rfl).trans rfl
    have e56 := hd 18 rfl rfl 56 rfl
    have e57 := hd 19 rfl rfl 57 rfl
    have e58 := hd 20 rfl rfl 58 rfl
    have e59 := hd 21 rfl rfl 59 rfl
    have e60 := hd 22 rfl rfl 60 rfl
    have e61 := hd 23 rfl rfl 61 rfl
    have e62 := hd 24 rfl rfl 62 rfl
    have e63 := hd 25 rfl rfl 63 rfl
    have b30 := b30.gr q188
    have b46 := b46.gr q188
    have o133 := o133.gr q188
    have o137 := o137.gr q188
    have o141 := o141.gr q188
    have o145 := o145.gr q188
    have o149 := o149.gr q188
    have o153 := o153.gr q188
    have o157 := o157.gr q188
    have fB := fB.gr q188
    refine rd_seq (m := 26) (n := 29) rfl ?_
    refine ol_gskip rfl rfl rfl rfl e55 c185 ?_
    refine ol_val (v := .bool true) (by exact xr_pickT rfl e55 c185 rfl) rfl rfl rfl ?_
    refine ol_val (v := .bool true) (by exact xr_move rfl rfl) rfl rfl rfl ?_
    refine ol_nilK ?_
    refine rd_drawL 29 37 [fun _ _ => True, fun _ _ => True, fun _ _ => True, fun _ _ => True, fun _ _ => True, fun _ _ => True, fun _ _ => True, fun _ _ => True, fun _ _ => True, fun _ _ => True, fun _ _ => True, fun _ _ => True, fun _ _ => True, fun _ _ => True, fun _ _ => True, fun _ _ => True, fun _ _ => True, fun _ _ => True, fun _ _ => True, fun _ _ => True, fun _ _ => True, fun _ _ => True, fun _ _ => True, fun _ _ => True, fun _ _ => True, fun _ _ => True, fun _ _ => True, fun _ _ => True, fun _ _ => True, fun vz _ => vz = undef, fun vz _ => vz = undef, fun vz _ => vz = undef, fun vz _ => vz = undef, fun vz _ => vz = undef, fun vz _ => vz = undef, fun vz _ => vz = undef, fun vz _ => vz = undef] rfl ⟨fun _ _ _ h _ => h, fun _ _ _ h _ => h, fun _ _ _ h _ => h, fun _ _ _ h _ => h, fun _ _ _ h _ => h, fun _ _ _ h _ => h, fun _ _ _ h _ => h, fun _ _ _ h _ => h, fun _ _ _ h _ => h, fun _ _ _ h _ => h, fun _ _ _ h _ => h, fun _ _ _ h _ => h, fun _ _ _ h _ => h, fun _ _ _ h _ => h, fun _ _ _ h _ => h, fun _ _ _ h _ => h, fun _ _ _ h _ => h, fun _ _ _ h _ => h, fun _ _ _ h _ => h, fun _ _ _ h _ => h, fun _ _ _ h _ => h, fun _ _ _ h _ => h, fun _ _ _ h _ => h, fun _ _ _ h _ => h, fun _ _ _ h _ => h, fun _ _ _ h _ => h, fun _ _ _ h _ => h, fun _ _ _ h _ => h, fun _ _ _ h _ => h, fun _ _ _ h _ => h, fun _ _ _ h _ => h, fun _ _ _ h _ => h, fun _ _ _ h _ => h, fun _ _ _ h _ => h, fun _ _ _ h _ => h, fun _ _ _ h _ => h, fun _ _ _ h _ => h, trivial⟩ ?_ ?_
    ·refine ⟨?_, ?_, ?_, ?_, ?_, ?_, ?_, ?_, trivial⟩
     ·intro ρz wz hz hk hd
      exact sk_skip rfl rfl ((hk 66 rfl).trans rfl) rfl rfl
     ·intro ρz wz hz hk hd
      exact sk_skip rfl rfl ((hk 66 rfl).trans rfl) rfl rfl
     ·intro ρz wz hz hk hd
      exact sk_skip rfl rfl ((hk 66 rfl).trans rfl) rfl rfl
     ·intro ρz wz hz hk hd
      exact sk_skip rfl rfl ((hk 66 rfl).trans rfl) rfl rfl
     ·intro ρz wz hz hk hd
      exact sk_skip rfl rfl ((hk 66 rfl).trans rfl) rfl rfl
     ·intro ρz wz hz hk hd
      exact sk_skip rfl rfl ((hk 66 rfl).trans rfl) rfl rfl
     ·intro ρz wz hz hk hd
      exact sk_skip rfl rfl ((hk 66 rfl).trans rfl) rfl rfl
     intro ρz wz hz hk hd
     exact sk_skip rfl rfl ((hk 66 rfl).trans rfl) rfl rfl
    intro ρ189 w190 q191 hk hd
    have e1 := (hk 1 rfl).trans e1
    have e5 := (hk 5 rfl).trans e5
    have e6 := (hk 6 rfl).trans e6
    have e8 := (hk 8 rfl).trans e8
    have e9 := (hk 9 rfl).trans e9
    have e47 := (hk 47 rfl).trans e47
    have e48 := (hk 48 rfl).trans e48
    have e49 := (hk 49 rfl).trans e49
    have e50 := (hk 50 rfl).trans e50
    have e51 := (hk 51 rfl).trans e51
    have e52 := (hk 52 rfl).trans e52
    have e53 := (hk 53 rfl).trans e53
    have e56 := (hk 56 rfl).trans e56
    have e57 := (hk 57 rfl).trans e57
    have e58 := (hk 58 rfl).trans e58
    have e59 := (hk 59 rfl).trans e59
    have e60 := (hk 60 rfl).trans e60
    have e61 := (hk 61 rfl).trans e61
    have e62 := (hk 62 rfl).trans e62
    have e63 := (hk 63 rfl).trans e63
    have e64 := (hk 64 rfl).trans rfl
    have e66 := (hk 66 rfl).trans rfl
    have e67 := hd 29 rfl rfl 67 rfl
    have e68 := hd 30 rfl rfl 68 rfl
    have e69 := hd 31 rfl rfl 69 rfl
    have e70 := hd 32 rfl rfl 70 rfl
    have e71 := hd 33 rfl rfl 71 rfl
    have e72 := hd 34 rfl rfl 72 rfl
    have e73 := hd 35 rfl rfl 73 rfl
    have e74 := hd 36 rfl rfl 74 rfl
    have b30 := b30.gr q191
    have b46 := b46.gr q191
    have o133 := o133.gr q191
    have o137 := o137.gr q191
    have o141 := o141.gr q191
    have o145 := o145.gr q191
    have o149 := o149.gr q191
    have o153 := o153.gr q191
    have o157 := o157.gr q191
    have fB := fB.gr q191
    refine rd_seq (m := 37) (n := 40) rfl ?_
    refine ol_gskip rfl rfl rfl rfl e66 rfl ?_
    refine ol_val (v := .bool true) (by exact xr_pickT rfl e66 rfl rfl) rfl rfl rfl ?_
    refine ol_val (v := .bool true) (by exact xr_move rfl rfl) rfl rfl rfl ?_
    refine ol_nilK ?_
    refine rd_drawL 40 43 [fun _ _ => True, fun _ _ => True, fun _ _ => True, fun _ _ => True, fun _ _ => True, fun _ _ => True, fun _ _ => True, fun _ _ => True, fun _ _ => True, fun _ _ => True, fun _ _ => True, fun _ _ => True, fun _ _ => True, fun _ _ => True, fun _ _ => True, fun _ _ => True, fun _ _ => True, fun _ _ => True, fun _ _ => True, fun _ _ => True, fun _ _ => True, fun _ _ => True, fun _ _ => True, fun _ _ => True, fun _ _ => True, fun _ _ => True, fun _ _ => True, fun _ _ => True, fun _ _ => True, fun _ _ => True, fun _ _ => True, fun _ _ => True, fun _ _ => True, fun _ _ => True, fun _ _ => True, fun _ _ => True, fun _ _ => True, fun _ _ => True, fun _ _ => True, fun _ _ => True, fun vz _ => vz = undef, fun vz _ => vz = undef, fun vz _ => vz = undef] rfl ⟨fun _ _ _ h _ => h, fun _ _ _ h _ => h, fun _ _ _ h _ => h, fun _ _ _ h _ => h, fun _ _ _ h _ => h, fun _ _ _ h _ => h, fun _ _ _ h _ => h, fun _ _ _ h _ => h, fun _ _ _ h _ => h, fun _ _ _ h _ => h, fun _ _ _ h _ => h, fun _ _ _ h _ => h, fun _ _ _ h _ => h, fun _ _ _ h _ => h, fun _ _ _ h _ => h, fun _ _ _ h _ => h, fun _ _ _ h _ => h, fun _ _ _ h _ => h, fun _ _ _ h _ => h, fun _ _ _ h _ => h, fun _ _ _ h _ => h, fun _ _ _ h _ => h, fun _ _ _ h _ => h, fun _ _ _ h _ => h, fun _ _ _ h _ => h, fun _ _ _ h _ => h, fun _ _ _ h _ => h, fun _ _ _ h _ => h, fun _ _ _ h _ => h, fun _ _ _ h _ => h, fun _ _ _ h _ => h, fun _ _ _ h _ => h, fun _ _ _ h _ => h, fun _ _ _ h _ => h, fun _ _ _ h _ => h, fun _ _ _ h _ => h, fun _ _ _ h _ => h, fun _ _ _ h _ => h, fun _ _ _ h _ => h, fun _ _ _ h _ => h, fun _ _ _ h _ => h, fun _ _ _ h _ => h, fun _ _ _ h _ => h, trivial⟩ ?_ ?_
    ·refine ⟨?_, ?_, ?_, trivial⟩
     ·intro ρz wz hz hk hd
      exact sk_skip rfl rfl ((hk 77 rfl).trans rfl) rfl rfl
     ·intro ρz wz hz hk hd
      exact sk_skip rfl rfl ((hk 77 rfl).trans rfl) rfl rfl
     intro ρz wz hz hk hd
     exact sk_skip rfl rfl ((hk 77 rfl).trans rfl) rfl rfl
    intro ρ192 w193 q194 hk hd
    have e1 := (hk 1 rfl).trans e1
    have e5 := (hk 5 rfl).trans e5
    have e6 := (hk 6 rfl).trans e6
    have e8 := (hk 8 rfl).trans e8
    have e9 := (hk 9 rfl).trans e9
    have e47 := (hk 47 rfl).trans e47
    have e48 := (hk 48 rfl).trans e48
    have e49 := (hk 49 rfl).trans e49
    have e50 := (hk 50 rfl).trans e50
    have e51 := (hk 51 rfl).trans e51
    have e52 := (hk 52 rfl).trans e52
    have e53 := (hk 53 rfl).trans e53
    have e56 := (hk 56 rfl).trans e56
    have e57 := (hk 57 rfl).trans e57
    have e58 := (hk 58 rfl).trans e58
    have e59 := (hk 59 rfl).trans e59
    have e60 := (hk 60 rfl).trans e60
    have e61 := (hk 61 rfl).trans e61
    have e62 := (hk 62 rfl).trans e62
    have e63 := (hk 63 rfl).trans e63
    have e64 := (hk 64 rfl).trans e64
    have e67 := (hk 67 rfl).trans e67
    have e68 := (hk 68 rfl).trans e68
    have e69 := (hk 69 rfl).trans e69
    have e70 := (hk 70 rfl).trans e70
    have e71 := (hk 71 rfl).trans e71
    have e72 := (hk 72 rfl).trans e72
    have e73 := (hk 73 rfl).trans e73
    have e74 := (hk 74 rfl).trans e74
    have e75 := (hk 75 rfl).trans rfl
    have e77 := (hk 77 rfl).trans rfl
    have e78 := hd 40 rfl rfl 78 rfl
    have e79 := hd 41 rfl rfl 79 rfl
    have e80 := hd 42 rfl rfl 80 rfl
    have b30 := b30.gr q194
    have b46 := b46.gr q194
    have o133 := o133.gr q194
    have o137 := o137.gr q194
    have o141 := o141.gr q194
    have o145 := o145.gr q194
    have o149 := o149.gr q194
    have o153 := o153.gr q194
    have o157 := o157.gr q194
    have fB := fB.gr q194
    refine rd_seq (m := 43) (n := 47) rfl ?_
    refine ol_gskip rfl rfl rfl rfl e77 rfl ?_
    refine ol_gskip rfl rfl rfl rfl e77 rfl ?_
    refine ol_gskip rfl rfl rfl rfl e77 rfl ?_
    refine ol_val (v := .bool true) (by exact xr_pickT rfl e77 rfl rfl) rfl rfl rfl ?_
    refine ol_nilK ?_
    refine rd_end rfl ?_
    refine cw_condT rfl rfl ?_
    refine cw_seq ?_
    refine cw_region ?_
    refine ol_val (v := .bool false) (by exact xr_assign rfl rfl) rfl rfl rfl ?_
    refine ol_nil ?_
    refine cw_ret ?_
    repeat (first | with_reducible refine thn_r ?_ | with_reducible refine blk_r ?_)
    obtain rfl := Option.some.inj h
    refine lp_ret ?_
    rintro rfl
    repeat (first | with_reducible refine thn_r ?_ | with_reducible refine blk_r ?_)
    have h := h71
    obtain rfl := Option.some.inj h
    refine fin_ret1 Try.results13 rfl ?_
    exact ⟨_, rfl, rfl, fB⟩
   obtain ⟨t195, k196, h⟩ := bs h
   obtain ⟨t201, k202, h⟩ := bs h
   refine rd_drawL 18 26 [fun _ _ => True, fun _ _ => True, fun _ _ => True, fun _ _ => True, fun _ _ => True, fun _ _ => True, fun _ _ => True, fun _ _ => True, fun _ _ => True, fun _ _ => True, fun _ _ => True, fun _ _ => True, fun _ _ => True, fun _ _ => True, fun _ _ => True, fun _ _ => True, fun _ _ => True, fun _ _ => True, fun vz wz => vz = (.pointer (some ⟨G28, 0, none⟩) : Value), fun vz wz => ∃ u197 : Value, ∃ o198 : Own (kI .u8) 5 wz w.heap.size u197 t195, vz = (u197 : Value), fun vz wz => vz = (sv (List.map toB t195) : Value), fun vz wz => vz = (.pointer (some ⟨G44, 0, none⟩) : Value), fun vz wz => vz = (.pointer (some ⟨G44, 0, none⟩) : Value), fun vz wz => vz = (.pointer (some ⟨G44, 1, none⟩) : Value), fun vz wz => vz = (u144 : Value), fun vz wz => vz = (sv t201 : Value)] rfl ⟨fun _ _ _ h _ => h, fun _ _ _ h _ => h, fun _ _ _ h _ => h, fun _ _ _ h _ => h, fun _ _ _ h _ => h, fun _ _ _ h _ => h, fun _ _ _ h _ => h, fun _ _ _ h _ => h, fun _ _ _ h _ => h, fun _ _ _ h _ => h, fun _ _ _ h _ => h, fun _ _ _ h _ => h, fun _ _ _ h _ => h, fun _ _ _ h _ => h, fun _ _ _ h _ => h, fun _ _ _ h _ => h, fun _ _ _ h _ => h, fun _ _ _ h _ => h, fun _ _ _ h _ => h, fun _ _ _ ⟨u197, o198, h⟩ q => ⟨u197, o198.gr q, h⟩, fun _ _ _ h _ => h, fun _ _ _ h _ => h, fun _ _ _ h _ => h, fun _ _ _ h _ => h, fun _ _ _ h _ => h, fun _ _ _ h _ => h, trivial⟩ ?_ ?_
   ·refine ⟨?_, ?_, ?_, ?_, ?_, ?_, ?_, ?_, trivial⟩
    ·intro ρz wz hz hk hd
     exact sk_gval (v := .pointer (some ⟨G28, 0, none⟩)) (by exact xr_move rfl ((hk 6 rfl).trans e6)) rfl rfl ((hk 55 rfl).trans rfl) c185 rfl
    ·intro ρz wz hz hk hd
     have d56 := hd 18 rfl rfl 56 rfl
     refine sk_gop (by exact opv_call rfl cal36 (ac d56 an) (pmem_Device_View.ok fu _ t129.2.1 G28 u132 (o133.gr hz).rd u136 (o137.gr hz).rd (b30.gr hz) _ k196)) rfl rfl ((hk 55 rfl).trans rfl) c185 ?_
     rintro u197 wy ⟨_, o198, rfl, q200⟩
     exact ⟨⟨u197, Own.base o198 ((Nat.le_trans fB.size hz.size)), rfl⟩, q200⟩
    ·intro ρz wz hz hk hd
     obtain ⟨u197, o198, d57⟩ := hd 19 rfl rfl 57 rfl
     exact sk_gval (v := sv (List.map toB t195)) (by exact xr_toStr rfl Try.underlying43 Try.underlying5 Try.underlying9 d57 o198.rd) rfl rfl ((hk 55 rfl).trans rfl) c185 rfl
    ·intro ρz wz hz hk hd
     exact sk_gval (v := .pointer (some ⟨G44, 0, none⟩)) (by exact xr_move rfl ((hk 8 rfl).trans e8)) rfl rfl ((hk 55 rfl).trans rfl) c185 rfl
    ·intro ρz wz hz hk hd
     have d59 := hd 21 rfl rfl 59 rfl
     exact sk_gval (v := .pointer (some ⟨G44, 0, none⟩)) (by exact xr_nilCheck rfl d59) rfl rfl ((hk 55 rfl).trans rfl) c185 rfl
    ·intro ρz wz hz hk hd
     have d60 := hd 22 rfl rfl 60 rfl
     exact sk_gval (v := .pointer (some ⟨G44, 1, none⟩)) (by exact xr_fieldAddr (p := 0) (q := 1) rfl fl65_1 d60) rfl rfl ((hk 55 rfl).trans rfl) c185 rfl
    ·intro ρz wz hz hk hd
     have d61 := hd 23 rfl rfl 61 rfl
     exact sk_gval (v := u144) (by exact xr_load1 (v := u144) rfl ag46 d61 ((b46.gr hz).seg 1 rfl rfl)) rfl rfl ((hk 55 rfl).trans rfl) c185 rfl
    intro ρz wz hz hk hd
    have d62 := hd 24 rfl rfl 62 rfl
    refine sk_gop (by exact opv_call rfl cal34 (ac d62 an) (rickyardref05_Text.ok fu _ t129.2.2.Stored u144 (o145.gr hz).rd _ k202)) rfl rfl ((hk 55 rfl).trans rfl) c185 ?_
    rintro _ wy ⟨rfl, q203⟩
    exact ⟨rfl, q203⟩
   intro ρ204 w205 q206 hk hd
   have e1 := (hk 1 rfl).trans e1
   have e5 := (hk 5 rfl).trans e5
   have e6 := (hk 6 rfl).trans e6
   have e8 := (hk 8 rfl).trans e8
   have e9 := (hk 9 rfl).trans e9
   have e47 := (hk 47 rfl).trans e47
   have e48 := (hk 48 rfl).trans e48
   have e49 := (hk 49 rfl).trans e49
   have e50 := (hk 50 rfl).trans e50
   have e51 := (hk 51 rfl).trans e51
   have e52 := (hk 52 rfl).trans e52
   have e53 := (hk 53 rfl).trans rfl
   have e55 := (hk 55 rfl).trans rfl
   have e56 := hd 18 rfl rfl 56 rfl
   obtain ⟨u207, o208, e57⟩ := hd 19 rfl rfl 57 rfl
   have e58 := hd 20 rfl rfl 58 rfl
   have e59 := hd 21 rfl rfl 59 rfl
   have e60 := hd 22 rfl rfl 60 rfl
   have e61 := hd 23 rfl rfl 61 rfl
   have e62 := hd 24 rfl rfl 62 rfl
   have e63 := hd 25 rfl rfl 63 rfl
   have b30 := b30.gr q206
   have b46 := b46.gr q206
   have o133 := o133.gr q206
   have o137 := o137.gr q206
   have o141 := o141.gr q206
   have o145 := o145.gr q206
   have o149 := o149.gr q206
   have o153 := o153.gr q206
   have o157 := o157.gr q206
   have fB := fB.gr q206
   refine rd_seq (m := 26) (n := 29) rfl ?_
   refine ol_gval (v := .bool (!decide ((List.map toB t195) = t201))) (by exact xr_neStr rfl Try.underlying9 e58 e63) rfl rfl rfl rfl e55 c185 ?_
   refine ol_val (v := .bool (!decide ((List.map toB t195) = t201))) (by exact xr_pickF rfl e55 c185 rfl) rfl rfl rfl ?_
   refine ol_val (v := .bool (!decide ((List.map toB t195) = t201))) (by exact xr_move rfl rfl) rfl rfl rfl ?_
   refine ol_nilK ?_
   rcases is h with ⟨c210, h⟩ | ⟨c210, h⟩
   ·skip
    refine rd_drawL 29 37 [fun _ _ => True, fun _ _ => True, fun _ _ => True, fun _ _ => True, fun _ _ => True, fun _ _ => True, fun _ _ => True, fun _ _ => True, fun _ _ => True, fun _ _ => True, fun _ _ => True, fun _ _ => True, fun _ _ => True, fun _ _ => True, fun _ _ => True, fun _ _ => True, fun _ _ => True, fun _ _ => True, fun _ _ => True, fun _ _ => True, fun _ _ => True, fun _ _ => True, fun _ _ => True, fun _ _ => True, fun _ _ => True, fun _ _ => True, fun _ _ => True, fun _ _ => True, fun _ _ => True, fun vz _ => vz = undef, fun vz _ => vz = undef, fun vz _ => vz = undef, fun vz _ => vz = undef, fun vz _ => vz = undef, fun vz _ => vz = undef, fun vz _ => vz = undef, fun vz _ => vz = undef] rfl ⟨fun _ _ _ h _ => h, fun _ _ _ h _ => h, fun _ _ _ h _ => h, fun _ _ _ h _ => h, fun _ _ _ h _ => h, fun _ _ _ h _ => h, fun _ _ _ h _ => h, fun _ _ _ h _ => h, fun _ _ _ h _ => h, fun _ _ _ h _ => h, fun _ _ _ h _ => h, fun _ _ _ h _ => h, fun _ _ _ h _ => h, fun _ _ _ h _ => h, fun _ _ _ h _ => h, fun _ _ _ h _ => h, fun _ _ _ h _ => h, fun _ _ _ h _ => h, fun _ _ _ h _ => h, fun _ _ _ h _ => h, fun _ _ _ h _ => h, fun _ _ _ h _ => h, fun _ _ _ h _ => h, fun _ _ _ h _ => h, fun _ _ _ h _ => h, fun _ _ _ h _ => h, fun _ _ _ h _ => h, fun _ _ _ h _ => h, fun _ _ _ h _ => h, fun _ _ _ h _ => h, fun _ _ _ h _ => h, fun _ _ _ h _ => h, fun _ _ _ h _ => h, fun _ _ _ h _ => h, fun _ _ _ h _ => h, fun _ _ _ h _ => h, fun _ _ _ h _ => h, trivial⟩ ?_ ?_
    ·refine ⟨?_, ?_, ?_, ?_, ?_, ?_, ?_, ?_, trivial⟩
     ·intro ρz wz hz hk hd
      exact sk_skip rfl rfl ((hk 66 rfl).trans rfl) c210 rfl
     ·intro ρz wz hz hk hd
      exact sk_skip rfl rfl ((hk 66 rfl).trans rfl) c210 rfl
     ·intro ρz wz hz hk hd
      exact sk_skip rfl rfl ((hk 66 rfl).trans rfl) c210 rfl
     ·intro ρz wz hz hk hd
      exact sk_skip rfl rfl ((hk 66 rfl).trans rfl) c210 rfl
     ·intro ρz wz hz hk hd
      exact sk_skip rfl rfl ((hk 66 rfl).trans rfl) c210 rfl
     ·intro ρz wz hz hk hd
      exact sk_skip rfl rfl ((hk 66 rfl).trans rfl) c210 rfl
     ·intro ρz wz hz hk hd
      exact sk_skip rfl rfl ((hk 66 rfl).trans rfl) c210 rfl
     intro ρz wz hz hk hd
     exact sk_skip rfl rfl ((hk 66 rfl).trans rfl) c210 rfl
    intro ρ211 w212 q213 hk hd
    have e1 := (hk 1 rfl).trans e1
    have e5 := (hk 5 rfl).trans e5
    have e6 := (hk 6 rfl).trans e6
    have e8 := (hk 8 rfl).trans e8
    have e9 := (hk 9 rfl).trans e9
    have e47 := (hk 47 rfl).trans e47
    have e48 := (hk 48 rfl).trans e48
    have e49 := (hk 49 rfl).trans e49
    have e50 := (hk 50 rfl).trans e50
    have e51 := (hk 51 rfl).trans e51
    have e52 := (hk 52 rfl).trans e52
    have e53 := (hk 53 rfl).trans e53
    have e56 := (hk 56 rfl).trans e56
    have e57 := (hk 57 rfl).trans e57
    have e58 := (hk 58 rfl).trans e58
    have e59 := (hk 59 rfl).trans e59
    have e60 := (hk 60 rfl).trans e60
    have e61 := (hk 61 rfl).trans e61
    have e62 := (hk 62 rfl).trans e62
    have e63 := (hk 63 rfl).trans e63
    have e64 := (hk 64 rfl).trans rfl
    have e66 := (hk 66 rfl).trans rfl
    have e67 := hd 29 rfl rfl 67 rfl
    have e68 := hd 30 rfl rfl 68 rfl
    have e69 := hd 31 rfl rfl 69 rfl
    have e70 := hd 32 rfl rfl 70 rfl
    have e71 := hd 33 rfl rfl 71 rfl
    have e72 := hd 34 rfl rfl 72 rfl
    have e73 := hd 35 rfl rfl 73 rfl
    have e74 := hd 36 rfl rfl 74 rfl
    have b30 := b30.gr q213
    have b46 := b46.gr q213
    have o133 := o133.gr q213
    have o137 := o137.gr q213
    have o141 := o141.gr q213
    have o145 := o145.gr q213
    have o149 := o149.gr q213
    have o153 := o153.gr q213
    have o157 := o157.gr q213
    have o208 := o208.gr q213
    have fB := fB.gr q213
    refine rd_seq (m := 37) (n := 40) rfl ?_
    refine ol_gskip rfl rfl rfl rfl e66 c210 ?_
    refine ol_val (v := .bool true) (by exact xr_pickT rfl e66 c210 rfl) rfl rfl rfl ?_
    refine ol_val (v := .bool true) (by exact xr_move rfl rfl) rfl rfl rfl ?_
    refine ol_nilK ?_
    refine rd_drawL 40 43 [fun _ _ => True, fun _ _ => True, fun _ _ => True, fun _ _ => True, fun _ _ => True, fun _ _ => True, fun _ _ => True, fun _ _ => True, fun _ _ => True, fun _ _ => True, fun _ _ => True, fun _ _ => True, fun _ _ => True, fun _ _ => True, fun _ _ => True, fun _ _ => True, fun _ _ => True, fun _ _ => True, fun _ _ => True, fun _ _ => True, fun _ _ => True, fun _ _ => True, fun _ _ => True, fun _ _ => True, fun _ _ => True, fun _ _ => True, fun _ _ => True, fun _ _ => True, fun _ _ => True, fun _ _ => True, fun _ _ => True, fun _ _ => True, fun _ _ => True, fun _ _ => True, fun _ _ => True, fun _ _ => True, fun _ _ => True, fun _ _ => True, fun _ _ => True, fun _ _ => True, fun vz _ => vz = undef, fun vz _ => vz = undef, fun vz _ => vz = undef] rfl ⟨fun _ _ _ h _ => h, fun _ _ _ h _ => h, fun _ _ _ h _ => h, fun _ _ _ h _ => h, fun _ _ _ h _ => h, fun _ _ _ h _ => h, fun _ _ _ h _ => h, fun _ _ _ h _ => h, fun _ _ _ h _ => h, fun _ _ _ h _ => h, fun _ _ _ h _ => h, fun _ _ _ h _ => h, fun _ _ _ h _ => h, fun _ _ _ h _ => h, fun _ _ _ h _ => h, fun _ _ _ h _ => h, fun _ _ _ h _ => h, fun _ _ _ h _ => h, fun _ _ _ h _ => h, fun _ _ _ h _ => h, fun _ _ _ h _ => h, fun _ _ _ h _ => h, fun _ _ _ h _ => h, fun _ _ _ h _ => h, fun _ _ _ h _ => h, fun _ _ _ h _ => h, fun _ _ _ h _ => h, fun _ _ _ h _ => h, fun _ _ _ h _ => h, fun _ _ _ h _ => h, fun _ _ _ h _ => h, fun _ _ _ h _ => h, fun _ _ _ h _ => h, fun _ _ _ h _ => h, fun _ _ _ h _ => h, fun _ _ _ h _ => h, fun _ _ _ h _ => h, fun _ _ _ h _ => h, fun _ _ _ h _ => h, fun _ _ _ h _ => h, fun _ _ _ h _ => h, fun _ _ _ h _ => h, fun _ _ _ h _ => h, trivial⟩ ?_ ?_
    ·refine ⟨?_, ?_, ?_, trivial⟩
     ·intro ρz wz hz hk hd
      exact sk_skip rfl rfl ((hk 77 rfl).trans rfl) rfl rfl
     ·intro ρz wz hz hk hd
      exact sk_skip rfl rfl ((hk 77 rfl).trans rfl) rfl rfl
     intro ρz wz hz hk hd
     exact sk_skip rfl rfl ((hk 77 rfl).trans rfl) rfl rfl
    intro ρ214 w215 q216 hk hd
    have e1 := (hk 1 rfl).trans e1
    have e5 := (hk 5 rfl).trans e5
    have e6 := (hk 6 rfl).trans e6
    have e8 := (hk 8 rfl).trans e8
    have e9 := (hk 9 rfl).trans e9
    have e47 := (hk 47 rfl).trans e47
    have e48 := (hk 48 rfl).trans e48
    have e49 := (hk 49 rfl).trans e49
    have e50 := (hk 50 rfl).trans e50
    have e51 := (hk 51 rfl).trans e51
    have e52 := (hk 52 rfl).trans e52
    have e53 := (hk 53 rfl).trans e53
    have e56 := (hk 56 rfl).trans e56
    have e57 := (hk 57 rfl).trans e57
    have e58 := (hk 58 rfl).trans e58
    have e59 := (hk 59 rfl).trans e59
    have e60 := (hk 60 rfl).trans e60
    have e61 := (hk 61 rfl).trans e61
    have e62 := (hk 62 rfl).trans e62
    have e63 := (hk 63 rfl).trans e63
    have e64 := (hk 64 rfl).trans e64
    have e67 := (hk 67 rfl).trans e67
    have e68 := (hk 68 rfl).trans e68
    have e69 := (hk 69 rfl).trans e69
    have e70 := (hk 70 rfl).trans e70
    have e71 := (hk 71 rfl).trans e71
    have e72 := (hk 72 rfl).trans e72
    have e73 := (hk 73 rfl).trans e73
    have e74 := (hk 74 rfl).trans e74
    have e75 := (hk 75 rfl).trans rfl
    have e77 := (hk 77 rfl).trans rfl
    have e78 := hd 40 rfl rfl 78 rfl
    have e79 := hd 41 rfl rfl 79 rfl
    have e80 := hd 42 rfl rfl 80 rfl
    have b30 := b30.gr q216
    have b46 := b46.gr q216
    have o133 := o133.gr q216
    have o137 := o137.gr q216
    have o141 := o141.gr q216
    have o145 := o145.gr q216
    have o149 := o149.gr q216
    have o153 := o153.gr q216
    have o157 := o157.gr q216
    have o208 := o208.gr q216
    have fB := fB.gr q216
    refine rd_seq (m := 43) (n := 47) rfl ?_
    refine ol_gskip rfl rfl rfl rfl e77 rfl ?_
    refine ol_gskip rfl rfl rfl rfl e77 rfl ?_
    refine ol_gskip rfl rfl rfl rfl e77 rfl ?_
    refine ol_val (v := .bool true) (by exact xr_pickT rfl e77 rfl rfl) rfl rfl rfl ?_
    refine ol_nilK ?_
    refine rd_end rfl ?_
    refine cw_condT rfl rfl ?_
    refine cw_seq ?_
    refine cw_region ?_
    refine ol_val (v := .bool false) (by exact xr_assign rfl rfl) rfl rfl rfl ?_
    refine ol_nil ?_
    refine cw_ret ?_
    repeat (first | with_reducible refine thn_r ?_ | with_reducible refine blk_r ?_)
    obtain rfl := Option.some.inj h
    refine lp_ret ?_
    rintro rfl
    repeat (first | with_reducible refine thn_r ?_ | with_reducible refine blk_r ?_)
    have h := h71
    obtain rfl := Option.some.inj h
    refine fin_ret1 Try.results13 rfl ?_
    exact ⟨_, rfl, rfl, fB⟩
   obtain ⟨t217, k218, h⟩ := bs h
   obtain ⟨t223, k224, h⟩ := bs h
   refine rd_drawL 29 37 [fun _ _ => True, fun _ _ => True, fun _ _ => True, fun _ _ => True, fun _ _ => True, fun _ _ => True, fun _ _ => True, fun _ _ => True, fun _ _ => True, fun _ _ => True, fun _ _ => True, fun _ _ => True, fun _ _ => True, fun _ _ => True, fun _ _ => True, fun _ _ => True, fun _ _ => True, fun _ _ => True, fun _ _ => True, fun _ _ => True, fun _ _ => True, fun _ _ => True, fun _ _ => True, fun _ _ => True, fun _ _ => True, fun _ _ => True, fun _ _ => True, fun _ _ => True, fun _ _ => True, fun vz wz => vz = (.pointer (some ⟨G28, 0, none⟩) : Value), fun vz wz => ∃ u219 : Value, ∃ o220 : Own (kI .u8) 5 wz w.heap.size u219 t217, vz = (u219 : Value), fun vz wz => vz = (sv (List.map toB t217) : Value), fun vz wz => vz = (.pointer (some ⟨G44, 0, none⟩) : Value), fun vz wz => vz = (.pointer (some ⟨G44, 0, none⟩) : Value), fun vz wz => vz = (.pointer (some ⟨G44, 0, none⟩) : Value), fun vz wz => vz = (u140 : Value), fun vz wz => vz = (sv t223 : Value)] rfl ⟨fun _ _ _ h _ => h, fun _ _ _ h _ => h, fun _ _ _ h _ => h, fun _ _ _ h _ => h, fun _ _ _ h _ => h, fun _ _ _ h _ => h, fun _ _ _ h _ => h, fun _ _ _ h _ => h, fun _ _ _ h _ => h, fun _ _ _ h _ => h, fun _ _ _ h _ => h, fun _ _ _ h _ => h, fun _ _ _ h _ => h, fun _ _ _ h _ => h, fun _ _ _ h _ => h, fun _ _ _ h _ => h, fun _ _ _ h _ => h, fun _ _ _ h _ => h, fun _ _ _ h _ => h, fun _ _ _ h _ => h, fun _ _ _ h _ => h, fun _ _ _ h _ => h, fun _ _ _ h _ => h, fun _ _ _ h _ => h, fun _ _ _ h _ => h, fun _ _ _ h _ => h, fun _ _ _ h _ => h, fun _ _ _ h _ => h, fun _ _ _ h _ => h, fun _ _ _ h _ => h, fun _ _ _ ⟨u219, o220, h⟩ q => ⟨u219, o220.gr q, h⟩, fun _ _ _ h _ => h, fun _ _ _ h _ => h, fun _ _ _ h _ => h, fun _ _ _ h _ => h, fun _ _ _ h _ => h, fun _ _ _ h _ => h, trivial⟩ ?_ ?_
   ·refine ⟨?_, ?_, ?_, ?_, ?_, ?_, ?_, ?_, trivial⟩
    ·intro ρz wz hz hk hd
     exact sk_gval (v := .pointer (some ⟨G28, 0, none⟩)) (by exact xr_move rfl ((hk 6 rfl).trans e6)) rfl rfl ((hk 66 rfl).trans rfl) c210 rfl
    ·intro ρz wz hz hk hd
     have d67 := hd 29 rfl rfl 67 rfl
     refine sk_gop (by exact opv_call rfl cal33 (ac d67 an) (pmem_Device_Image.ok fu _ t129.2.1 G28 u132 (o133.gr hz).rd u136 (o137.gr hz).rd (b30.gr hz) _ k218)) rfl rfl ((hk 66 rfl).trans rfl) c210 ?_
     rintro u219 wy ⟨_, o220, rfl, q222⟩
     exact ⟨⟨u219, Own.base o220 ((Nat.le_trans fB.size hz.size)), rfl⟩, q222⟩
    ·intro ρz wz hz hk hd
     obtain ⟨u219, o220, d68⟩ := hd 30 rfl rfl 68 rfl
     exact sk_gval (v := sv (List.map toB t217)) (by exact xr_toStr rfl Try.underlying43 Try.underlying5 Try.underlying9 d68 o220.rd) rfl rfl ((hk 66 rfl).trans rfl) c210 rfl
    ·intro ρz wz hz hk hd
     exact sk_gval (v := .pointer (some ⟨G44, 0, none⟩)) (by exact xr_move rfl ((hk 8 rfl).trans e8)) rfl rfl ((hk 66 rfl).trans rfl) c210 rfl
    ·intro ρz wz hz hk hd
     have d70 := hd 32 rfl rfl 70 rfl
     exact sk_gval (v := .pointer (some ⟨G44, 0, none⟩)) (by exact xr_nilCheck rfl d70) rfl rfl ((hk 66 rfl).trans rfl) c210 rfl
    ·intro ρz wz hz hk hd
     have d71 := hd 33 rfl rfl 71 rfl
     exact sk_gval (v := .pointer (some ⟨G44, 0, none⟩)) (by exact xr_fieldAddr (p := 0) (q := 0) rfl fl65_0 d71) rfl rfl ((hk 66 rfl).trans rfl) c210 rfl
    ·intro ρz wz hz hk hd
     have d72 := hd 34 rfl rfl 72 rfl
     exact sk_gval (v := u140) (by exact xr_load1 (v := u140) rfl ag46 d72 ((b46.gr hz).seg 0 rfl rfl)) rfl rfl ((hk 66 rfl).trans rfl) c210 rfl
    intro ρz wz hz hk hd
    have d73 := hd 35 rfl rfl 73 rfl
    refine sk_gop (by exact opv_call rfl cal34 (ac d73 an) (rickyardref05_Text.ok fu _ t129.2.2.Lasts u140 (o141.gr hz).rd _ k224)) rfl rfl ((hk 66 rfl).trans rfl) c210 ?_
    rintro _ wy ⟨rfl, q225⟩
    exact ⟨rfl, q225⟩
   intro ρ226 w227 q228 hk hd
   have e1 := (hk 1 rfl).trans e1
   have e5 := (hk 5 rfl).trans e5
   have e6 := (hk 6 rfl).trans e6
   have e8 := (hk 8 rfl).trans e8
   have e9 := (hk 9 rfl).trans e9
   have e47 := (hk 47 rfl).trans e47
   have e48 := (hk 48 rfl).trans e48
   have e49 := (hk 49 rfl).trans e49
   have e50 := (hk 50 rfl).trans e50
   have e51 := (hk 51 rfl).trans e51
   have e52 := (hk 52 rfl).trans e52
   have e53 := (hk 53 rfl).trans e53
   have e56 := (hk 56 rfl).trans e56
   have e57 := (hk 57 rfl).trans e57
   have e58 := (hk 58 rfl).trans e58
   have e59 := (hk 59 rfl).trans e59
   have e60 := (hk 60 rfl).trans e60
   have e61 := (hk 61 rfl).trans e61
   have e62 := (hk 62 rfl).trans e62
   have e63 := (hk 63 rfl).trans e63
   have e64 := (hk 64 rfl).trans rfl
   have e66 := (hk 66 rfl).trans rfl
   have e67 := hd 29 rfl rfl 67 rfl
   obtain ⟨u229, o230, e68⟩ := hd 30 rfl rfl 68 rfl
   have e69 := hd 31 rfl rfl 69 rfl
   have e70 := hd 32 rfl rfl 70 rfl
   have e71 := hd 33 rfl rfl 71 rfl
   have e72 := hd 34 rfl rfl 72 rfl
   have e73 := hd 35 rfl rfl 73 rfl
   have e74 := hd 36 rfl rfl 74 rfl
   have b30 := b30.gr q228
   have b46 := b46.gr q228
   have o133 := o133.gr q228
   have o137 := o137.gr q228
   have o141 := o141.gr q228
   have o145 := o145.gr q228
   have o149 := o149.gr q228
   have o153 := o153.gr q228
   have o157 := o157.gr q228
   have o208 := o208.gr q228
   have fB := fB.gr q228
   refine rd_seq (m := 37) (n := 40) rfl ?_
   refine ol_gval (v := .bool (!decide ((List.map toB t217) = t223))) (by exact xr_neStr rfl Try.underlying9 e69 e74) rfl rfl rfl rfl e66 c210 ?_
   refine ol_val (v := .bool (!decide ((List.map toB t217) = t223))) (by exact xr_pickF rfl e66 c210 rfl) rfl rfl rfl ?_
   refine ol_val (v := .bool (!decide ((List.map toB t217) = t223))) (by exact xr_move rfl rfl) rfl rfl rfl ?_
   refine ol_nilK ?_
   rcases is h with ⟨c232, h⟩ | ⟨c232, h⟩
   ·skip
    refine rd_drawL 40 43 [fun _ _ => True, fun _ _ => True, fun _ _ => True, fun _ _ => True, fun _ _ => True, fun _ _ => True, fun _ _ => True, fun _ _ => True, fun _ _ => True, fun _ _ => True, fun _ _ => True, fun _ _ => True, fun _ _ => True, fun _ _ => True, fun _ _ => True, fun _ _ => True, fun _ _ => True, fun _ _ => True, fun _ _ => True, fun _ _ => True, fun _ _ => True, fun _ _ => True, fun _ _ => True, fun _ _ => True, fun _ _ => True, fun _ _ => True, fun _ _ => True, fun _ _ => True, fun _ _ => True, fun _ _ => True, fun _ _ => True, fun _ _ => True, fun _ _ => True, fun _ _ => True, fun _ _ => True, fun _ _ => True, fun _ _ => True, fun _ _ => True, fun _ _ => True, fun _ _ => True, fun vz _ => vz = undef, fun vz _ => vz = undef, fun vz _ => vz = undef] rfl ⟨fun _ _ _ h _ => h, fun _ _ _ h _ => h, fun _ _ _ h _ => h, fun _ _ _ h _ => h, fun _ _ _ h _ => h, fun _ _ _ h _ => h, fun _ _ _ h _ => h, fun _ _ _ h _ => h, fun _ _ _ h _ => h, fun _ _ _ h _ => h, fun _ _ _ h _ => h, fun _ _ _ h _ => h, fun _ _ _ h _ => h, fun _ _ _ h _ => h, fun _ _ _ h _ => h, fun _ _ _ h _ => h, fun _ _ _ h _ => h, fun _ _ _ h _ => h, fun _ _ _ h _ => h, fun _ _ _ h _ => h, fun _ _ _ h _ => h, fun _ _ _ h _ => h, fun _ _ _ h _ => h, fun _ _ _ h _ => h, fun _ _ _ h _ => h, fun _ _ _ h _ => h, fun _ _ _ h _ => h, fun _ _ _ h _ => h, fun _ _ _ h _ => h, fun _ _ _ h _ => h, fun _ _ _ h _ => h, fun _ _ _ h _ => h, fun _ _ _ h _ => h, fun _ _ _ h _ => h, fun _ _ _ h _ => h, fun _ _ _ h _ => h, fun _ _ _ h _ => h, fun _ _ _ h _ => h, fun _ _ _ h _ => h, fun _ _ _ h _ => h, fun _ _ _ h _ => h, fun _ _ _ h _ => h, fun _ _ _ h _ => h, trivial⟩ ?_ ?_
    ·refine ⟨?_, ?_, ?_, trivial⟩
     ·intro ρz wz hz hk hd
      exact sk_skip rfl rfl ((hk 77 rfl).trans rfl) c232 rfl
     ·intro ρz wz hz hk hd
      exact sk_skip rfl rfl ((hk 77 rfl).trans rfl) c232 rfl
     intro ρz wz hz hk hd
     exact sk_skip rfl rfl ((hk 77 rfl).trans rfl) c232 rfl
    intro ρ233 w234 q235 hk hd
    have e1 := (hk 1 rfl).trans e1
    have e5 := (hk 5 rfl).trans e5
    have e6 := (hk 6 rfl).trans e6
    have e8 := (hk 8 rfl).trans e8
    have e9 := (hk 9 rfl).trans e9
    have e47 := (hk 47 rfl).trans e47
    have e48 := (hk 48 rfl).trans e48
    have e49 := (hk 49 rfl).trans e49
    have e50 := (hk 50 rfl).trans e50
    have e51 := (hk 51 rfl).trans e51
    have e52 := (hk 52 rfl).trans e52
    have e53 := (hk 53 rfl).trans e53
    have e56 := (hk 56 rfl).trans e56
    have e57 := (hk 57 rfl).trans e57
    have e58 := (hk 58 rfl).trans e58
    have e59 := (hk 59 rfl).trans e59
    have e60 := (hk 60 rfl).trans e60
    have e61 := (hk 61 rfl).trans e61
    have e62 := (hk 62 rfl).trans e62
    have e63 := (hk 63 rfl).trans e63
    have e64 := (hk 64 rfl).trans e64
    have e67 := (hk 67 rfl).trans e67
    have e68 := (hk 68 rfl).trans e68
    have e69 := (hk 69 rfl).trans e69
    have e70 := (hk 70 rfl).trans e70
    have e71 := (hk 71 rfl).trans e71
    have e72 := (hk 72 rfl).trans e72
    have e73 := (hk 73 rfl).trans e73
    have e74 := (hk 74 rfl).trans e74
    have e75 := (hk 75 rfl).trans rfl
    have e77 := (hk 77 rfl).trans rfl
    have e78 := hd 40 rfl rfl 78 rfl
    have e79 := hd 41 rfl rfl 79 rfl
    have e80 := hd 42 rfl rfl 80 rfl
    have b30 := b30.gr q235
    have b46 := b46.gr q235
    have o133 := o133.gr q235
    have o137 := o137.gr q235
    have o141 := o141.gr q235
    have o145 := o145.gr q235
    have o149 := o149.gr q235
    have o153 := o153.gr q235
    have o157 := o157.gr q235
    have o208 := o208.gr q235
    have o230 := o230.gr q235
    have fB := fB.gr q235
    refine rd_seq (m := 43) (n := 47) rfl ?_
    refine ol_gskip rfl rfl rfl rfl e77 c232 ?_
    refine ol_gskip rfl rfl rfl rfl e77 c232 ?_
    refine ol_gskip rfl rfl rfl rfl e77 c232 ?_
    refine ol_val (v := .bool true) (by exact xr_pickT rfl e77 c232 rfl) rfl rfl rfl ?_
    refine ol_nilK ?_
    refine rd_end rfl ?_
    refine cw_condT rfl rfl ?_
    refine cw_seq ?_
    refine cw_region ?_
    refine ol_val (v := .bool false) (by exact xr_assign rfl rfl) rfl rfl rfl ?_
    refine ol_nil ?_
    refine cw_ret ?_
    repeat (first | with_reducible refine thn_r ?_ | with_reducible refine blk_r ?_)
    obtain rfl := Option.some.inj h
    refine lp_ret ?_
    rintro rfl
    repeat (first | with_reducible refine thn_r ?_ | with_reducible refine blk_r ?_)
    have h := h71
    obtain rfl := Option.some.inj h
    refine fin_ret1 Try.results13 rfl ?_
    exact ⟨_, rfl, rfl, fB⟩
   obtain ⟨t236, k237, h⟩ := bs h
   refine rd_drawL 40 43 [fun _ _ => True, fun _ _ => True, fun _ _ => True, fun _ _ => True, fun _ _ => True, fun _ _ => True, fun _ _ => True, fun _ _ => True, fun _ _ => True, fun _ _ => True, fun _ _ => True, fun _ _ => True, fun _ _ => True, fun _ _ => True, fun _ _ => True, fun _ _ => True, fun _ _ => True, fun _ _ => True, fun _ _ => True, fun _ _ => True, fun _ _ => True, fun _ _ => True, fun _ _ => True, fun _ _ => True, fun _ _ => True, fun _ _ => True, fun _ _ => True, fun _ _ => True, fun _ _ => True, fun _ _ => True, fun _ _ => True, fun _ _ => True, fun _ _ => True, fun _ _ => True, fun _ _ => True, fun _ _ => True, fun _ _ => True, fun _ _ => True, fun _ _ => True, fun _ _ => True, fun vz wz => vz = (.pointer (some ⟨G28, 0, none⟩) : Value), fun vz wz => ∃ u238 : Value, ∃ o239 : Own k_api_Fate 55 wz w.heap.size u238 t236, vz = (u238 : Value), fun vz wz => vz = (.pointer (some ⟨G44, 0, none⟩) : Value)] rfl ⟨fun _ _ _ h _ => h, fun _ _ _ h _ => h, fun _ _ _ h _ => h, fun _ _ _ h _ => h, fun _ _ _ h _ => h, fun _ _ _ h _ => h, fun _ _ _ h _ => h, fun _ _ _ h _ => h, fun _ _ _ h _ => h, fun _ _ _ h _ => h, fun _ _ _ h _ => h, fun _ _ _ h _ => h, fun _ _ _ h _ => h, fun _ _ _ h _ => h, fun _ _ _ h _ => h, fun _ _ _ h _ => h, fun _ _ _ h _ => h, fun _ _ _ h _ => h, fun _ _ _ h _ => h, fun _ _ _ h _ => h, fun _ _ _ h _ => h, fun _ _ _ h _ => h, fun _ _ _ h _ => h, fun _ _ _ h _ => h, fun _ _ _ h _ => h, fun _ _ _ h _ => h, fun _ _ _ h _ => h, fun _ _ _ h _ => h, fun _ _ _ h _ => h, fun _ _ _ h _ => h, fun _ _ _ h _ => h, fun _ _ _ h _ => h, fun _ _ _ h _ => h, fun _ _ _ h _ => h, fun _ _ _ h _ => h, fun _ _ _ h _ => h, fun _ _ _ h _ => h, fun _ _ _ h _ => h, fun _ _ _ h _ => h, fun _ _ _ h _ => h, fun _ _ _ h _ => h, fun _ _ _ ⟨u238, o239, h⟩ q => ⟨u238, o239.gr q, h⟩, fun _ _ _ h _ => h, trivial⟩ ?_ ?_
   ·refine ⟨?_, ?_, ?_, trivial⟩
    ·intro ρz wz hz hk hd
     exact sk_gval (v := .pointer (some ⟨G28, 0, none⟩)) (by exact xr_move rfl ((hk 6 rfl).trans e6)) rfl rfl ((hk 77 rfl).trans rfl) c232 rfl
    ·intro ρz wz hz hk hd
     have d78 := hd 40 rfl rfl 78 rfl
     refine sk_gop (by exact opv_call rfl cal40 (ac d78 an) (pmem_Device_Fates.ok fu _ t129.2.1 G28 u132 (o133.gr hz).rd u136 (o137.gr hz).rd (b30.gr hz) _ k237)) rfl rfl ((hk 77 rfl).trans rfl) c232 ?_
     rintro u238 wy ⟨_, o239, rfl, q241⟩
     exact ⟨⟨u238, Own.base o239 ((Nat.le_trans fB.size hz.size)), rfl⟩, q241⟩
    intro ρz wz hz hk hd
    exact sk_gval (v := .pointer (some ⟨G44, 0, none⟩)) (by exact xr_move rfl ((hk 8 rfl).trans e8)) rfl rfl ((hk 77 rfl).trans rfl) c232 rfl
   intro ρ242 w243 q244 hk hd
   have e1 := (hk 1 rfl).trans e1
   have e5 := (hk 5 rfl).trans e5
   have e6 := (hk 6 rfl).trans e6
   have e8 := (hk 8 rfl).trans e8
   have e9 := (hk 9 rfl).trans e9
   have e47 := (hk 47 rfl).trans e47
   have e48 := (hk 48 rfl).trans e48
   have e49 := (hk 49 rfl).trans e49
   have e50 := (hk 50 rfl).trans e50
   have e51 := (hk 51 rfl).trans e51
   have e52 := (hk 52 rfl).trans e52
   have e53 := (hk 53 rfl).trans e53
   have e56 := (hk 56 rfl).trans e56
   have e57 := (hk 57 rfl).trans e57
   have e58 := (hk 58 rfl).trans e58
   have e59 := (hk 59 rfl).trans e59
   have e60 := (hk 60 rfl).trans e60
   have e61 := (hk 61 rfl).trans e61
   have e62 := (hk 62 rfl).trans e62
   have e63 := (hk 63 rfl).trans e63
   have e64 := (hk 64 rfl).trans e64
   have e67 := (hk 67 rfl).trans e67
   have e68 := (hk 68 rfl).trans e68
   have e69 := (hk 69 rfl).trans e69
   have e70 := (hk 70 rfl).trans e70
   have e71 := (hk 71 rfl).trans e71
   have e72 := (hk 72 rfl).trans e72
   have e73 := (hk 73 rfl).trans e73
   have e74 := (hk 74 rfl).trans e74
   have e75 := (hk 75 rfl).trans rfl
   have e77 := (hk 77 rfl).trans rfl
   have e78 := hd 40 rfl rfl 78 rfl
   obtain ⟨u245, o246, e79⟩ := hd 41 rfl rfl 79 rfl
   have e80 := hd 42 rfl rfl 80 rfl
   have b30 := b30.gr q244
   have b46 := b46.gr q244
   have o133 := o133.gr q244
   have o137 := o137.gr q244
   have o141 := o141.gr q244
   have o145 := o145.gr q244
   have o149 := o149.gr q244
   have o153 := o153.gr q244
   have o157 := o157.gr q244
   have o208 := o208.gr q244
   have o230 := o230.gr q244
   have fB := fB.gr q244
   refine rd_seq (m := 43) (n := 47) rfl ?_
   obtain ⟨t248, k249, h⟩ := bs h
   refine ol_gop (by exact opv_call rfl cal47 (ac e80 an) (rickyardref05_Device_Fates.ok fu _ t129.2.2 G44 u140 (o141.rd) u144 (o145.rd) u148 (o149.rd) u152 (o153.rd) u156 (o157.rd) b46 _ k249)) rfl rfl rfl rfl e77 c232 ?_
   rintro u250 w254 ⟨_, o251, rfl, q253⟩
   have a255 := OffV.call o246 o251
   have o251 := Own.base o251 fB.size
   have b30 := b30.gr q253
   have b46 := b46.gr q253
   have o133 := o133.gr q253
   have o137 := o137.gr q253
   have o141 := o141.gr q253
   have o145 := o145.gr q253
   have o149 := o149.gr q253
   have o153 := o153.gr q253
   have o157 := o157.gr q253
   have o208 := o208.gr q253
   have o230 := o230.gr q253
   have o246 := o246.gr q253
   have fB := fB.gr q253
   obtain ⟨t256, k257, h⟩ := bs h
   refine ol_gop (by exact opv_call rfl cal46 (ac e79 (ac rfl an)) (rickyardref05_Same.ok fu _ t236 u245 (o246.rd) t248 u250 (o251.rd) _ k257)) rfl rfl rfl rfl e77 c232 ?_
   rintro _ w259 ⟨rfl, q258⟩
   have b30 := b30.gr q258
   have b46 := b46.gr q258
   have o133 := o133.gr q258
   have o137 := o137.gr q258
   have o141 := o141.gr q258
   have o145 := o145.gr q258
   have o149 := o149.gr q258
   have o153 := o153.gr q258
   have o157 := o157.gr q258
   have o208 := o208.gr q258
   have o230 := o230.gr q258
   have o246 := o246.gr q258
   have o251 := o251.gr q258
   have fB := fB.gr q258
   refine ol_gval (v := .bool (!t256)) (by exact xr_not rfl rfl) rfl rfl rfl rfl e77 c232 ?_
   refine ol_val (v := .bool (!t256)) (by exact xr_pickF rfl e77 c232 rfl) rfl rfl rfl ?_
   refine ol_nilK ?_
   refine rd_end rfl ?_
   rcases is h with ⟨c260, h⟩ | ⟨c260, h⟩
   ·refine cw_condT rfl c260 ?_
    refine cw_seq ?_
    refine cw_region ?_
    refine ol_val (v := .bool false) (by exact xr_assign rfl rfl) rfl rfl rfl ?_
    refine ol_nil ?_
    refine cw_ret ?_
    repeat (first | with_reducible refine thn_r ?_ | with_reducible refine blk_r ?_)
    obtain rfl := Option.some.inj h
    refine lp_ret ?_
    rintro rfl
    repeat (first | with_reducible refine thn_r ?_ | with_reducible refine blk_r ?_)
    have h := h71
    obtain rfl := Option.some.inj h
    refine fin_ret1 Try.results13 rfl ?_
    exact ⟨_, rfl, rfl, fB⟩
   refine cw_condF rfl c260 ?_
   refine cw_skip ?_
   refine cw_seq ?_
   refine cw_region ?_
   refine ol_val (v := .pointer (some ⟨G28, 0, none⟩)) (by exact xr_move rfl e6) rfl rfl rfl ?_
   refine ol_val (v := V1_0) (by exact xr_move rfl e1) rfl rfl rfl ?_
   refine ol_val (v := .int .i64 s68.1) (by exact xr_move rfl e9) rfl rfl rfl ?_
   obtain ⟨g261, h⟩ := gs h
   refine ol_val (v := .pointer (some ⟨(sb V1_0), so V1_0 + Int.toNat s68.1 * 8, none⟩)) (by exact xr_indexN (v := V1_0) rfl Try.underlying82 sz85 rfl (RdN.gr R1_0 D_rickyardlaw15_Act.gr fB) rfl g261.1 g261.2) rfl rfl rfl ?_
   refine ol_val (v := .pointer (some ⟨(sb V1_0), so V1_0 + Int.toNat s68.1 * 8 + 1, none⟩)) (by exact xr_fieldAddr (p := so V1_0 + Int.toNat s68.1 * 8) (q := 1) rfl fl85_1 rfl) rfl rfl rfl ?_
   refine ol_val (v := .int .i64 ((ix a1 s68.1).At)) (by exact xr_load1 (v := .int .i64 ((ix a1 s68.1).At)) rfl ag3 rfl (At.segs (ss := [Seg.cell (.int .i64 ((ix a1 s68.1).Kind)), Seg.cell (.int .i64 ((ix a1 s68.1).At)), Seg.cell (.int .i64 ((ix a1 s68.1).I)), Seg.cell (cellAt w (sb V1_0) (so V1_0 + Int.toNat s68.1 * 8 + 3)) (N_rickyardlaw15_Act R1_0 g261.1 g261.2).2.1.one, Seg.cell (.int .i64 (((ix a1 s68.1).A).Kind)), Seg.cell (.int .i64 (((ix a1 s68.1).A).At)), Seg.cell (.int .u64 (((ix a1 s68.1).A).W)), Seg.cell (cellAt w (sb V1_0) (so V1_0 + Int.toNat s68.1 * 8 + 7)) (N_rickyardlaw15_Act R1_0 g261.1 g261.2).2.2.one]) (At.gr (N_rickyardlaw15_Act R1_0 g261.1 g261.2).1 fB) 1 1 rfl)) rfl rfl rfl ?_
   obtain ⟨t262, k263, h⟩ := bs h
   refine ol_op (by exact opv_call rfl cal56 (ac rfl (ac rfl an)) (press_Lasts.ok fu _ t129.2.1 G28 u132 (o133.rd) u136 (o137.rd) b30 ((ix a1 s68.1).At) _ k263)) rfl rfl rfl ?_
   rintro _ w268 ⟨u264, o265, rfl, q267⟩
   have a269 := OffV.call o208 o265
   have a270 := OffV.call o230 o265
   have o265 := Own.base o265 fB.size
   have b30 := b30.gr q267
   have b46 := b46.gr q267
   have o133 := o133.gr q267
   have o137 := o137.gr q267
   have o141 := o141.gr q267
   have o145 := o145.gr q267
   have o149 := o149.gr q267
   have o153 := o153.gr q267
   have o157 := o157.gr q267
   have o208 := o208.gr q267
   have o230 := o230.gr q267
   have o246 := o246.gr q267
   have o251 := o251.gr q267
   have fB := fB.gr q267
   refine ol_val (v := .tuple #[u264, .bool t262.2]) (by exact xr_move rfl rfl) rfl rfl rfl ?_
   refine ol_val (v := u264) (by exact xr_extract rfl rfl rfl) rfl rfl rfl ?_
   refine ol_val (v := .bool t262.2) (by exact xr_extract rfl rfl rfl) rfl rfl rfl ?_
   refine ol_val (v := u264) (by exact xr_assign rfl rfl) rfl rfl rfl ?_
   refine ol_val (v := .bool t262.2) (by exact xr_assign rfl rfl) rfl rfl rfl ?_
   refine ol_nil ?_
   refine cw_seq ?_
   refine rd_region mo ?_
   intro w271 q272
   have b30 := b30.gr q272
   have b46 := b46.gr q272
   have o133 := o133.gr q272
   have o137 := o137.gr q272
   have o141 := o141.gr q272
   have o145 := o145.gr q272
   have o149 := o149.gr q272
   have o153 := o153.gr q272
   have o157 := o157.gr q272
   have o208 := o208.gr q272
   have o230 := o230.gr q272
   have o246 := o246.gr q272
   have o251 := o251.gr q272
   have o265 := o265.gr q272
   have fB := fB.gr q272
   obtain ⟨g273, h⟩ := gs h
   rcases is h with ⟨c274, h⟩ | ⟨c274, h⟩
   ·skip
    obtain ⟨g275, h⟩ := gs h
    refine rd_drawL 0 16 [fun vz wz => vz = (.bool t262.2 : Value), fun vz wz => vz = (V1_0 : Value), fun vz wz => vz = (.int .i64 s68.1 : Value), fun vz wz => vz = (.pointer (some ⟨(sb V1_0), so V1_0 + Int.toNat s68.1 * 8, none⟩) : Value), fun vz wz => vz = (.pointer (some ⟨(sb V1_0), so V1_0 + Int.toNat s68.1 * 8 + 1, none⟩) : Value), fun vz wz => vz = (.int .i64 ((ix a1 s68.1).At) : Value), fun vz wz => vz = (.bool (decide (((ix a1 s68.1).At) ≥ 0)) : Value), fun vz wz => vz = (.bool (decide (((ix a1 s68.1).At) ≥ 0)) : Value), fun vz wz => vz = (V1_0 : Value), fun vz wz => vz = (.int .i64 s68.1 : Value), fun vz wz => vz = (.pointer (some ⟨(sb V1_0), so V1_0 + Int.toNat s68.1 * 8, none⟩) : Value), fun vz wz => vz = (.pointer (some ⟨(sb V1_0), so V1_0 + Int.toNat s68.1 * 8 + 1, none⟩) : Value), fun vz wz => vz = (.int .i64 ((ix a1 s68.1).At) : Value), fun vz wz => vz = (.int .i64 (Int.tmod (IntKind.i64.wrap a0) 5) : Value), fun vz wz => vz = (.bool (decide (((ix a1 s68.1).At) < (Int.tmod (IntKind.i64.wrap a0) 5))) : Value), fun vz wz => vz = (.bool (decide (((ix a1 s68.1).At) < (Int.tmod (IntKind.i64.wrap a0) 5))) : Value)] rfl ⟨fun _ _ _ h _ => h, fun _ _ _ h _ => h, fun _ _ _ h _ => h, fun _ _ _ h _ => h, fun _ _ _ h _ => h, fun _ _ _ h _ => h, fun _ _ _ h _ => h, fun _ _ _ h _ => h, fun _ _ _ h _ => h, fun _ _ _ h _ => h, fun _ _ _ h _ => h, fun _ _ _ h _ => h, fun _ _ _ h _ => h, fun _ _ _ h _ => h, fun _ _ _ h _ => h, fun _ _ _ h _ => h, trivial⟩ ?_ ?_
    ·refine ⟨?_, ?_, ?_, ?_, ?_, ?_, ?_, ?_, ?_, ?_, ?_, ?_, ?_, ?_, ?_, ?_, trivial⟩
     ·intro ρz wz hz hk hd
      exact sk_val (v := .bool t262.2) (by exact xr_move rfl ((hk 11 rfl).trans rfl)) rfl rfl
     ·intro ρz wz hz hk hd
      exact sk_val (v := V1_0) (by exact xr_move rfl ((hk 1 rfl).trans e1)) rfl rfl
     ·intro ρz wz hz hk hd
      exact sk_val (v := .int .i64 s68.1) (by exact xr_move rfl ((hk 9 rfl).trans e9)) rfl rfl
     ·intro ρz wz hz hk hd
      have d96 := hd 1 rfl rfl 96 rfl
      have d97 := hd 2 rfl rfl 97 rfl
      exact sk_val (by exact xr_indexN (v := V1_0) rfl Try.underlying82 sz85 d96 (RdN.gr R1_0 D_rickyardlaw15_Act.gr (fB.gr hz)) d97 g273.1 g273.2) rfl rfl
     ·intro ρz wz hz hk hd
      have d98 := hd 3 rfl rfl 98 rfl
      exact sk_val (by exact xr_fieldAddr (p := so V1_0 + Int.toNat s68.1 * 8) (q := 1) rfl fl85_1 d98) rfl rfl
     ·intro ρz wz hz hk hd
      have d99 := hd 4 rfl rfl 99 rfl
      exact sk_val (v := .int .i64 ((ix a1 s68.1).At)) (by exact xr_load1 (v := .int .i64 ((ix a1 s68.1).At)) rfl ag3 d99 (At.segs (ss := [Seg.cell (.int .i64 ((ix a1 s68.1).Kind)), Seg.cell (.int .i64 ((ix a1 s68.1).At)), Seg.cell (.int .i64 ((ix a1 s68.1).I)), Seg.cell (cellAt w (sb V1_0) (so V1_0 + Int.toNat s68.1 * 8 + 3)) (N_rickyardlaw15_Act R1_0 g273.1 g273.2).2.1.one, Seg.cell (.int .i64 (((ix a1 s68.1).A).Kind)), Seg.cell (.int .i64 (((ix a1 s68.1).A).At)), Seg.cell (.int .u64 (((ix a1 s68.1).A).W)), Seg.cell (cellAt w (sb V1_0) (so V1_0 + Int.toNat s68.1 * 8 + 7)) (N_rickyardlaw15_Act R1_0 g273.1 g273.2).2.2.one]) (At.gr (N_rickyardlaw15_Act R1_0 g273.1 g273.2).1 (fB.gr hz)) 1 1 rfl)) rfl rfl
     ·intro ρz wz hz hk hd
      have d100 := hd 5 rfl rfl 100 rfl
      exact sk_val (v := .bool (decide (((ix a1 s68.1).At) ≥ 0))) (by exact xr_geq rfl d100 rfl) rfl rfl
     ·intro ρz wz hz hk hd
      have d101 := hd 6 rfl rfl 101 rfl
      exact sk_val (v := .bool (decide (((ix a1 s68.1).At) ≥ 0))) (by exact xr_move rfl d101) rfl rfl
     ·intro ρz wz hz hk hd
      have d102 := hd 7 rfl rfl 102 rfl
      exact sk_gval (v := V1_0) (by exact xr_move rfl ((hk 1 rfl).trans e1)) rfl rfl d102 c274 rfl
     ·intro ρz wz hz hk hd
      have d102 := hd 7 rfl rfl 102 rfl
      exact sk_gval (v := .int .i64 s68.1) (by exact xr_move rfl ((hk 9 rfl).trans e9)) rfl rfl d102 c274 rfl
     ·intro ρz wz hz hk hd
      have d103 := hd 8 rfl rfl 103 rfl
      have d104 := hd 9 rfl rfl 104 rfl
      have d102 := hd 7 rfl rfl 102 rfl
      exact sk_gval (by exact xr_indexN (v := V1_0) rfl Try.underlying82 sz85 d103 (RdN.gr R1_0 D_rickyardlaw15_Act.gr (fB.gr hz)) d104 g275.1 g275.2) rfl rfl d102 c274 rfl
     ·intro ρz wz hz hk hd
      have d105 := hd 10 rfl rfl 105 rfl
      have d102 := hd 7 rfl rfl 102 rfl
      exact sk_gval (by exact xr_fieldAddr (p := so V1_0 + Int.toNat s68.1 * 8) (q := 1) rfl fl85_1 d105) rfl rfl d102 c274 rfl
     ·intro ρz wz hz hk hd
      have d106 := hd 11 rfl rfl 106 rfl
      have d102 := hd 7 rfl rfl 102 rfl
      exact sk_gval (v := .int .i64 ((ix a1 s68.1).At)) (by exact xr_load1 (v := .int .i64 ((ix a1 s68.1).At)) rfl ag3 d106 (At.segs (ss := [Seg.cell (.int .i64 ((ix a1 s68.1).Kind)), Seg.cell (.int .i64 ((ix a1 s68.1).At)), Seg.cell (.int .i64 ((ix a1 s68.1).I)), Seg.cell (cellAt w (sb V1_0) (so V1_0 + Int.toNat s68.1 * 8 + 3)) (N_rickyardlaw15_Act R1_0 g275.1 g275.2).2.1.one, Seg.cell (.int .i64 (((ix a1 s68.1).A).Kind)), Seg.cell (.int .i64 (((ix a1 s68.1).A).At)), Seg.cell (.int .u64 (((ix a1 s68.1).A).W)), Seg.cell (cellAt w (sb V1_0) (so V1_0 + Int.toNat s68.1 * 8 + 7)) (N_rickyardlaw15_Act R1_0 g275.1 g275.2).2.2.one]) (At.gr (N_rickyardlaw15_Act R1_0 g275.1 g275.2).1 (fB.gr hz)) 1 1 rfl)) rfl rfl d102 c274 rfl
     ·intro ρz wz hz hk hd
      have d102 := hd 7 rfl rfl 102 rfl
      exact sk_gval (v := .int .i64 (Int.tmod (IntKind.i64.wrap a0) 5)) (by exact xr_move rfl ((hk 5 rfl).trans e5)) rfl rfl d102 c274 rfl
     ·intro ρz wz hz hk hd
      have d107 := hd 12 rfl rfl 107 rfl
      have d108 := hd 13 rfl rfl 108 rfl
      have d102 := hd 7 rfl rfl 102 rfl
      exact sk_gval (by exact xr_lss rfl d107 d108) rfl rfl d102 c274 rfl
     intro ρz wz hz hk hd
     have d102 := hd 7 rfl rfl 102 rfl
     have d109 := hd 14 rfl rfl 109 rfl
     exact sk_val (by exact xr_pickT rfl d102 c274 d109) rfl rfl
    intro ρ276 w277 q278 hk hd
    have e1 := (hk 1 rfl).trans e1
    have e5 := (hk 5 rfl).trans e5
    have e6 := (hk 6 rfl).trans e6
    have e8 := (hk 8 rfl).trans e8
    have e9 := (hk 9 rfl).trans e9
    have e10 := (hk 10 rfl).trans rfl
    have e11 := (hk 11 rfl).trans rfl
    have e47 := (hk 47 rfl).trans e47
    have e48 := (hk 48 rfl).trans e48
    have e49 := (hk 49 rfl).trans e49
    have e50 := (hk 50 rfl).trans e50
    have e51 := (hk 51 rfl).trans e51
    have e52 := (hk 52 rfl).trans e52
    have e53 := (hk 53 rfl).trans e53
    have e56 := (hk 56 rfl).trans e56
    have e57 := (hk 57 rfl).trans e57
    have e58 := (hk 58 rfl).trans e58
    have e59 := (hk 59 rfl).trans e59
    have e60 := (hk 60 rfl).trans e60
    have e61 := (hk 61 rfl).trans e61
    have e62 := (hk 62 rfl).trans e62
    have e63 := (hk 63 rfl).trans e63
    have e64 := (hk 64 rfl).trans e64
    have e67 := (hk 67 rfl).trans e67
    have e68 := (hk 68 rfl).trans e68
    have e69 := (hk 69 rfl).trans e69
    have e70 := (hk 70 rfl).trans e70
    have e71 := (hk 71 rfl).trans e71
    have e72 := (hk 72 rfl).trans e72
    have e73 := (hk 73 rfl).trans e73
    have e74 := (hk 74 rfl).trans e74
    have e75 := (hk 75 rfl).trans e75
    have e78 := (hk 78 rfl).trans e78
    have e79 := (hk 79 rfl).trans e79
    have e80 := (hk 80 rfl).trans e80
    have e81 := (hk 81 rfl).trans rfl
    have e82 := (hk 82 rfl).trans rfl
    have e83 := (hk 83 rfl).trans rfl
    have e95 := hd 0 rfl rfl 95 rfl
    have e103 := hd 8 rfl rfl 103 rfl
    have e104 := hd 9 rfl rfl 104 rfl
    have e105 := hd 10 rfl rfl 105 rfl
    have e106 := hd 11 rfl rfl 106 rfl
    have e107 := hd 12 rfl rfl 107 rfl
    have e108 := hd 13 rfl rfl 108 rfl
    have e109 := hd 14 rfl rfl 109 rfl
    have e110 := hd 15 rfl rfl 110 rfl
    have b30 := b30.gr q278
    have b46 := b46.gr q278
    have o133 := o133.gr q278
    have o137 := o137.gr q278
    have o141 := o141.gr q278
    have o145 := o145.gr q278
    have o149 := o149.gr q278
    have o153 := o153.gr q278
    have o157 := o157.gr q278
    have o208 := o208.gr q278
    have o230 := o230.gr q278
    have o246 := o246.gr q278
    have o251 := o251.gr q278
    have o265 := o265.gr q278
    have fB := fB.gr q278
    refine rd_seq (m := 16) (n := 20) rfl ?_
    refine ol_val (v := .bool (!decide (t262.2 = (decide (((ix a1 s68.1).At) < (Int.tmod (IntKind.i64.wrap a0) 5)))))) (by exact xr_neB rfl Try.underlying4 e95 e110) rfl rfl rfl ?_
    refine ol_val (v := .bool (!decide (t262.2 = (decide (((ix a1 s68.1).At) < (Int.tmod (IntKind.i64.wrap a0) 5)))))) (by exact xr_move rfl rfl) rfl rfl rfl ?_
    rcases is h with ⟨c279, h⟩ | ⟨c279, h⟩
    ·skip
     refine ol_gskip rfl rfl rfl rfl rfl c279 ?_
     refine ol_gskip rfl rfl rfl rfl rfl c279 ?_
     refine ol_nilK ?_
     refine rd_drawL 20 41 [fun _ _ => True, fun _ _ => True, fun _ _ => True, fun _ _ => True, fun _ _ => True, fun _ _ => True, fun _ _ => True, fun _ _ => True, fun _ _ => True, fun _ _ => True, fun _ _ => True, fun _ _ => True, fun _ _ => True, fun _ _ => True, fun _ _ => True, fun _ _ => True, fun _ _ => True, fun _ _ => True, fun _ _ => True, fun _ _ => True, fun vz _ => vz = undef, fun vz _ => vz = undef, fun vz _ => vz = undef, fun vz _ => vz = undef, fun vz _ => vz = undef, fun vz _ => vz = undef, fun vz _ => vz = undef, fun vz _ => vz = undef, fun vz _ => vz = undef, fun vz _ => vz = undef, fun vz _ => vz = undef, fun vz _ => vz = undef, fun vz _ => vz = undef, fun vz _ => vz = undef, fun vz _ => vz = undef, fun vz _ => vz = undef, fun vz _ => vz = undef, fun vz _ => vz = undef, fun vz _ => vz = undef, fun vz _ => vz = undef, fun vz _ => vz = undef] rfl ⟨fun _ _ _ h _ => h, fun _ _ _ h _ => h, fun _ _ _ h _ => h, fun _ _ _ h _ => h, fun _ _ _ h _ => h, fun _ _ _ h _ => h, fun _ _ _ h _ => h, fun _ _ _ h _ => h, fun _ _ _ h _ => h, fun _ _ _ h _ => h, fun _ _ _ h _ => h, fun _ _ _ h _ => h, fun _ _ _ h _ => h, fun _ _ _ h _ => h, fun _ _ _ h _ => h, fun _ _ _ h _ => h, fun _ _ _ h _ => h, fun _ _ _ h _ => h, fun _ _ _ h _ => h, fun _ _ _ h _ => h, fun _ _ _ h _ => h, fun _ _ _ h _ => h, fun _ _ _ h _ => h, fun _ _ _ h _ => h, fun _ _ _ h _ => h, fun _ _ _ h _ => h, fun _ _ _ h _ => h, fun _ _ _ h _ => h, fun _ _ _ h _ => h, fun _ _ _ h _ => h, fun _ _ _ h _ => h, fun _ _ _ h _ => h, fun _ _ _ h _ => h, fun _ _ _ h _ => h, fun _ _ _ h _ => h, fun _ _ _ h _ => h, fun _ _ _ h _ => h, fun _ _ _ h _ => h, fun _ _ _ h _ => h, fun _ _ _ h _ => h, fun _ _ _ h _ => h, trivial⟩ ?_ ?_
     ·refine ⟨?_, ?_, ?_, ?_, ?_, ?_, ?_, ?_, ?_, ?_, ?_, ?_, ?_, ?_, ?_, ?_, ?_, ?_, ?_, ?_, ?_, trivial⟩
      ·intro ρz wz hz hk hd
       exact sk_uskip rfl rfl ((hk 114 rfl).trans rfl) rfl
      ·intro ρz wz hz hk hd
       exact sk_uskip rfl rfl ((hk 114 rfl).trans rfl) rfl
      ·intro ρz wz hz hk hd
       exact sk_uskip rfl rfl ((hk 114 rfl).trans rfl) rfl
      ·intro ρz wz hz hk hd
       exact sk_uskip rfl rfl ((hk 114 rfl).trans rfl) rfl
      ·intro ρz wz hz hk hd
       exact sk_uskip rfl rfl ((hk 114 rfl).trans rfl) rfl
      ·intro ρz wz hz hk hd
       exact sk_uskip rfl rfl ((hk 114 rfl).trans rfl) rfl
      ·intro ρz wz hz hk hd
       exact sk_uskip rfl rfl ((hk 114 rfl).trans rfl) rfl
      ·intro ρz wz hz hk hd
       exact sk_uskip rfl rfl ((hk 114 rfl).trans rfl) rfl
      ·intro ρz wz hz hk hd
       exact sk_uskip rfl rfl ((hk 114 rfl).trans rfl) rfl
      ·intro ρz wz hz hk hd
       exact sk_uskip rfl rfl ((hk 114 rfl).trans rfl) rfl
      ·intro ρz wz hz hk hd
       exact sk_uskip rfl rfl ((hk 114 rfl).trans rfl) rfl
      ·intro ρz wz hz hk hd
       exact sk_uskip rfl rfl ((hk 114 rfl).trans rfl) rfl
      ·intro ρz wz hz hk hd
       exact sk_uskip rfl rfl ((hk 114 rfl).trans rfl) rfl
      ·intro ρz wz hz hk hd
       exact sk_uskip rfl rfl ((hk 114 rfl).trans rfl) rfl
      ·intro ρz wz hz hk hd
       exact sk_uskip rfl rfl ((hk 114 rfl).trans rfl) rfl
      ·intro ρz wz hz hk hd
       exact sk_uskip rfl rfl ((hk 114 rfl).trans rfl) rfl
      ·intro ρz wz hz hk hd
       exact sk_uskip rfl rfl ((hk 114 rfl).trans rfl) rfl
      ·intro ρz wz hz hk hd
       exact sk_uskip rfl rfl ((hk 114 rfl).trans rfl) rfl
      ·intro ρz wz hz hk hd
       exact sk_uskip rfl rfl ((hk 114 rfl).trans rfl) rfl
      ·intro ρz wz hz hk hd
       exact sk_uskip rfl rfl ((hk 114 rfl).trans rfl) rfl
      intro ρz wz hz hk hd
      exact sk_uskip rfl rfl ((hk 114 rfl).trans rfl) rfl
     intro ρ280 w281 q282 hk hd
     have e1 := (hk 1 rfl).trans e1
     have e5 := (hk 5 rfl).trans e5
     have e6 := (hk 6 rfl).trans e6
     have e8 := (hk 8 rfl).trans e8
     have e9 := (hk 9 rfl).trans e9
     have e10 := (hk 10 rfl).trans e10
     have e11 := (hk 11 rfl).trans e11
     have e47 := (hk 47 rfl).trans e47
     have e48 := (hk 48 rfl).trans e48
     have e49 := (hk 49 rfl).trans e49
     have e50 := (hk 50 rfl).trans e50
     have e51 := (hk 51 rfl).trans e51
     have e52 := (hk 52 rfl).trans e52
     have e53 := (hk 53 rfl).trans e53
     have e56 := (hk 56 rfl).trans e56
     have e57 := (hk 57 rfl).trans e57
     have e58 := (hk 58 rfl).trans e58
     have e59 := (hk 59 rfl).trans e59
     have e60 := (hk 60 rfl).trans e60
     have e61 := (hk 61 rfl).trans e61
     have e62 := (hk 62 rfl).trans e62
     have e63 := (hk 63 rfl).trans e63
     have e64 := (hk 64 rfl).trans e64
     have e67 := (hk 67 rfl).trans e67
     have e68 := (hk 68 rfl).trans e68
     have e69 := (hk 69 rfl).trans e69
     have e70 := (hk 70 rfl).trans e70
     have e71 := (hk 71 rfl).trans e71
     have e72 := (hk 72 rfl).trans e72
     have e73 := (hk 73 rfl).trans e73
     have e74 := (hk 74 rfl).trans e74
     have e75 := (hk 75 rfl).trans e75
     have e78 := (hk 78 rfl).trans e78
     have e79 := (hk 79 rfl).trans e79
     have e80 := (hk 80 rfl).trans e80
     have e81 := (hk 81 rfl).trans e81
     have e82 := (hk 82 rfl).trans e82
     have e83 := (hk 83 rfl).trans e83
     have e103 := (hk 103 rfl).trans e103
     have e104 := (hk 104 rfl).trans e104
     have e105 := (hk 105 rfl).trans e105
     have e106 := (hk 106 rfl).trans e106
     have e107 := (hk 107 rfl).trans e107
     have e108 := (hk 108 rfl).trans e108
     have e109 := (hk 109 rfl).trans e109
     have e112 := (hk 112 rfl).trans rfl
     have e113 := (hk 113 rfl).trans rfl
     have e114 := (hk 114 rfl).trans rfl
     have e115 := hd 20 rfl rfl 115 rfl
     have e116 := hd 21 rfl rfl 116 rfl
     have e117 := hd 22 rfl rfl 117 rfl
     have e118 := hd 23 rfl rfl 118 rfl
     have e119 := hd 24 rfl rfl 119 rfl
     have e120 := hd 25 rfl rfl 120 rfl
     have e121 := hd 26 rfl rfl 121 rfl
     have e122 := hd 27 rfl rfl 122 rfl
     have e123 := hd 28 rfl rfl 123 rfl
     have e124 := hd 29 rfl rfl 124 rfl
     have e125 := hd 30 rfl rfl 125 rfl
     have e126 := hd 31 rfl rfl 126 rfl
     have e127 := hd 32 rfl rfl 127 rfl
     have e128 := hd 33 rfl rfl 128 rfl
     have e129 := hd 34 rfl rfl 129 rfl
     have e130 := hd 35 rfl rfl 130 rfl
     have e131 := hd 36 rfl rfl 131 rfl
     have e132 := hd 37 rfl rfl 132 rfl
     have e133 := hd 38 rfl rfl 133 rfl
     have e134 := hd 39 rfl rfl 134 rfl
     have e135 := hd 40 rfl rfl 135 rfl
     have b30 := b30.gr q282
     have b46 := b46.gr q282
     have o133 := o133.gr q282
     have o137 := o137.gr q282
     have o141 := o141.gr q282
     have o145 := o145.gr q282
     have o149 := o149.gr q282
     have o153 := o153.gr q282
     have o157 := o157.gr q282
     have o208 := o208.gr q282
     have o230 := o230.gr q282
     have o246 := o246.gr q282
     have o251 := o251.gr q282
     have o265 := o265.gr q282
     have fB := fB.gr q282
     refine rd_seq (m := 41) (n := 53) rfl ?_
     refine ol_uskip rfl rfl rfl rfl e114 ?_
     refine ol_gskip rfl rfl rfl rfl e112 c279 ?_
     refine ol_val (v := .bool true) (by exact xr_pickT rfl e112 c279 rfl) rfl rfl rfl ?_
     refine ol_val (v := .bool true) (by exact xr_move rfl rfl) rfl rfl rfl ?_
     refine ol_gskip rfl rfl rfl rfl rfl rfl ?_
     refine ol_gskip rfl rfl rfl rfl rfl rfl ?_
     refine ol_gskip rfl rfl rfl rfl rfl rfl ?_
     refine ol_uskip rfl rfl rfl rfl rfl ?_
     refine ol_uskip rfl rfl rfl rfl rfl ?_
     refine ol_uskip rfl rfl rfl rfl rfl ?_
     refine ol_gskip rfl rfl rfl rfl rfl rfl ?_
     refine ol_val (v := .bool true) (by exact xr_pickT rfl rfl rfl rfl) rfl rfl rfl ?_
     refine ol_nilK ?_
     refine rd_end rfl ?_
     refine cw_condT rfl rfl ?_
     refine cw_seq ?_
     refine cw_region ?_
     refine ol_val (v := .bool false) (by exact xr_assign rfl rfl) rfl rfl rfl ?_
     refine ol_nil ?_
     refine cw_ret ?_
     repeat (first | with_reducible refine thn_r ?_ | with_reducible refine blk_r ?_)
     obtain rfl := Option.some.inj h
     refine lp_ret ?_
     rintro rfl
     repeat (first | with_reducible refine thn_r ?_ | with_reducible refine blk_r ?_)
     have h := h71
     obtain rfl := Option.some.inj h
     refine fin_ret1 Try.results13 rfl ?_
     exact ⟨_, rfl, rfl, fB⟩
    refine ol_gval (v := .bool t262.2) (by exact xr_move rfl e11) rfl rfl rfl rfl rfl c279 ?_
    refine ol_gval (v := .bool t262.2) (by exact xr_move rfl rfl) rfl rfl rfl rfl rfl c279 ?_
    refine ol_nilK ?_
    rcases is h with ⟨c283, h⟩ | ⟨c283, h⟩
    ·skip
     obtain ⟨g284, h⟩ := gs h
     obtain ⟨g285, h⟩ := gs h
     obtain ⟨g287, h⟩ := gs h
     obtain ⟨t288, k289, h⟩ := bs h
     refine rd_drawL 20 41 [fun _ _ => True, fun _ _ => True, fun _ _ => True, fun _ _ => True, fun _ _ => True, fun _ _ => True, fun _ _ => True, fun _ _ => True, fun _ _ => True, fun _ _ => True, fun _ _ => True, fun _ _ => True, fun _ _ => True, fun _ _ => True, fun _ _ => True, fun _ _ => True, fun _ _ => True, fun _ _ => True, fun _ _ => True, fun _ _ => True, fun vz wz => vz = (u264 : Value), fun vz wz => vz = (sv (List.map toB t262.1) : Value), fun vz wz => vz = (.pointer (some ⟨G44, 0, none⟩) : Value), fun vz wz => vz = (.pointer (some ⟨G44, 0, none⟩) : Value), fun vz wz => vz = (.pointer (some ⟨G44, 0, none⟩) : Value), fun vz wz => vz = (u140 : Value), fun vz wz => vz = (V1_0 : Value), fun vz wz => vz = (.int .i64 s68.1 : Value), fun vz wz => vz = (.pointer (some ⟨(sb V1_0), so V1_0 + Int.toNat s68.1 * 8, none⟩) : Value), fun vz wz => vz = (.pointer (some ⟨(sb V1_0), so V1_0 + Int.toNat s68.1 * 8 + 1, none⟩) : Value), fun vz wz => vz = (.int .i64 ((ix a1 s68.1).At) : Value), fun vz wz => vz = (.int .i64 (IntKind.i64.wrap (8 * ((ix a1 s68.1).At))) : Value), fun vz wz => vz = (V1_0 : Value), fun vz wz => vz = (.int .i64 s68.1 : Value), fun vz wz => vz = (.pointer (some ⟨(sb V1_0), so V1_0 + Int.toNat s68.1 * 8, none⟩) : Value), fun vz wz => vz = (.pointer (some ⟨(sb V1_0), so V1_0 + Int.toNat s68.1 * 8 + 1, none⟩) : Value), fun vz wz => vz = (.int .i64 ((ix a1 s68.1).At) : Value), fun vz wz => vz = (.int .i64 (IntKind.i64.wrap (8 * ((ix a1 s68.1).At))) : Value), fun vz wz => vz = (.int .i64 (IntKind.i64.wrap ((IntKind.i64.wrap (8 * ((ix a1 s68.1).At))) + 8)) : Value), fun vz wz => ∃ r286 : Rd (kI .u64) wz (subv 1 u140 (Int.toNat (IntKind.i64.wrap (8 * ((ix a1 s68.1).At)))) (Int.toNat (IntKind.i64.wrap ((IntKind.i64.wrap (8 * ((ix a1 s68.1).At))) + 8)))) (cut t129.2.2.Lasts (IntKind.i64.wrap (8 * ((ix a1 s68.1).At))) (IntKind.i64.wrap ((IntKind.i64.wrap (8 * ((ix a1 s68.1).At))) + 8))), vz = (subv 1 u140 (Int.toNat (IntKind.i64.wrap (8 * ((ix a1 s68.1).At)))) (Int.toNat (IntKind.i64.wrap ((IntKind.i64.wrap (8 * ((ix a1 s68.1).At))) + 8))) : Value), fun vz wz => vz = (sv t288 : Value)] rfl ⟨fun _ _ _ h _ => h, fun _ _ _ h _ => h, fun _ _ _ h _ => h, fun _ _ _ h _ => h, fun _ _ _ h _ => h, fun _ _ _ h _ => h, fun _ _ _ h _ => h, fun _ _ _ h _ => h, fun _ _ _ h _ => h, fun _ _ _ h _ => h, fun _ _ _ h _ => h, fun _ _ _ h _ => h, fun _ _ _ h _ => h, fun _ _ _ h _ => h, fun _ _ _ h _ => h, fun _ _ _ h _ => h, fun _ _ _ h _ => h, fun _ _ _ h _ => h, fun _ _ _ h _ => h, fun _ _ _ h _ => h, fun _ _ _ h _ => h, fun _ _ _ h _ => h, fun _ _ _ h _ => h, fun _ _ _ h _ => h, fun _ _ _ h _ => h, fun _ _ _ h _ => h, fun _ _ _ h _ => h, fun _ _ _ h _ => h, fun _ _ _ h _ => h, fun _ _ _ h _ => h, fun _ _ _ h _ => h, fun _ _ _ h _ => h, fun _ _ _ h _ => h, fun _ _ _ h _ => h, fun _ _ _ h _ => h, fun _ _ _ h _ => h, fun _ _ _ h _ => h, fun _ _ _ h _ => h, fun _ _ _ h _ => h, fun _ _ _ ⟨r286, h⟩ q => ⟨r286.gr q, h⟩, fun _ _ _ h _ => h, trivial⟩ ?_ ?_
     ·refine ⟨?_, ?_, ?_, ?_, ?_, ?_, ?_, ?_, ?_, ?_, ?_, ?_, ?_, ?_, ?_, ?_, ?_, ?_, ?_, ?_, ?_, trivial⟩
      ·intro ρz wz hz hk hd
       exact sk_gval (v := u264) (by exact xr_move rfl ((hk 10 rfl).trans e10)) rfl rfl ((hk 114 rfl).trans rfl) c283 rfl
      ·intro ρz wz hz hk hd
       have d115 := hd 20 rfl rfl 115 rfl
       exact sk_gval (v := sv (List.map toB t262.1)) (by exact xr_toStr rfl Try.underlying43 Try.underlying5 Try.underlying9 d115 (o265.gr hz).rd) rfl rfl ((hk 114 rfl).trans rfl) c283 rfl
      ·intro ρz wz hz hk hd
       exact sk_gval (v := .pointer (some ⟨G44, 0, none⟩)) (by exact xr_move rfl ((hk 8 rfl).trans e8)) rfl rfl ((hk 114 rfl).trans rfl) c283 rfl
      ·intro ρz wz hz hk hd
       have d117 := hd 22 rfl rfl 117 rfl
       exact sk_gval (v := .pointer (some ⟨G44, 0, none⟩)) (by exact xr_nilCheck rfl d117) rfl rfl ((hk 114 rfl).trans rfl) c283 rfl
      ·intro ρz wz hz hk hd
       have d118 := hd 23 rfl rfl 118 rfl
       exact sk_gval (v := .pointer (some ⟨G44, 0, none⟩)) (by exact xr_fieldAddr (p := 0) (q := 0) rfl fl65_0 d118) rfl rfl ((hk 114 rfl).trans rfl) c283 rfl
      ·intro ρz wz hz hk hd
       have d119 := hd 24 rfl rfl 119 rfl
       exact sk_gval (v := u140) (by exact xr_load1 (v := u140) rfl ag46 d119 ((b46.gr hz).seg 0 rfl rfl)) rfl rfl ((hk 114 rfl).trans rfl) c283 rfl
      ·intro ρz wz hz hk hd
       exact sk_gval (v := V1_0) (by exact xr_move rfl ((hk 1 rfl).trans e1)) rfl rfl ((hk 114 rfl).trans rfl) c283 rfl
      ·intro ρz wz hz hk hd
       exact sk_gval (v := .int .i64 s68.1) (by exact xr_move rfl ((hk 9 rfl).trans e9)) rfl rfl ((hk 114 rfl).trans rfl) c283 rfl
      ·intro ρz wz hz hk hd
       have d121 := hd 26 rfl rfl 121 rfl
       have d122 := hd 27 rfl rfl 122 rfl
       exact sk_gval (by exact xr_indexN (v := V1_0) rfl Try.underlying82 sz85 d121 (RdN.gr R1_0 D_rickyardlaw15_Act.gr (fB.gr hz)) d122 g284.1 g284.2) rfl rfl ((hk 114 rfl).trans rfl) c283 rfl
      ·intro ρz wz hz hk hd
       have d123 := hd 28 rfl rfl 123 rfl
       exact sk_gval (by exact xr_fieldAddr (p := so V1_0 + Int.toNat s68.1 * 8) (q := 1) rfl fl85_1 d123) rfl rfl ((hk 114 rfl).trans rfl) c283 rfl
      ·intro ρz wz hz hk hd
       have d124 := hd 29 rfl rfl 124 rfl
       exact sk_gval (v := .int .i64 ((ix a1 s68.1).At)) (by exact xr_load1 (v := .int .i64 ((ix a1 s68.1).At)) rfl ag3 d124 (At.segs (ss := [Seg.cell (.int .i64 ((ix a1 s68.1).Kind)), Seg.cell (.int .i64 ((ix a1 s68.1).At)), Seg.cell (.int .i64 ((ix a1 s68.1).I)), Seg.cell (cellAt w (sb V1_0) (so V1_0 + Int.toNat s68.1 * 8 + 3)) (N_rickyardlaw15_Act R1_0 g284.1 g284.2).2.1.one, Seg.cell (.int .i64 (((ix a1 s68.1).A).Kind)), Seg.cell (.int .i64 (((ix a1 s68.1).A).At)), Seg.cell (.int .u64 (((ix a1 s68.1).A).W)), Seg.cell (cellAt w (sb V1_0) (so V1_0 + Int.toNat s68.1 * 8 + 7)) (N_rickyardlaw15_Act R1_0 g284.1 g284.2).2.2.one]) (At.gr (N_rickyardlaw15_Act R1_0 g284.1 g284.2).1 (fB.gr hz)) 1 1 rfl)) rfl rfl ((hk 114 rfl).trans rfl) c283 rfl
      ·intro ρz wz hz hk hd
       have d125 := hd 30 rfl rfl 125 rfl
       exact sk_gval (v := .int .i64 (IntKind.i64.wrap (8 * ((ix a1 s68.1).At)))) (by exact xr_mul rfl rfl d125) rfl rfl ((hk 114 rfl).trans rfl) c283 rfl
      ·intro ρz wz hz hk hd
       exact sk_gval (v := V1_0) (by exact xr_move rfl ((hk 1 rfl).trans e1)) rfl rfl ((hk 114 rfl).trans rfl) c283 rfl
      ·intro ρz wz hz hk hd
       exact sk_gval (v := .int .i64 s68.1) (by exact xr_move rfl ((hk 9 rfl).trans e9)) rfl rfl ((hk 114 rfl).trans rfl) c283 rfl
      ·intro ρz wz hz hk hd
       have d127 := hd 32 rfl rfl 127 rfl
       have d128 := hd 33 rfl rfl 128 rfl
       exact sk_gval (by exact xr_indexN (v := V1_0) rfl Try.underlying82 sz85 d127 (RdN.gr R1_0 D_rickyardlaw15_Act.gr (fB.gr hz)) d128 g285.1 g285.2) rfl rfl ((hk 114 rfl).trans rfl) c283 rfl
      ·intro ρz wz hz hk hd
       have d129 := hd 34 rfl rfl 129 rfl
       exact sk_gval (by exact xr_fieldAddr (p := so V1_0 + Int.toNat s68.1 * 8) (q := 1) rfl fl85_1 d129) rfl rfl ((hk 114 rfl).trans rfl) c283 rfl
      ·intro ρz wz hz hk hd
       have d130 := hd 35 rfl rfl 130 rfl
       exact sk_gval (v := .int .i64 ((ix a1 s68.1).At)) (by exact xr_load1 (v := .int .i64 ((ix a1 s68.1).At)) rfl ag3 d130 (At.segs (ss := [Seg.cell (.int .i64 ((ix a1 s68.1).Kind)), Seg.cell (.int .i64 ((ix a1 s68.1).At)), Seg.cell (.int .i64 ((ix a1 s68.1).I)), Seg.cell (cellAt w (sb V1_0) (so V1_0 + Int.toNat s68.1 * 8 + 3)) (N_rickyardlaw15_Act R1_0 g285.1 g285.2).2.1.one, Seg.cell (.int .i64 (((ix a1 s68.1).A).Kind)), Seg.cell (.int .i64 (((ix a1 s68.1).A).At)), Seg.cell (.int .u64 (((ix a1 s68.1).A).W)), Seg.cell (cellAt w (sb V1_0) (so V1_0 + Int.toNat s68.1 * 8 + 7)) (N_rickyardlaw15_Act R1_0 g285.1 g285.2).2.2.one]) (At.gr (N_rickyardlaw15_Act R1_0 g285.1 g285.2).1 (fB.gr hz)) 1 1 rfl)) rfl rfl ((hk 114 rfl).trans rfl) c283 rfl
      ·intro ρz wz hz hk hd
       have d131 := hd 36 rfl rfl 131 rfl
       exact sk_gval (v := .int .i64 (IntKind.i64.wrap (8 * ((ix a1 s68.1).At)))) (by exact xr_mul rfl rfl d131) rfl rfl ((hk 114 rfl).trans rfl) c283 rfl
      ·intro ρz wz hz hk hd
       have d132 := hd 37 rfl rfl 132 rfl
       exact sk_gval (by exact xr_add rfl d132 rfl) rfl rfl ((hk 114 rfl).trans rfl) c283 rfl
      ·intro ρz wz hz hk hd
       have d120 := hd 25 rfl rfl 120 rfl
       have d126 := hd 31 rfl rfl 126 rfl
       have d133 := hd 38 rfl rfl 133 rfl
       exact sk_gval (by exact xr_slice_lh (K := (kI .u64)) (v := u140) rfl Try.underlying46 sz22 d120 (o141.gr hz).rd d126 d133 g287.1 g287.2.1 g287.2.2) rfl rfl ((hk 114 rfl).trans rfl) c283 ⟨(o141.gr hz).rd.cut (lo := (IntKind.i64.wrap (8 * ((ix a1 s68.1).At)))) (hi := (IntKind.i64.wrap ((IntKind.i64.wrap (8 * ((ix a1 s68.1).At))) + 8))) g287.1 g287.2.1 g287.2.2, rfl⟩
      intro ρz wz hz hk hd
      obtain ⟨r286, d134⟩ := hd 39 rfl rfl 134 rfl
      refine sk_gop (by exact opv_call rfl cal34 (ac d134 an) (rickyardref05_Text.ok fu _ (cut t129.2.2.Lasts (IntKind.i64.wrap (8 * ((ix a1 s68.1).At))) (IntKind.i64.wrap ((IntKind.i64.wrap (8 * ((ix a1 s68.1).At))) + 8))) (subv 1 u140 (Int.toNat (IntKind.i64.wrap (8 * ((ix a1 s68.1).At)))) (Int.toNat (IntKind.i64.wrap ((IntKind.i64.wrap (8 * ((ix a1 s68.1).At))) + 8)))) (r286) _ k289)) rfl rfl ((hk 114 rfl).trans rfl) c283 ?_
      rintro _ wy ⟨rfl, q290⟩
      exact ⟨rfl, q290⟩
     intro ρ291 w292 q293 hk hd
     have e1 := (hk 1 rfl).trans e1
     have e5 := (hk 5 rfl).trans e5
     have e6 := (hk 6 rfl).trans e6
     have e8 := (hk 8 rfl).trans e8
     have e9 := (hk 9 rfl).trans e9
     have e10 := (hk 10 rfl).trans e10
     have e11 := (hk 11 rfl).trans e11
     have e47 := (hk 47 rfl).trans e47
     have e48 := (hk 48 rfl).trans e48
     have e49 := (hk 49 rfl).trans e49
     have e50 := (hk 50 rfl).trans e50
     have e51 := (hk 51 rfl).trans e51
     have e52 := (hk 52 rfl).trans e52
     have e53 := (hk 53 rfl).trans e53
     have e56 := (hk 56 rfl).trans e56
     have e57 := (hk 57 rfl).trans e57
     have e58 := (hk 58 rfl).trans e58
     have e59 := (hk 59 rfl).trans e59
     have e60 := (hk 60 rfl).trans e60
     have e61 := (hk 61 rfl).trans e61
     have e62 := (hk 62 rfl).trans e62
     have e63 := (hk 63 rfl).trans e63
     have e64 := (hk 64 rfl).trans e64
     have e67 := (hk 67 rfl).trans e67
     have e68 := (hk 68 rfl).trans e68
     have e69 := (hk 69 rfl).trans e69
     have e70 := (hk 70 rfl).trans e70
     have e71 := (hk 71 rfl).trans e71
     have e72 := (hk 72 rfl).trans e72
     have e73 := (hk 73 rfl).trans e73
     have e74 := (hk 74 rfl).trans e74
     have e75 := (hk 75 rfl).trans e75
     have e78 := (hk 78 rfl).trans e78
     have e79 := (hk 79 rfl).trans e79
     have e80 := (hk 80 rfl).trans e80
     have e81 := (hk 81 rfl).trans e81
     have e82 := (hk 82 rfl).trans e82
     have e83 := (hk 83 rfl).trans e83
     have e103 := (hk 103 rfl).trans e103
     have e104 := (hk 104 rfl).trans e104
     have e105 := (hk 105 rfl).trans e105
     have e106 := (hk 106 rfl).trans e106
     have e107 := (hk 107 rfl).trans e107
     have e108 := (hk 108 rfl).trans e108
     have e109 := (hk 109 rfl).trans e109
     have e112 := (hk 112 rfl).trans rfl
     have e113 := (hk 113 rfl).trans rfl
     have e114 := (hk 114 rfl).trans rfl
     have e115 := hd 20 rfl rfl 115 rfl
     have e116 := hd 21 rfl rfl 116 rfl
     have e117 := hd 22 rfl rfl 117 rfl
     have e118 := hd 23 rfl rfl 118 rfl
     have e119 := hd 24 rfl rfl 119 rfl
     have e120 := hd 25 rfl rfl 120 rfl
     have e121 := hd 26 rfl rfl 121 rfl
     have e122 := hd 27 rfl rfl 122 rfl
     have e123 := hd 28 rfl rfl 123 rfl
     have e124 := hd 29 rfl rfl 124 rfl
     have e125 := hd 30 rfl rfl 125 rfl
     have e126 := hd 31 rfl rfl 126 rfl
     have e127 := hd 32 rfl rfl 127 rfl
     have e128 := hd 33 rfl rfl 128 rfl
     have e129 := hd 34 rfl rfl 129 rfl
     have e130 := hd 35 rfl rfl 130 rfl
     have e131 := hd 36 rfl rfl 131 rfl
     have e132 := hd 37 rfl rfl 132 rfl
     have e133 := hd 38 rfl rfl 133 rfl
     obtain ⟨r294, e134⟩ := hd 39 rfl rfl 134 rfl
     have e135 := hd 40 rfl rfl 135 rfl
     have b30 := b30.gr q293
     have b46 := b46.gr q293
     have o133 := o133.gr q293
     have o137 := o137.gr q293
     have o141 := o141.gr q293
     have o145 := o145.gr q293
     have o149 := o149.gr q293
     have o153 := o153.gr q293
     have o157 := o157.gr q293
     have o208 := o208.gr q293
     have o230 := o230.gr q293
     have o246 := o246.gr q293
     have o251 := o251.gr q293
     have o265 := o265.gr q293
     have fB := fB.gr q293
     refine rd_seq (m := 41) (n := 53) rfl ?_
     refine ol_gval (v := .bool (!decide ((List.map toB t262.1) = t288))) (by exact xr_neStr rfl Try.underlying9 e116 e135) rfl rfl rfl rfl e114 c283 ?_
     refine ol_gval (v := .bool (!decide ((List.map toB t262.1) = t288))) (by exact xr_pickT rfl e114 c283 rfl) rfl rfl rfl rfl e112 c279 ?_
     refine ol_val (v := .bool (!decide ((List.map toB t262.1) = t288))) (by exact xr_pickF rfl e112 c279 rfl) rfl rfl rfl ?_
     refine ol_val (v := .bool (!decide ((List.map toB t262.1) = t288))) (by exact xr_move rfl rfl) rfl rfl rfl ?_
     rcases is h with ⟨c295, h⟩ | ⟨c295, h⟩
     ·skip
      refine ol_gskip rfl rfl rfl rfl rfl c295 ?_
      refine ol_gskip rfl rfl rfl rfl rfl c295 ?_
      refine ol_gskip rfl rfl rfl rfl rfl c295 ?_
      refine ol_uskip rfl rfl rfl rfl rfl ?_
      refine ol_uskip rfl rfl rfl rfl rfl ?_
      refine ol_uskip rfl rfl rfl rfl rfl ?_
      refine ol_gskip rfl rfl rfl rfl rfl c295 ?_
      refine ol_val (v := .bool true) (by exact xr_pickT rfl rfl c295 rfl) rfl rfl rfl ?_
      refine ol_nilK ?_
      refine rd_end rfl ?_
      refine cw_condT rfl rfl ?_
      refine cw_seq ?_
      refine cw_region ?_
      refine ol_val (v := .bool false) (by exact xr_assign rfl rfl) rfl rfl rfl ?_
      refine ol_nil ?_
      refine cw_ret ?_
      repeat (first | with_reducible refine thn_r ?_ | with_reducible refine blk_r ?_)
      obtain rfl := Option.some.inj h
      refine lp_ret ?_
      rintro rfl
      repeat (first | with_reducible refine thn_r ?_ | with_reducible refine blk_r ?_)
      have h := h71
      obtain rfl := Option.some.inj h
      refine fin_ret1 Try.results13 rfl ?_
      exact ⟨_, rfl, rfl, fB⟩
     refine ol_gval (v := .bool t262.2) (by exact xr_move rfl e11) rfl rfl rfl rfl rfl c295 ?_
     refine ol_gval (v := .bool (!t262.2)) (by exact xr_not rfl rfl) rfl rfl rfl rfl rfl c295 ?_
     refine ol_gval (v := .bool (!t262.2)) (by exact xr_move rfl rfl) rfl rfl rfl rfl rfl c295 ?_
     rcases is h with ⟨c296, h⟩ | ⟨c296, h⟩
     ·skip
      refine ol_gval (v := u264) (by exact xr_move rfl e10) rfl rfl rfl rfl rfl c296 ?_
      refine ol_gval (v := .int .i64 (List.length t262.1 : Int)) (by exact xr_lenR rfl Try.underlying43 rfl o265.rd) rfl rfl rfl rfl rfl c296 ?_
      refine ol_gval (v := .bool (!decide ((List.length t262.1 : Int) = 0))) (by exact xr_neI rfl Try.underlying3 rfl rfl rfl) rfl rfl rfl rfl rfl c296 ?_
      refine ol_gval (v := .bool (!decide ((List.length t262.1 : Int) = 0))) (by exact xr_pickT rfl rfl c296 rfl) rfl rfl rfl rfl rfl c295 ?_
      refine ol_val (v := .bool (!decide ((List.length t262.1 : Int) = 0))) (by exact xr_pickF rfl rfl c295 rfl) rfl rfl rfl ?_
      refine ol_nilK ?_
      refine rd_end rfl ?_
      rcases is h with ⟨c297, h⟩ | ⟨c297, h⟩
      ·refine cw_condT rfl c297 ?_
       refine cw_seq ?_
       refine cw_region ?_
       refine ol_val (v := .bool false) (by exact xr_assign rfl rfl) rfl rfl rfl ?_
       refine ol_nil ?_
       refine cw_ret ?_
       repeat (first | with_reducible refine thn_r ?_ | with_reducible refine blk_r ?_)
       obtain rfl := Option.some.inj h
       refine lp_ret ?_
       rintro rfl
       repeat (first | with_reducible refine thn_r ?_ | with_reducible refine blk_r ?_)
       have h := h71
       obtain rfl := Option.some.inj h
       refine fin_ret1 Try.results13 rfl ?_
       exact ⟨_, rfl, rfl, fB⟩
      refine cw_condF rfl c297 ?_
      refine cw_skip ?_
      refine blk_i ?_
      refine cw_region ?_
      refine ol_val (v := .int .i64 s68.1) (by exact xr_move rfl e9) rfl rfl rfl ?_
      refine ol_val (v := .int .i64 (IntKind.i64.wrap (s68.1 + 1))) (by exact xr_add rfl rfl rfl) rfl rfl rfl ?_
      refine ol_val (v := .int .i64 (IntKind.i64.wrap (s68.1 + 1))) (by exact xr_assign rfl rfl) rfl rfl rfl ?_
      refine ol_nil ?_
      obtain rfl := Option.some.inj h
      refine lp_in ?_
      exact ⟨u132, u136, u140, u144, u148, u152, u156, o133, o137, o141, o145, o149, o153, o157, a160, a161, a162, a163, e1, e5, e6, e8, rfl, b30, b46, fB⟩
     refine ol_gskip rfl rfl rfl rfl rfl c296 ?_
     refine ol_gskip rfl rfl rfl rfl rfl c296 ?_
     refine ol_gskip rfl rfl rfl rfl rfl c296 ?_
     refine ol_gval (v := .bool false) (by exact xr_pickF rfl rfl c296 rfl) rfl rfl rfl rfl rfl c295 ?_
     refine ol_val (v := .bool false) (by exact xr_pickF rfl rfl c295 rfl) rfl rfl rfl ?_
     refine ol_nilK ?_
     refine rd_end rfl ?_
     refine cw_condF rfl rfl ?_
     refine cw_skip ?_
     refine blk_i ?_
     refine cw_region ?_
     refine ol_val (v := .int .i64 s68.1) (by exact xr_move rfl e9) rfl rfl rfl ?_
     refine ol_val (v := .int .i64 (IntKind.i64.wrap (s68.1 + 1))) (by exact xr_add rfl rfl rfl) rfl rfl rfl ?_
     refine ol_val (v := .int .i64 (IntKind.i64.wrap (s68.1 + 1))) (by exact xr_assign rfl rfl) rfl rfl rfl ?_
     refine ol_nil ?_
     obtain rfl := Option.some.inj h
     refine lp_in ?_
     exact ⟨u132, u136, u140, u144, u148, u152, u156, o133, o137, o141, o145, o149, o153, o157, a160, a161, a162, a163, e1, e5, e6, e8, rfl, b30, b46, fB⟩
    refine rd_drawL 20 41 [fun _ _ => True, fun _ _ => True, fun _ _ => True, fun _ _ => True, fun _ _ => True, fun _ _ => True, fun _ _ => True, fun _ _ => True, fun _ _ => True, fun _ _ => True, fun _ _ => True, fun _ _ => True, fun _ _ => True, fun _ _ => True, fun _ _ => True, fun _ _ => True, fun _ _ => True, fun _ _ => True, fun _ _ => True, fun _ _ => True, fun vz _ => vz = undef, fun vz _ => vz = undef, fun vz _ => vz = undef, fun vz _ => vz = undef, fun vz _ => vz = undef, fun vz _ => vz = undef, fun vz _ => vz = undef, fun vz _ => vz = undef, fun vz _ => vz = undef, fun vz _ => vz = undef, fun vz _ => vz = undef, fun vz _ => vz = undef, fun vz _ => vz = undef, fun vz _ => vz = undef, fun vz _ => vz = undef, fun vz _ => vz = undef, fun vz _ => vz = undef, fun vz _ => vz = undef, fun vz _ => vz = undef, fun vz _ => vz = undef, fun vz _ => vz = undef] rfl ⟨fun _ _ _ h _ => h, fun _ _ _ h _ => h, fun _ _ _ h _ => h, fun _ _ _ h _ => h, fun _ _ _ h _ => h, fun _ _ _ h _ => h, fun _ _ _ h _ => h, fun _ _ _ h _ => h, fun _ _ _ h _ => h, fun _ _ _ h _ => h, fun _ _ _ h _ => h, fun _ _ _ h _ => h, fun _ _ _ h _ => h, fun _ _ _ h _ => h, fun _ _ _ h _ => h, fun _ _ _ h _ => h, fun _ _ _ h _ => h, fun _ _ _ h _ => h, fun _ _ _ h _ => h, fun _ _ _ h _ => h, fun _ _ _ h _ => h, fun _ _ _ h _ => h, fun _ _ _ h _ => h, fun _ _ _ h _ => h, fun _ _ _ h _ => h, fun _ _ _ h _ => h, fun _ _ _ h _ => h, fun _ _ _ h _ => h, fun _ _ _ h _ => h, fun _ _ _ h _ => h, fun _ _ _ h _ => h, fun _ _ _ h _ => h, fun _ _ _ h _ => h, fun _ _ _ h _ => h, fun _ _ _ h _ => h, fun _ _ _ h _ => h, fun _ _ _ h _ => h, fun _ _ _ h _ => h, fun _ _ _ h _ => h, fun _ _ _ h _ => h, fun _ _ _ h _ => h, trivial⟩ ?_ ?_
    ·refine ⟨?_, ?_, ?_, ?_, ?_, ?_, ?_, ?_, ?_, ?_, ?_, ?_, ?_, ?_, ?_, ?_, ?_, ?_, ?_, ?_, ?_, trivial⟩
     ·intro ρz wz hz hk hd
      exact sk_skip rfl rfl ((hk 114 rfl).trans rfl) c283 rfl
     ·intro ρz wz hz hk hd
      exact sk_skip rfl rfl ((hk 114 rfl).trans rfl) c283 rfl
     ·intro ρz wz hz hk hd
      exact sk_skip rfl rfl ((hk 114 rfl).trans rfl) c283 rfl
     ·intro ρz wz hz hk hd
      exact sk_skip rfl rfl ((hk 114 rfl).trans rfl) c283 rfl
     ·intro ρz wz hz hk hd
      exact sk_skip rfl rfl ((hk 114 rfl).trans rfl) c283 rfl
     ·intro ρz wz hz hk hd
      exact sk_skip rfl rfl ((hk 114 rfl).trans rfl) c283 rfl
     ·intro ρz wz hz hk hd
      exact sk_skip rfl rfl ((hk 114 rfl).trans rfl) c283 rfl
     ·intro ρz wz hz hk hd
      exact sk_skip rfl rfl ((hk 114 rfl).trans rfl) c283 rfl
     ·intro ρz wz hz hk hd
      exact sk_skip rfl rfl ((hk 114 rfl).trans rfl) c283 rfl
     ·intro ρz wz hz hk hd
      exact sk_skip rfl rfl ((hk 114 rfl).trans rfl) c283 rfl
     ·intro ρz wz hz hk hd
      exact sk_skip rfl rfl ((hk 114 rfl).trans rfl) c283 rfl
     ·intro ρz wz hz hk hd
      exact sk_skip rfl rfl ((hk 114 rfl).trans rfl) c283 rfl
     ·intro ρz wz hz hk hd
      exact sk_skip rfl rfl ((hk 114 rfl).trans rfl) c283 rfl
     ·intro ρz wz hz hk hd
      exact sk_skip rfl rfl ((hk 114 rfl).trans rfl) c283 rfl
     ·intro ρz wz hz hk hd
      exact sk_skip rfl rfl ((hk 114 rfl).trans rfl) c283 rfl
     ·intro ρz wz hz hk hd
      exact sk_skip rfl rfl ((hk 114 rfl).trans rfl) c283 rfl
     ·intro ρz wz hz hk hd
      exact sk_skip rfl rfl ((hk 114 rfl).trans rfl) c283 rfl
     ·intro ρz wz hz hk hd
      exact sk_skip rfl rfl ((hk 114 rfl).trans rfl) c283 rfl
     ·intro ρz wz hz hk hd
      exact sk_skip rfl rfl ((hk 114 rfl).trans rfl) c283 rfl
     ·intro ρz wz hz hk hd
      exact sk_skip rfl rfl ((hk 114 rfl).trans rfl) c283 rfl
     intro ρz wz hz hk hd
     exact sk_skip rfl rfl ((hk 114 rfl).trans rfl) c283 rfl
    intro ρ298 w299 q300 hk hd
    have e1 := (hk 1 rfl).trans e1
    have e5 := (hk 5 rfl).trans e5
    have e6 := (hk 6 rfl).trans e6
    have e8 := (hk 8 rfl).trans e8
    have e9 := (hk 9 rfl).trans e9
    have e10 := (hk 10 rfl).trans e10
    have e11 := (hk 11 rfl).trans e11
    have e47 := (hk 47 rfl).trans e47
    have e48 := (hk 48 rfl).trans e48
    have e49 := (hk 49 rfl).trans e49
    have e50 := (hk 50 rfl).trans e50
    have e51 := (hk 51 rfl).trans e51
    have e52 := (hk 52 rfl).trans e52
    have e53 := (hk 53 rfl).trans e53
    have e56 := (hk 56 rfl).trans e56
    have e57 := (hk 57 rfl).trans e57
    have e58 := (hk 58 rfl).trans e58
    have e59 := (hk 59 rfl).trans e59
    have e60 := (hk 60 rfl).trans e60
    have e61 := (hk 61 rfl).trans e61
    have e62 := (hk 62 rfl).trans e62
    have e63 := (hk 63 rfl).trans e63
    have e64 := (hk 64 rfl).trans e64
    have e67 := (hk 67 rfl).trans e67
    have e68 := (hk 68 rfl).trans e68
    have e69 := (hk 69 rfl).trans e69
    have e70 := (hk 70 rfl).trans e70
    have e71 := (hk 71 rfl).trans e71
    have e72 := (hk 72 rfl).trans e72
    have e73 := (hk 73 rfl).trans e73
    have e74 := (hk 74 rfl).trans e74
    have e75 := (hk 75 rfl).trans e75
    have e78 := (hk 78 rfl).trans e78
    have e79 := (hk 79 rfl).trans e79
    have e80 := (hk 80 rfl).trans e80
    have e81 := (hk 81 rfl).trans e81
    have e82 := (hk 82 rfl).trans e82
    have e83 := (hk 83 rfl).trans e83
    have e103 := (hk 103 rfl).trans e103
    have e104 := (hk 104 rfl).trans e104
    have e105 := (hk 105 rfl).trans e105
    have e106 := (hk 106 rfl).trans e106
    have e107 := (hk 107 rfl).trans e107
    have e108 := (hk 108 rfl).trans e108
    have e109 := (hk 109 rfl).trans e109
    have e112 := (hk 112 rfl).trans rfl
    have e113 := (hk 113 rfl).trans rfl
    have e114 := (hk 114 rfl).trans rfl
    have e115 := hd 20 rfl rfl 115 rfl
    have e116 := hd 21 rfl rfl 116 rfl
    have e117 := hd 22 rfl rfl 117 rfl
    have e118 := hd 23 rfl rfl 118 rfl
    have e119 := hd 24 rfl rfl 119 rfl
    have e120 := hd 25 rfl rfl 120 rfl
    have e121 := hd 26 rfl rfl 121 rfl
    have e122 := hd 27 rfl rfl 122 rfl
    have e123 := hd 28 rfl rfl 123 rfl
    have e124 := hd 29 rfl rfl 124 rfl
    have e125 := hd 30 rfl rfl 125 rfl
    have e126 := hd 31 rfl rfl 126 rfl
    have e127 := hd 32 rfl rfl 127 rfl
    have e128 := hd 33 rfl rfl 128 rfl
    have e129 := hd 34 rfl rfl 129 rfl
    have e130 := hd 35 rfl rfl 130 rfl
    have e131 := hd 36 rfl rfl 131 rfl
    have e132 := hd 37 rfl rfl 132 rfl
    have e133 := hd 38 rfl rfl 133 rfl
    have e134 := hd 39 rfl rfl 134 rfl
    have e135 := hd 40 rfl rfl 135 rfl
    have b30 := b30.gr q300
    have b46 := b46.gr q300
    have o133 := o133.gr q300
    have o137 := o137.gr q300
    have o141 := o141.gr q300
    have o145 := o145.gr q300
    have o149 := o149.gr q300
    have o153 := o153.gr q300
    have o157 := o157.gr q300
    have o208 := o208.gr q300
    have o230 := o230.gr q300
    have o246 := o246.gr q300
    have o251 := o251.gr q300
    have o265 := o265.gr q300
    have fB := fB.gr q300
    refine rd_seq (m := 41) (n := 53) rfl ?_
    refine ol_gskip rfl rfl rfl rfl e114 c283 ?_
    refine ol_gval (v := .bool false) (by exact xr_pickF rfl e114 c283 rfl) rfl rfl rfl rfl e112 c279 ?_
    refine ol_val (v := .bool false) (by exact xr_pickF rfl e112 c279 rfl) rfl rfl rfl ?_
    refine ol_val (v := .bool false) (by exact xr_move rfl rfl) rfl rfl rfl ?_
    refine ol_gval (v := .bool t262.2) (by exact xr_move rfl e11) rfl rfl rfl rfl rfl rfl ?_
    refine ol_gval (v := .bool (!t262.2)) (by exact xr_not rfl rfl) rfl rfl rfl rfl rfl rfl ?_
    refine ol_gval (v := .bool (!t262.2)) (by exact xr_move rfl rfl) rfl rfl rfl rfl rfl rfl ?_
    rcases is h with ⟨c301, h⟩ | ⟨c301, h⟩
    ·skip
     refine ol_gval (v := u264) (by exact xr_move rfl e10) rfl rfl rfl rfl rfl c301 ?_
     refine ol_gval (v := .int .i64 (List.length t262.1 : Int)) (by exact xr_lenR rfl Try.underlying43 rfl o265.rd) rfl rfl rfl rfl rfl c301 ?_
     refine ol_gval (v := .bool (!decide ((List.length t262.1 : Int) = 0))) (by exact xr_neI rfl Try.underlying3 rfl rfl rfl) rfl rfl rfl rfl rfl c301 ?_
     refine ol_gval (v := .bool (!decide ((List.length t262.1 : Int) = 0))) (by exact xr_pickT rfl rfl c301 rfl) rfl rfl rfl rfl rfl rfl ?_
     refine ol_val (v := .bool (!decide ((List.length t262.1 : Int) = 0))) (by exact xr_pickF rfl rfl rfl rfl) rfl rfl rfl ?_
     refine ol_nilK ?_
     refine rd_end rfl ?_
     rcases is h with ⟨c302, h⟩ | ⟨c302, h⟩
     ·refine cw_condT rfl c302 ?_
      refine cw_seq ?_
      refine cw_region ?_
      refine ol_val (v := .bool false) (by exact xr_assign rfl rfl) rfl rfl rfl ?_
      refine ol_nil ?_
      refine cw_ret ?_
      repeat (first | with_reducible refine thn_r ?_ | with_reducible refine blk_r ?_)
      obtain rfl := Option.some.inj h
      refine lp_ret ?_
      rintro rfl
      repeat (first | with_reducible refine thn_r ?_ | with_reducible refine blk_r ?_)
      have h := h71
      obtain rfl := Option.some.inj h
      refine fin_ret1 Try.results13 rfl ?_
      exact ⟨_, rfl, rfl, fB⟩
     refine cw_condF rfl c302 ?_
     refine cw_skip ?_
     refine blk_i ?_
     refine cw_region ?_
     refine ol_val (v := .int .i64 s68.1) (by exact xr_move rfl e9) rfl rfl rfl ?_
     refine ol_val (v := .int .i64 (IntKind.i64.wrap (s68.1 + 1))) (by exact xr_add rfl rfl rfl) rfl rfl rfl ?_
     refine ol_val (v := .int .i64 (IntKind.i64.wrap (s68.1 + 1))) (by exact xr_assign rfl rfl) rfl rfl rfl ?_
     refine ol_nil ?_
     obtain rfl := Option.some.inj h
     refine lp_in ?_
     exact ⟨u132, u136, u140, u144, u148, u152, u156, o133, o137, o141, o145, o149, o153, o157, a160, a161, a162, a163, e1, e5, e6, e8, rfl, b30, b46, fB⟩
    refine ol_gskip rfl rfl rfl rfl rfl c301 ?_
    refine ol_gskip rfl rfl rfl rfl rfl c301 ?_
    refine ol_gskip rfl rfl rfl rfl rfl c301 ?_
    refine ol_gval (v := .bool false) (by exact xr_pickF rfl rfl c301 rfl) rfl rfl rfl rfl rfl rfl ?_
    refine ol_val (v := .bool false) (by exact xr_pickF rfl rfl rfl rfl) rfl rfl rfl ?_
    refine ol_nilK ?_
    refine rd_end rfl ?_
    refine cw_condF rfl rfl ?_
    refine cw_skip ?_
    refine blk_i ?_
    refine cw_region ?_
    refine ol_val (v := .int .i64 s68.1) (by exact xr_move rfl e9) rfl rfl rfl ?_
    refine ol_val (v := .int .i64 (IntKind.i64.wrap (s68.1 + 1))) (by exact xr_add rfl rfl rfl) rfl rfl rfl ?_
    refine ol_val (v := .int .i64 (IntKind.i64.wrap (s68.1 + 1))) (by exact xr_assign rfl rfl) rfl rfl rfl ?_
    refine ol_nil ?_
    obtain rfl := Option.some.inj h
    refine lp_in ?_
    exact ⟨u132, u136, u140, u144, u148, u152, u156, o133, o137, o141, o145, o149, o153, o157, a160, a161, a162, a163, e1, e5, e6, e8, rfl, b30, b46, fB⟩
   refine rd_drawL 0 16 [fun vz wz => vz = (.bool t262.2 : Value), fun vz wz => vz = (V1_0 : Value), fun vz wz => vz = (.int .i64 s68.1 : Value), fun vz wz => vz = (.pointer (some ⟨(sb V1_0), so V1_0 + Int.toNat s68.1 * 8, none⟩) : Value), fun vz wz => vz = (.pointer (some ⟨(sb V1_0), so V1_0 + Int.toNat s68.1 * 8 + 1, none⟩) : Value), fun vz wz => vz = (.int .i64 ((ix a1 s68.1).At) : Value), fun vz wz => vz = (.bool (decide (((ix a1 s68.1).At) ≥ 0)) : Value), fun vz wz => vz = (.bool (decide (((ix a1 s68.1).At) ≥ 0)) : Value), fun vz _ => vz = undef, fun vz _ => vz = undef, fun vz _ => vz = undef, fun vz _ => vz = undef, fun vz _ => vz = undef, fun vz _ => vz = undef, fun vz _ => vz = undef, fun vz wz => vz = (.bool false : Value)] rfl ⟨fun _ _ _ h _ => h, fun _ _ _ h _ => h, fun _ _ _ h _ => h, fun _ _ _ h _ => h, fun _ _ _ h _ => h, fun _ _ _ h _ => h, fun _ _ _ h _ => h, fun _ _ _ h _ => h, fun _ _ _ h _ => h, fun _ _ _ h _ => h, fun _ _ _ h _ => h, fun _ _ _ h _ => h, fun _ _ _ h _ => h, fun _ _ _ h _ => h, fun _ _ _ h _ => h, fun _ _ _ h _ => h, trivial⟩ ?_ ?_
   ·refine ⟨?_, ?_, ?_, ?_, ?_, ?_, ?_, ?_, ?_, ?_, ?_, ?_, ?_, ?_, ?_, ?_, trivial⟩
    ·intro ρz wz hz hk hd
     exact sk_val (v := .bool t262.2) (by exact xr_move rfl ((hk 11 rfl).trans rfl)) rfl rfl
    ·intro ρz wz hz hk hd
     exact sk_val (v := V1_0) (by exact xr_move rfl ((hk 1 rfl).trans e1)) rfl rfl
    ·intro ρz wz hz hk hd
     exact sk_val (v := .int .i64 s68.1) (by exact xr_move rfl ((hk 9 rfl).trans e9)) rfl rfl
    ·intro ρz wz hz hk hd
     have d96 := hd 1 rfl rfl 96 rfl
     have d97 := hd 2 rfl rfl 97 rfl
     exact sk_val (by exact xr_indexN (v := V1_0) rfl Try.underlying82 sz85 d96 (RdN.gr R1_0 D_rickyardlaw15_Act.gr (fB.gr hz)) d97 g273.1 g273.2) rfl rfl
    ·intro ρz wz hz hk hd
     have d98 := hd 3 rfl rfl 98 rfl
     exact sk_val (by exact xr_fieldAddr (p := so V1_0 + Int.toNat s68.1 * 8) (q := 1) rfl fl85_1 d98) rfl rfl
    ·intro ρz wz hz hk hd
     have d99 := hd 4 rfl rfl 99 rfl
     exact sk_val (v := .int .i64 ((ix a1 s68.1).At)) (by exact xr_load1 (v := .int .i64 ((ix a1 s68.1).At)) rfl ag3 d99 (At.segs (ss := [Seg.cell (.int .i64 ((ix a1 s68.1).Kind)), Seg.cell (.int .i64 ((ix a1 s68.1).At)), Seg.cell (.int .i64 ((ix a1 s68.1).I)), Seg.cell (cellAt w (sb V1_0) (so V1_0 + Int.toNat s68.1 * 8 + 3)) (N_rickyardlaw15_Act R1_0 g273.1 g273.2).2.1.one, Seg.cell (.int .i64 (((ix a1 s68.1).A).Kind)), Seg.cell (.int .i64 (((ix a1 s68.1).A).At)), Seg.cell (.int .u64 (((ix a1 s68.1).A).W)), Seg.cell (cellAt w (sb V1_0) (so V1_0 + Int.toNat s68.1 * 8 + 7)) (N_rickyardlaw15_Act R1_0 g273.1 g273.2).2.2.one]) (At.gr (N_rickyardlaw15_Act R1_0 g273.1 g273.2).1 (fB.gr hz)) 1 1 rfl)) rfl rfl
    ·intro ρz wz hz hk hd
     have d100 := hd 5 rfl rfl 100 rfl
     exact sk_val (v := .bool (decide (((ix a1 s68.1).At) ≥ 0))) (by exact xr_geq rfl d100 rfl) rfl rfl
    ·intro ρz wz hz hk hd
     have d101 := hd 6 rfl rfl 101 rfl
     exact sk_val (v := .bool (decide (((ix a1 s68.1).At) ≥ 0))) (by exact xr_move rfl d101) rfl rfl
    ·intro ρz wz hz hk hd
     have d102 := hd 7 rfl rfl 102 rfl
     exact sk_skip rfl rfl d102 c274 rfl
    ·intro ρz wz hz hk hd
     have d102 := hd 7 rfl rfl 102 rfl
     exact sk_skip rfl rfl d102 c274 rfl
    ·intro ρz wz hz hk hd
     have d102 := hd 7 rfl rfl 102 rfl
     exact sk_skip rfl rfl d102 c274 rfl
    ·intro ρz wz hz hk hd
     have d102 := hd 7 rfl rfl 102 rfl
     exact sk_skip rfl rfl d102 c274 rfl
    ·intro ρz wz hz hk hd
     have d102 := hd 7 rfl rfl 102 rfl
     exact sk_skip rfl rfl d102 c274 rfl
    ·intro ρz wz hz hk hd
     have d102 := hd 7 rfl rfl 102 rfl
     exact sk_skip rfl rfl d102 c274 rfl
    ·intro ρz wz hz hk hd
     have d102 := hd 7 rfl rfl 102 rfl
     exact sk_skip rfl rfl d102 c274 rfl
    intro ρz wz hz hk hd
    have d102 := hd 7 rfl rfl 102 rfl
    exact sk_val (v := .bool false) (by exact xr_pickF rfl d102 c274 rfl) rfl rfl
   intro ρ303 w304 q305 hk hd
   have e1 := (hk 1 rfl).trans e1
   have e5 := (hk 5 rfl).trans e5
   have e6 := (hk 6 rfl).trans e6
   have e8 := (hk 8 rfl).trans e8
   have e9 := (hk 9 rfl).trans e9
   have e10 := (hk 10 rfl).trans rfl
   have e11 := (hk 11 rfl).trans rfl
   have e47 := (hk 47 rfl).trans e47
   have e48 := (hk 48 rfl).trans e48
   have e49 := (hk 49 rfl).trans e49
   have e50 := (hk 50 rfl).trans e50
   have e51 := (hk 51 rfl).trans e51
   have e52 := (hk 52 rfl).trans e52
   have e53 := (hk 53 rfl).trans e53
   have e56 := (hk 56 rfl).trans e56
   have e57 := (hk 57 rfl).trans e57
   have e58 := (hk 58 rfl).trans e58
   have e59 := (hk 59 rfl).trans e59
   have e60 := (hk 60 rfl).trans e60
   have e61 := (hk 61 rfl).trans e61
   have e62 := (hk 62 rfl).trans e62
   have e63 := (hk 63 rfl).trans e63
   have e64 := (hk 64 rfl).trans e64
   have e67 := (hk 67 rfl).trans e67
   have e68 := (hk 68 rfl).trans e68
   have e69 := (hk 69 rfl).trans e69
   have e70 := (hk 70 rfl).trans e70
   have e71 := (hk 71 rfl).trans e71
   have e72 := (hk 72 rfl).trans e72
   have e73 := (hk 73 rfl).trans e73
   have e74 := (hk 74 rfl).trans e74
   have e75 := (hk 75 rfl).trans e75
   have e78 := (hk 78 rfl).trans e78
   have e79 := (hk 79 rfl).trans e79
   have e80 := (hk 80 rfl).trans e80
   have e81 := (hk 81 rfl).trans rfl
   have e82 := (hk 82 rfl).trans rfl
   have e83 := (hk 83 rfl).trans rfl
   have e95 := hd 0 rfl rfl 95 rfl
   have e103 := hd 8 rfl rfl 103 rfl
   have e104 := hd 9 rfl rfl 104 rfl
   have e105 := hd 10 rfl rfl 105 rfl
   have e106 := hd 11 rfl rfl 106 rfl
   have e107 := hd 12 rfl rfl 107 rfl
   have e108 := hd 13 rfl rfl 108 rfl
   have e109 := hd 14 rfl rfl 109 rfl
   have e110 := hd 15 rfl rfl 110 rfl
   have b30 := b30.gr q305
   have b46 := b46.gr q305
   have o133 := o133.gr q305
   have o137 := o137.gr q305
   have o141 := o141.gr q305
   have o145 := o145.gr q305
   have o149 := o149.gr q305
   have o153 := o153.gr q305
   have o157 := o157.gr q305
   have o208 := o208.gr q305
   have o230 := o230.gr q305
   have o246 := o246.gr q305
   have o251 := o251.gr q305
   have o265 := o265.gr q305
   have fB := fB.gr q305
   refine rd_seq (m := 16) (n := 20) rfl ?_
   refine ol_val (v := .bool (!decide (t262.2 = false))) (by exact xr_neB rfl Try.underlying4 e95 e110) rfl rfl rfl ?_
   refine ol_val (v := .bool (!decide (t262.2 = false))) (by exact xr_move rfl rfl) rfl rfl rfl ?_
   rcases is h with ⟨c306, h⟩ | ⟨c306, h⟩
   ·skip
    refine ol_gskip rfl rfl rfl rfl rfl c306 ?_
    refine ol_gskip rfl rfl rfl rfl rfl c306 ?_
    refine ol_nilK ?_
    refine rd_drawL 20 41 [fun _ _ => True, fun _ _ => True, fun _ _ => True, fun _ _ => True, fun _ _ => True, fun _ _ => True, fun _ _ => True, fun _ _ => True, fun _ _ => True, fun _ _ => True, fun _ _ => True, fun _ _ => True, fun _ _ => True, fun _ _ => True, fun _ _ => True, fun _ _ => True, fun _ _ => True, fun _ _ => True, fun _ _ => True, fun _ _ => True, fun vz _ => vz = undef, fun vz _ => vz = undef, fun vz _ => vz = undef, fun vz _ => vz = undef, fun vz _ => vz = undef, fun vz _ => vz = undef, fun vz _ => vz = undef, fun vz _ => vz = undef, fun vz _ => vz = undef, fun vz _ => vz = undef, fun vz _ => vz = undef, fun vz _ => vz = undef, fun vz _ => vz = undef, fun vz _ => vz = undef, fun vz _ => vz = undef, fun vz _ => vz = undef, fun vz _ => vz = undef, fun vz _ => vz = undef, fun vz _ => vz = undef, fun vz _ => vz = undef, fun vz _ => vz = undef] rfl ⟨fun _ _ _ h _ => h, fun _ _ _ h _ => h, fun _ _ _ h _ => h, fun _ _ _ h _ => h, fun _ _ _ h _ => h, fun _ _ _ h _ => h, fun _ _ _ h _ => h, fun _ _ _ h _ => h, fun _ _ _ h _ => h, fun _ _ _ h _ => h, fun _ _ _ h _ => h, fun _ _ _ h _ => h, fun _ _ _ h _ => h, fun _ _ _ h _ => h, fun _ _ _ h _ => h, fun _ _ _ h _ => h, fun _ _ _ h _ => h, fun _ _ _ h _ => h, fun _ _ _ h _ => h, fun _ _ _ h _ => h, fun _ _ _ h _ => h, fun _ _ _ h _ => h, fun _ _ _ h _ => h, fun _ _ _ h _ => h, fun _ _ _ h _ => h, fun _ _ _ h _ => h, fun _ _ _ h _ => h, fun _ _ _ h _ => h, fun _ _ _ h _ => h, fun _ _ _ h _ => h, fun _ _ _ h _ => h, fun _ _ _ h _ => h, fun _ _ _ h _ => h, fun _ _ _ h _ => h, fun _ _ _ h _ => h, fun _ _ _ h _ => h, fun _ _ _ h _ => h, fun _ _ _ h _ => h, fun _ _ _ h _ => h, fun _ _ _ h _ => h, fun _ _ _ h _ => h, trivial⟩ ?_ ?_
    ·refine ⟨?_, ?_, ?_, ?_, ?_, ?_, ?_, ?_, ?_, ?_, ?_, ?_, ?_, ?_, ?_, ?_, ?_, ?_, ?_, ?_, ?_, trivial⟩
     ·intro ρz wz hz hk hd
      exact sk_uskip rfl rfl ((hk 114 rfl).trans rfl) rfl
     ·intro ρz wz hz hk hd
      exact sk_uskip rfl rfl ((hk 114 rfl).trans rfl) rfl
     ·intro ρz wz hz hk hd
      exact sk_uskip rfl rfl ((hk 114 rfl).trans rfl) rfl
     ·intro ρz wz hz hk hd
      exact sk_uskip rfl rfl ((hk 114 rfl).trans rfl) rfl
     ·intro ρz wz hz hk hd
      exact sk_uskip rfl rfl ((hk 114 rfl).trans rfl) rfl
     ·intro ρz wz hz hk hd
      exact sk_uskip rfl rfl ((hk 114 rfl).trans rfl) rfl
     ·intro ρz wz hz hk hd
      exact sk_uskip rfl rfl ((hk 114 rfl).trans rfl) rfl
     ·intro ρz wz hz hk hd
      exact sk_uskip rfl rfl ((hk 114 rfl).trans rfl) rfl
     ·intro ρz wz hz hk hd
      exact sk_uskip rfl rfl ((hk 114 rfl).trans rfl) rfl
     ·intro ρz wz hz hk hd
      exact sk_uskip rfl rfl ((hk 114 rfl).trans rfl) rfl
     ·intro ρz wz hz hk hd
      exact sk_uskip rfl rfl ((hk 114 rfl).trans rfl) rfl
     ·intro ρz wz hz hk hd
      exact sk_uskip rfl rfl ((hk 114 rfl).trans rfl) rfl
     ·intro ρz wz hz hk hd
      exact sk_uskip rfl rfl ((hk 114 rfl).trans rfl) rfl
     ·intro ρz wz hz hk hd
      exact sk_uskip rfl rfl ((hk 114 rfl).trans rfl) rfl
     ·intro ρz wz hz hk hd
      exact sk_uskip rfl rfl ((hk 114 rfl).trans rfl) rfl
     ·intro ρz wz hz hk hd
      exact sk_uskip rfl rfl ((hk 114 rfl).trans rfl) rfl
     ·intro ρz wz hz hk hd
      exact sk_uskip rfl rfl ((hk 114 rfl).trans rfl) rfl
     ·intro ρz wz hz hk hd
      exact sk_uskip rfl rfl ((hk 114 rfl).trans rfl) rfl
     ·intro ρz wz hz hk hd
      exact sk_uskip rfl rfl ((hk 114 rfl).trans rfl) rfl
     ·intro ρz wz hz hk hd
      exact sk_uskip rfl rfl ((hk 114 rfl).trans rfl) rfl
     intro ρz wz hz hk hd
     exact sk_uskip rfl rfl ((hk 114 rfl).trans rfl) rfl
    intro ρ307 w308 q309 hk hd
    have e1 := (hk 1 rfl).trans e1
    have e5 := (hk 5 rfl).trans e5
    have e6 := (hk 6 rfl).trans e6
    have e8 := (hk 8 rfl).trans e8
    have e9 := (hk 9 rfl).trans e9
    have e10 := (hk 10 rfl).trans e10
    have e11 := (hk 11 rfl).trans e11
    have e47 := (hk 47 rfl).trans e47
    have e48 := (hk 48 rfl).trans e48
    have e49 := (hk 49 rfl).trans e49
    have e50 := (hk 50 rfl).trans e50
    have e51 := (hk 51 rfl).trans e51
    have e52 := (hk 52 rfl).trans e52
    have e53 := (hk 53 rfl).trans e53
    have e56 := (hk 56 rfl).trans e56
    have e57 := (hk 57 rfl).trans e57
    have e58 := (hk 58 rfl).trans e58
    have e59 := (hk 59 rfl).trans e59
    have e60 := (hk 60 rfl).trans e60
    have e61 := (hk 61 rfl).trans e61
    have e62 := (hk 62 rfl).trans e62
    have e63 := (hk 63 rfl).trans e63
    have e64 := (hk 64 rfl).trans e64
    have e67 := (hk 67 rfl).trans e67
    have e68 := (hk 68 rfl).trans e68
    have e69 := (hk 69 rfl).trans e69
    have e70 := (hk 70 rfl).trans e70
    have e71 := (hk 71 rfl).trans e71
    have e72 := (hk 72 rfl).trans e72
    have e73 := (hk 73 rfl).trans e73
    have e74 := (hk 74 rfl).trans e74
    have e75 := (hk 75 rfl).trans e75
    have e78 := (hk 78 rfl).trans e78
    have e79 := (hk 79 rfl).trans e79
    have e80 := (hk 80 rfl).trans e80
    have e81 := (hk 81 rfl).trans e81
    have e82 := (hk 82 rfl).trans e82
    have e83 := (hk 83 rfl).trans e83
    have e103 := (hk 103 rfl).trans e103
    have e104 := (hk 104 rfl).trans e104
    have e105 := (hk 105 rfl).trans e105
    have e106 := (hk 106 rfl).trans e106
    have e107 := (hk 107 rfl).trans e107
    have e108 := (hk 108 rfl).trans e108
    have e109 := (hk 109 rfl).trans e109
    have e112 := (hk 112 rfl).trans rfl
    have e113 := (hk 113 rfl).trans rfl
    have e114 := (hk 114 rfl).trans rfl
    have e115 := hd 20 rfl rfl 115 rfl
    have e116 := hd 21 rfl rfl 116 rfl
    have e117 := hd 22 rfl rfl 117 rfl
    have e118 := hd 23 rfl rfl 118 rfl
    have e119 := hd 24 rfl rfl 119 rfl
    have e120 := hd 25 rfl rfl 120 rfl
    have e121 := hd 26 rfl rfl 121 rfl
    have e122 := hd 27 rfl rfl 122 rfl
    have e123 := hd 28 rfl rfl 123 rfl
    have e124 := hd 29 rfl rfl 124 rfl
    have e125 := hd 30 rfl rfl 125 rfl
    have e126 := hd 31 rfl rfl 126 rfl
    have e127 := hd 32 rfl rfl 127 rfl
    have e128 := hd 33 rfl rfl 128 rfl
    have e129 := hd 34 rfl rfl 129 rfl
    have e130 := hd 35 rfl rfl 130 rfl
    have e131 := hd 36 rfl rfl 131 rfl
    have e132 := hd 37 rfl rfl 132 rfl
    have e133 := hd 38 rfl rfl 133 rfl
    have e134 := hd 39 rfl rfl 134 rfl
    have e135 := hd 40 rfl rfl 135 rfl
    have b30 := b30.gr q309
    have b46 := b46.gr q309
    have o133 := o133.gr q309
    have o137 := o137.gr q309
    have o141 := o141.gr q309
    have o145 := o145.gr q309
    have o149 := o149.gr q309
    have o153 := o153.gr q309
    have o157 := o157.gr q309
    have o208 := o208.gr q309
    have o230 := o230.gr q309
    have o246 := o246.gr q309
    have o251 := o251.gr q309
    have o265 := o265.gr q309
    have fB := fB.gr q309
    refine rd_seq (m := 41) (n := 53) rfl ?_
    refine ol_uskip rfl rfl rfl rfl e114 ?_
    refine ol_gskip rfl rfl rfl rfl e112 c306 ?_
    refine ol_val (v := .bool true) (by exact xr_pickT rfl e112 c306 rfl) rfl rfl rfl ?_
    refine ol_val (v := .bool true) (by exact xr_move rfl rfl) rfl rfl rfl ?_
    refine ol_gskip rfl rfl rfl rfl rfl rfl ?_
    refine ol_gskip rfl rfl rfl rfl rfl rfl ?_
    refine ol_gskip rfl rfl rfl rfl rfl rfl ?_
    refine ol_uskip rfl rfl rfl rfl rfl ?_
    refine ol_uskip rfl rfl rfl rfl rfl ?_
    refine ol_uskip rfl rfl rfl rfl rfl ?_
    refine ol_gskip rfl rfl rfl rfl rfl rfl ?_
    refine ol_val (v := .bool true) (by exact xr_pickT rfl rfl rfl rfl) rfl rfl rfl ?_
    refine ol_nilK ?_
    refine rd_end rfl ?_
    refine cw_condT rfl rfl ?_
    refine cw_seq ?_
    refine cw_region ?_
    refine ol_val (v := .bool false) (by exact xr_assign rfl rfl) rfl rfl rfl ?_
    refine ol_nil ?_
    refine cw_ret ?_
    repeat (first | with_reducible refine thn_r ?_ | with_reducible refine blk_r ?_)
    obtain rfl := Option.some.inj h
    refine lp_ret ?_
    rintro rfl
    repeat (first | with_reducible refine thn_r ?_ | with_reducible refine blk_r ?_)
    have h := h71
    obtain rfl := Option.some.inj h
    refine fin_ret1 Try.results13 rfl ?_
    exact ⟨_, rfl, rfl, fB⟩
   refine ol_gval (v := .bool t262.2) (by exact xr_move rfl e11) rfl rfl rfl rfl rfl c306 ?_
   refine ol_gval (v := .bool t262.2) (by exact xr_move rfl rfl) rfl rfl rfl rfl rfl c306 ?_
   refine ol_nilK ?_
   rcases is h with ⟨c310, h⟩ | ⟨c310, h⟩
   ·skip
    obtain ⟨g311, h⟩ := gs h
    obtain ⟨g312, h⟩ := gs h
    obtain ⟨g314, h⟩ := gs h
    obtain ⟨t315, k316, h⟩ := bs h
    refine rd_drawL 20 41 [fun _ _ => True, fun _ _ => True, fun _ _ => True, fun _ _ => True, fun _ _ => True, fun _ _ => True, fun _ _ => True, fun _ _ => True, fun _ _ => True, fun _ _ => True, fun _ _ => True, fun _ _ => True, fun _ _ => True, fun _ _ => True, fun _ _ => True, fun _ _ => True, fun _ _ => True, fun _ _ => True, fun _ _ => True, fun _ _ => True, fun vz wz => vz = (u264 : Value), fun vz wz => vz = (sv (List.map toB t262.1) : Value), fun vz wz => vz = (.pointer (some ⟨G44, 0, none⟩) : Value), fun vz wz => vz = (.pointer (some ⟨G44, 0, none⟩) : Value), fun vz wz => vz = (.pointer (some ⟨G44, 0, none⟩) : Value), fun vz wz => vz = (u140 : Value), fun vz wz => vz = (V1_0 : Value), fun vz wz => vz = (.int .i64 s68.1 : Value), fun vz wz => vz = (.pointer (some ⟨(sb V1_0), so V1_0 + Int.toNat s68.1 * 8, none⟩) : Value), fun vz wz => vz = (.pointer (some ⟨(sb V1_0), so V1_0 + Int.toNat s68.1 * 8 + 1, none⟩) : Value), fun vz wz => vz = (.int .i64 ((ix a1 s68.1).At) : Value), fun vz wz => vz = (.int .i64 (IntKind.i64.wrap (8 * ((ix a1 s68.1).At))) : Value), fun vz wz => vz = (V1_0 : Value), fun vz wz => vz = (.int .i64 s68.1 : Value), fun vz wz => vz = (.pointer (some ⟨(sb V1_0), so V1_0 + Int.toNat s68.1 * 8, none⟩) : Value), fun vz wz => vz = (.pointer (some ⟨(sb V1_0), so V1_0 + Int.toNat s68.1 * 8 + 1, none⟩) : Value), fun vz wz => vz = (.int .i64 ((ix a1 s68.1).At) : Value), fun vz wz => vz = (.int .i64 (IntKind.i64.wrap (8 * ((ix a1 s68.1).At))) : Value), fun vz wz => vz = (.int .i64 (IntKind.i64.wrap ((IntKind.i64.wrap (8 * ((ix a1 s68.1).At))) + 8)) : Value), fun vz wz => ∃ r313 : Rd (kI .u64) wz (subv 1 u140 (Int.toNat (IntKind.i64.wrap (8 * ((ix a1 s68.1).At)))) (Int.toNat (IntKind.i64.wrap ((IntKind.i64.wrap (8 * ((ix a1 s68.1).At))) + 8)))) (cut t129.2.2.Lasts (IntKind.i64.wrap (8 * ((ix a1 s68.1).At))) (IntKind.i64.wrap ((IntKind.i64.wrap (8 * ((ix a1 s68.1).At))) + 8))), vz = (subv 1 u140 (Int.toNat (IntKind.i64.wrap (8 * ((ix a1 s68.1).At)))) (Int.toNat (IntKind.i64.wrap ((IntKind.i64.wrap (8 * ((ix a1 s68.1).At))) + 8))) : Value), fun vz wz => vz = (sv t315 : Value)] rfl ⟨fun _ _ _ h _ => h, fun _ _ _ h _ => h, fun _ _ _ h _ => h, fun _ _ _ h _ => h, fun _ _ _ h _ => h, fun _ _ _ h _ => h, fun _ _ _ h _ => h, fun _ _ _ h _ => h, fun _ _ _ h _ => h, fun _ _ _ h _ => h, fun _ _ _ h _ => h, fun _ _ _ h _ => h, fun _ _ _ h _ => h, fun _ _ _ h _ => h, fun _ _ _ h _ => h, fun _ _ _ h _ => h, fun _ _ _ h _ => h, fun _ _ _ h _ => h, fun _ _ _ h _ => h, fun _ _ _ h _ => h, fun _ _ _ h _ => h, fun _ _ _ h _ => h, fun _ _ _ h _ => h, fun _ _ _ h _ => h, fun _ _ _ h _ => h, fun _ _ _ h _ => h, fun _ _ _ h _ => h, fun _ _ _ h _ => h, fun _ _ _ h _ => h, fun _ _ _ h _ => h, fun _ _ _ h _ => h, fun _ _ _ h _ => h, fun _ _ _ h _ => h, fun _ _ _ h _ => h, fun _ _ _ h _ => h, fun _ _ _ h _ => h, fun _ _ _ h _ => h, fun _ _ _ h _ => h, fun _ _ _ h _ => h, fun _ _ _ ⟨r313, h⟩ q => ⟨r313.gr q, h⟩, fun _ _ _ h _ => h, trivial⟩ ?_ ?_
    ·refine ⟨?_, ?_, ?_, ?_, ?_, ?_, ?_, ?_, ?_, ?_, ?_, ?_, ?_, ?_, ?_, ?_, ?_, ?_, ?_, ?_, ?_, trivial⟩
     ·intro ρz wz hz hk hd
      exact sk_gval (v := u264) (by exact xr_move rfl ((hk 10 rfl).trans e10)) rfl rfl ((hk 114 rfl).trans rfl) c310 rfl
     ·intro ρz wz hz hk hd
      have d115 := hd 20 rfl rfl 115 rfl
      exact sk_gval (v := sv (List.map toB t262.1)) (by exact xr_toStr rfl Try.underlying43 Try.underlying5 Try.underlying9 d115 (o265.gr hz).rd) rfl rfl ((hk 114 rfl).trans rfl) c310 rfl
     ·intro ρz wz hz hk hd
      exact sk_gval (v := .pointer (some ⟨G44, 0, none⟩)) (by exact xr_move rfl ((hk 8 rfl).trans e8)) rfl rfl ((hk 114 rfl).trans rfl) c310 rfl
     ·intro ρz wz hz hk hd
      have d117 := hd 22 rfl rfl 117 rfl
      exact sk_gval (v := .pointer (some ⟨G44, 0, none⟩)) (by exact xr_nilCheck rfl d117) rfl rfl ((hk 114 rfl).trans rfl) c310 rfl
     ·intro ρz wz hz hk hd
      have d118 := hd 23 rfl rfl 118 rfl
      exact sk_gval (v := .pointer (some ⟨G44, 0, none⟩)) (by exact xr_fieldAddr (p := 0) (q := 0) rfl fl65_0 d118) rfl rfl ((hk 114 rfl).trans rfl) c310 rfl
     ·intro ρz wz hz hk hd
      have d119 := hd 24 rfl rfl 119 rfl
      exact sk_gval (v := u140) (by exact xr_load1 (v := u140) rfl ag46 d119 ((b46.gr hz).seg 0 rfl rfl)) rfl rfl ((hk 114 rfl).trans rfl) c310 rfl
     ·intro ρz wz hz hk hd
      exact sk_gval (v := V1_0) (by exact xr_move rfl ((hk 1 rfl).trans e1)) rfl rfl ((hk 114 rfl).trans rfl) c310 rfl
     ·intro ρz wz hz hk hd
      exact sk_gval (v := .int .i64 s68.1) (by exact xr_move rfl ((hk 9 rfl).trans e9)) rfl rfl ((hk 114 rfl).trans rfl) c310 rfl
     ·intro ρz wz hz hk hd
      have d121 := hd 26 rfl rfl 121 rfl
      have d122 := hd 27 rfl rfl 122 rfl
      exact sk_gval (by exact xr_indexN (v := V1_0) rfl Try.underlying82 sz85 d121 (RdN.gr R1_0 D_rickyardlaw15_Act.gr (fB.gr hz)) d122 g311.1 g311.2) rfl rfl ((hk 114 rfl).trans rfl) c310 rfl
     ·intro ρz wz hz hk hd
      have d123 := hd 28 rfl rfl 123 rfl
      exact sk_gval (by exact xr_fieldAddr (p := so V1_0 + Int.toNat s68.1 * 8) (q := 1) rfl fl85_1 d123) rfl rfl ((hk 114 rfl).trans rfl) c310 rfl
     ·intro ρz wz hz hk hd
      have d124 := hd 29 rfl rfl 124 rfl
      exact sk_gval (v := .int .i64 ((ix a1 s68.1).At)) (by exact xr_load1 (v := .int .i64 ((ix a1 s68.1).At)) rfl ag3 d124 (At.segs (ss := [Seg.cell (.int .i64 ((ix a1 s68.1).Kind)), Seg.cell (.int .i64 ((ix a1 s68.1).At)), Seg.cell (.int .i64 ((ix a1 s68.1).I)), Seg.cell (cellAt w (sb V1_0) (so V1_0 + Int.toNat s68.1 * 8 + 3)) (N_rickyardlaw15_Act R1_0 g311.1 g311.2).2.1.one, Seg.cell (.int .i64 (((ix a1 s68.1).A).Kind)), Seg.cell (.int .i64 (((ix a1 s68.1).A).At)), Seg.cell (.int .u64 (((ix a1 s68.1).A).W)), Seg.cell (cellAt w (sb V1_0) (so V1_0 + Int.toNat s68.1 * 8 + 7)) (N_rickyardlaw15_Act R1_0 g311.1 g311.2).2.2.one]) (At.gr (N_rickyardlaw15_Act R1_0 g311.1 g311.2).1 (fB.gr hz)) 1 1 rfl)) rfl rfl ((hk 114 rfl).trans rfl) c310 rfl
     ·intro ρz wz hz hk hd
      have d125 := hd 30 rfl rfl 125 rfl
      exact sk_gval (v := .int .i64 (IntKind.i64.wrap (8 * ((ix a1 s68.1).At)))) (by exact xr_mul rfl rfl d125) rfl rfl ((hk 114 rfl).trans rfl) c310 rfl
     ·intro ρz wz hz hk hd
      exact sk_gval (v := V1_0) (by exact xr_move rfl ((hk 1 rfl).trans e1)) rfl rfl ((hk 114 rfl).trans rfl) c310 rfl
     ·intro ρz wz hz hk hd
      exact sk_gval (v := .int .i64 s68.1) (by exact xr_move rfl ((hk 9 rfl).trans e9)) rfl rfl ((hk 114 rfl).trans rfl) c310 rfl
     ·intro ρz wz hz hk hd
      have d127 := hd 32 rfl rfl 127 rfl
      have d128 := hd 33 rfl rfl 128 rfl
      exact sk_gval (by exact xr_indexN (v := V1_0) rfl Try.underlying82 sz85 d127 (RdN.gr R1_0 D_rickyardlaw15_Act.gr (fB.gr hz)) d128 g312.1 g312.2) rfl rfl ((hk 114 rfl).trans rfl) c310 rfl
     ·intro ρz wz hz hk hd
      have d129 := hd 34 rfl rfl 129 rfl
      exact sk_gval (by exact xr_fieldAddr (p := so V1_0 + Int.toNat s68.1 * 8) (q := 1) rfl fl85_1 d129) rfl rfl ((hk 114 rfl).trans rfl) c310 rfl
     ·intro ρz wz hz hk hd
      have d130 := hd 35 rfl rfl 130 rfl
      exact sk_gval (v := .int .i64 ((ix a1 s68.1).At)) (by exact xr_load1 (v := .int .i64 ((ix a1 s68.1).At)) rfl ag3 d130 (At.segs (ss := [Seg.cell (.int .i64 ((ix a1 s68.1).Kind)), Seg.cell (.int .i64 ((ix a1 s68.1).At)), Seg.cell (.int .i64 ((ix a1 s68.1).I)), Seg.cell (cellAt w (sb V1_0) (so V1_0 + Int.toNat s68.1 * 8 + 3)) (N_rickyardlaw15_Act R1_0 g312.1 g312.2).2.1.one, Seg.cell (.int .i64 (((ix a1 s68.1).A).Kind)), Seg.cell (.int .i64 (((ix a1 s68.1).A).At)), Seg.cell (.int .u64 (((ix a1 s68.1).A).W)), Seg.cell (cellAt w (sb V1_0) (so V1_0 + Int.toNat s68.1 * 8 + 7)) (N_rickyardlaw15_Act R1_0 g312.1 g312.2).2.2.one]) (At.gr (N_rickyardlaw15_Act R1_0 g312.1 g312.2).1 (fB.gr hz)) 1 1 rfl)) rfl rfl ((hk 114 rfl).trans rfl) c310 rfl
     ·intro ρz wz hz hk hd
      have d131 := hd 36 rfl rfl 131 rfl
      exact sk_gval (v := .int .i64 (IntKind.i64.wrap (8 * ((ix a1 s68.1).At)))) (by exact xr_mul rfl rfl d131) rfl rfl ((hk 114 rfl).trans rfl) c310 rfl
     ·intro ρz wz hz hk hd
      have d132 := hd 37 rfl rfl 132 rfl
      exact sk_gval (by exact xr_add rfl d132 rfl) rfl rfl ((hk 114 rfl).trans rfl) c310 rfl
     ·intro ρz wz hz hk hd
      have d120 := hd 25 rfl rfl 120 rfl
      have d126 := hd 31 rfl rfl 126 rfl
      have d133 := hd 38 rfl rfl 133 rfl
      exact sk_gval (by exact xr_slice_lh (K := (kI .u64)) (v := u140) rfl Try.underlying46 sz22 d120 (o141.gr hz).rd d126 d133 g314.1 g314.2.1 g314.2.2) rfl rfl ((hk 114 rfl).trans rfl) c310 ⟨(o141.gr hz).rd.cut (lo := (IntKind.i64.wrap (8 * ((ix a1 s68.1).At)))) (hi := (IntKind.i64.wrap ((IntKind.i64.wrap (8 * ((ix a1 s68.1).At))) + 8))) g314.1 g314.2.1 g314.2.2, rfl⟩
     intro ρz wz hz hk hd
     obtain ⟨r313, d134⟩ := hd 39 rfl rfl 134 rfl
     refine sk_gop (by exact opv_call rfl cal34 (ac d134 an) (rickyardref05_Text.ok fu _ (cut t129.2.2.Lasts (IntKind.i64.wrap (8 * ((ix a1 s68.1).At))) (IntKind.i64.wrap ((IntKind.i64.wrap (8 * ((ix a1 s68.1).At))) + 8))) (subv 1 u140 (Int.toNat (IntKind.i64.wrap (8 * ((ix a1 s68.1).At)))) (Int.toNat (IntKind.i64.wrap ((IntKind.i64.wrap (8 * ((ix a1 s68.1).At))) + 8)))) (r313) _ k316)) rfl rfl ((hk 114 rfl).trans rfl) c310 ?_
     rintro _ wy ⟨rfl, q317⟩
     exact ⟨rfl, q317⟩
    intro ρ318 w319 q320 hk hd
    have e1 := (hk 1 rfl).trans e1
    have e5 := (hk 5 rfl).trans e5
    have e6 := (hk 6 rfl).trans e6
    have e8 := (hk 8 rfl).trans e8
    have e9 := (hk 9 rfl).trans e9
    have e10 := (hk 10 rfl).trans e10
    have e11 := (hk 11 rfl).trans e11
    have e47 := (hk 47 rfl).trans e47
    have e48 := (hk 48 rfl).trans e48
    have e49 := (hk 49 rfl).trans e49
    have e50 := (hk 50 rfl).trans e50
    have e51 := (hk 51 rfl).trans e51
    have e52 := (hk 52 rfl).trans e52
    have e53 := (hk 53 rfl).trans e53
    have e56 := (hk 56 rfl).trans e56
    have e57 := (hk 57 rfl).trans e57
    have e58 := (hk 58 rfl).trans e58
    have e59 := (hk 59 rfl).trans e59
    have e60 := (hk 60 rfl).trans e60
    have e61 := (hk 61 rfl).trans e61
    have e62 := (hk 62 rfl).trans e62
    have e63 := (hk 63 rfl).trans e63
    have e64 := (hk 64 rfl).trans e64
    have e67 := (hk 67 rfl).trans e67
    have e68 := (hk 68 rfl).trans e68
    have e69 := (hk 69 rfl).trans e69
    have e70 := (hk 70 rfl).trans e70
    have e71 := (hk 71 rfl).trans e71
    have e72 := (hk 72 rfl).trans e72
    have e73 := (hk 73 rfl).trans e73
    have e74 := (hk 74 rfl).trans e74
    have e75 := (hk 75 rfl).trans e75
    have e78 := (hk 78 rfl).trans e78
    have e79 := (hk 79 rfl).trans e79
    have e80 := (hk 80 rfl).trans e80
    have e81 := (hk 81 rfl).trans e81
    have e82 := (hk 82 rfl).trans e82
    have e83 := (hk 83 rfl).trans e83
    have e103 := (hk 103 rfl).trans e103
    have e104 := (hk 104 rfl).trans e104
    have e105 := (hk 105 rfl).trans e105
    have e106 := (hk 106 rfl).trans e106
    have e107 := (hk 107 rfl).trans e107
    have e108 := (hk 108 rfl).trans e108
    have e109 := (hk 109 rfl).trans e109
    have e112 := (hk 112 rfl).trans rfl
    have e113 := (hk 113 rfl).trans rfl
    have e114 := (hk 114 rfl).trans rfl
    have e115 := hd 20 rfl rfl 115 rfl
    have e116 := hd 21 rfl rfl 116 rfl
    have e117 := hd 22 rfl rfl 117 rfl
    have e118 := hd 23 rfl rfl 118 rfl
    have e119 := hd 24 rfl rfl 119 rfl
    have e120 := hd 25 rfl rfl 120 rfl
    have e121 := hd 26 rfl rfl 121 rfl
    have e122 := hd 27 rfl rfl 122 rfl
    have e123 := hd 28 rfl rfl 123 rfl
    have e124 := hd 29 rfl rfl 124 rfl
    have e125 := hd 30 rfl rfl 125 rfl
    have e126 := hd 31 rfl rfl 126 rfl
    have e127 := hd 32 rfl rfl 127 rfl
    have e128 := hd 33 rfl rfl 128 rfl
    have e129 := hd 34 rfl rfl 129 rfl
    have e130 := hd 35 rfl rfl 130 rfl
    have e131 := hd 36 rfl rfl 131 rfl
    have e132 := hd 37 rfl rfl 132 rfl
    have e133 := hd 38 rfl rfl 133 rfl
    obtain ⟨r321, e134⟩ := hd 39 rfl rfl 134 rfl
    have e135 := hd 40 rfl rfl 135 rfl
    have b30 := b30.gr q320
    have b46 := b46.gr q320
    have o133 := o133.gr q320
    have o137 := o137.gr q320
    have o141 := o141.gr q320
    have o145 := o145.gr q320
    have o149 := o149.gr q320
    have o153 := o153.gr q320
    have o157 := o157.gr q320
    have o208 := o208.gr q320
    have o230 := o230.gr q320
    have o246 := o246.gr q320
    have o251 := o251.gr q320
    have o265 := o265.gr q320
    have fB := fB.gr q320
    refine rd_seq (m := 41) (n := 53) rfl ?_
    refine ol_gval (v := .bool (!decide ((List.map toB t262.1) = t315))) (by exact xr_neStr rfl Try.underlying9 e116 e135) rfl rfl rfl rfl e114 c310 ?_
    refine ol_gval (v := .bool (!decide ((List.map toB t262.1) = t315))) (by exact xr_pickT rfl e114 c310 rfl) rfl rfl rfl rfl e112 c306 ?_
    refine ol_val (v := .bool (!decide ((List.map toB t262.1) = t315))) (by exact xr_pickF rfl e112 c306 rfl) rfl rfl rfl ?_
    refine ol_val (v := .bool (!decide ((List.map toB t262.1) = t315))) (by exact xr_move rfl rfl) rfl rfl rfl ?_
    rcases is h with ⟨c322, h⟩ | ⟨c322, h⟩
    ·skip
     refine ol_gskip rfl rfl rfl rfl rfl c322 ?_
     refine ol_gskip rfl rfl rfl rfl rfl c322 ?_
     refine ol_gskip rfl rfl rfl rfl rfl c322 ?_
     refine ol_uskip rfl rfl rfl rfl rfl ?_
     refine ol_uskip rfl rfl rfl rfl rfl ?_
     refine ol_uskip rfl rfl rfl rfl rfl ?_
     refine ol_gskip rfl rfl rfl rfl rfl c322 ?_
     refine ol_val (v := .bool true) (by exact xr_pickT rfl rfl c322 rfl) rfl rfl rfl ?_
     refine ol_nilK ?_
     refine rd_end rfl ?_
     refine cw_condT rfl rfl ?_
     refine cw_seq ?_
     refine cw_region ?_
     refine ol_val (v := .bool false) (by exact xr_assign rfl rfl) rfl rfl rfl ?_
     refine ol_nil ?_
     refine cw_ret ?_
     repeat (first | with_reducible refine thn_r ?_ | with_reducible refine blk_r ?_)
     obtain rfl := Option.some.inj h
     refine lp_ret ?_
     rintro rfl
     repeat (first | with_reducible refine thn_r ?_ | with_reducible refine blk_r ?_)
     have h := h71
     obtain rfl := Option.some.inj h
     refine fin_ret1 Try.results13 rfl ?_
     exact ⟨_, rfl, rfl, fB⟩
    refine ol_gval (v := .bool t262.2) (by exact xr_move rfl e11) rfl rfl rfl rfl rfl c322 ?_
    refine ol_gval (v := .bool (!t262.2)) (by exact xr_not rfl rfl) rfl rfl rfl rfl rfl c322 ?_
    refine ol_gval (v := .bool (!t262.2)) (by exact xr_move rfl rfl) rfl rfl rfl rfl rfl c322 ?_
    rcases is h with ⟨c323, h⟩ | ⟨c323, h⟩
    ·skip
     refine ol_gval (v := u264) (by exact xr_move rfl e10) rfl rfl rfl rfl rfl c323 ?_
     refine ol_gval (v := .int .i64 (List.length t262.1 : Int)) (by exact xr_lenR rfl Try.underlying43 rfl o265.rd) rfl rfl rfl rfl rfl c323 ?_
     refine ol_gval (v := .bool (!decide ((List.length t262.1 : Int) = 0))) (by exact xr_neI rfl Try.underlying3 rfl rfl rfl) rfl rfl rfl rfl rfl c323 ?_
     refine ol_gval (v := .bool (!decide ((List.length t262.1 : Int) = 0))) (by exact xr_pickT rfl rfl c323 rfl) rfl rfl rfl rfl rfl c322 ?_
     refine ol_val (v := .bool (!decide ((List.length t262.1 : Int) = 0))) (by exact xr_pickF rfl rfl c322 rfl) rfl rfl rfl ?_
     refine ol_nilK ?_
     refine rd_end rfl ?_
     rcases is h with ⟨c324, h⟩ | ⟨c324, h⟩
     ·refine cw_condT rfl c324 ?_
      refine cw_seq ?_
      refine cw_region ?_
      refine ol_val (v := .bool false) (by exact xr_assign rfl rfl) rfl rfl rfl ?_
      refine ol_nil ?_
      refine cw_ret ?_
      repeat (first | with_reducible refine thn_r ?_ | with_reducible refine blk_r ?_)
      obtain rfl := Option.some.inj h
      refine lp_ret ?_
      rintro rfl
      repeat (first | with_reducible refine thn_r ?_ | with_reducible refine blk_r ?_)
      have h := h71
      obtain rfl := Option.some.inj h
      refine fin_ret1 Try.results13 rfl ?_
      exact ⟨_, rfl, rfl, fB⟩
     refine cw_condF rfl c324 ?_
     refine cw_skip ?_
     refine blk_i ?_
     refine cw_region ?_
     refine ol_val (v := .int .i64 s68.1) (by exact xr_move rfl e9) rfl rfl rfl ?_
     refine ol_val (v := .int .i64 (IntKind.i64.wrap (s68.1 + 1))) (by exact xr_add rfl rfl rfl) rfl rfl rfl ?_
     refine ol_val (v := .int .i64 (IntKind.i64.wrap (s68.1 + 1))) (by exact xr_assign rfl rfl) rfl rfl rfl ?_
     refine ol_nil ?_
     obtain rfl := Option.some.inj h
     refine lp_in ?_
     exact ⟨u132, u136, u140, u144, u148, u152, u156, o133, o137, o141, o145, o149, o153, o157, a160, a161, a162, a163, e1, e5, e6, e8, rfl, b30, b46, fB⟩
    refine ol_gskip rfl rfl rfl rfl rfl c323 ?_
    refine ol_gskip rfl rfl rfl rfl rfl c323 ?_
    refine ol_gskip rfl rfl rfl rfl rfl c323 ?_
    refine ol_gval (v := .bool false) (by exact xr_pickF rfl rfl c323 rfl) rfl rfl rfl rfl rfl c322 ?_
    refine ol_val (v := .bool false) (by exact xr_pickF rfl rfl c322 rfl) rfl rfl rfl ?_
    refine ol_nilK ?_
    refine rd_end rfl ?_
    refine cw_condF rfl rfl ?_
    refine cw_skip ?_
    refine blk_i ?_
    refine cw_region ?_
    refine ol_val (v := .int .i64 s68.1) (by exact xr_move rfl e9) rfl rfl rfl ?_
    refine ol_val (v := .int .i64 (IntKind.i64.wrap (s68.1 + 1))) (by exact xr_add rfl rfl rfl) rfl rfl rfl ?_
    refine ol_val (v := .int .i64 (IntKind.i64.wrap (s68.1 + 1))) (by exact xr_assign rfl rfl) rfl rfl rfl ?_
    refine ol_nil ?_
    obtain rfl := Option.some.inj h
    refine lp_in ?_
    exact ⟨u132, u136, u140, u144, u148, u152, u156, o133, o137, o141, o145, o149, o153, o157, a160, a161, a162, a163, e1, e5, e6, e8, rfl, b30, b46, fB⟩
   refine rd_drawL 20 41 [fun _ _ => True, fun _ _ => True, fun _ _ => True, fun _ _ => True, fun _ _ => True, fun _ _ => True, fun _ _ => True, fun _ _ => True, fun _ _ => True, fun _ _ => True, fun _ _ => True, fun _ _ => True, fun _ _ => True, fun _ _ => True, fun _ _ => True, fun _ _ => True, fun _ _ => True, fun _ _ => True, fun _ _ => True, fun _ _ => True, fun vz _ => vz = undef, fun vz _ => vz = undef, fun vz _ => vz = undef, fun vz _ => vz = undef, fun vz _ => vz = undef, fun vz _ => vz = undef, fun vz _ => vz = undef, fun vz _ => vz = undef, fun vz _ => vz = undef, fun vz _ => vz = undef, fun vz _ => vz = undef, fun vz _ => vz = undef, fun vz _ => vz = undef, fun vz _ => vz = undef, fun vz _ => vz = undef, fun vz _ => vz = undef, fun vz _ => vz = undef, fun vz _ => vz = undef, fun vz _ => vz = undef, fun vz _ => vz = undef, fun vz _ => vz = undef] rfl ⟨fun _ _ _ h _ => h, fun _ _ _ h _ => h, fun _ _ _ h _ => h, fun _ _ _ h _ => h, fun _ _ _ h _ => h, fun _ _ _ h _ => h, fun _ _ _ h _ => h, fun _ _ _ h _ => h, fun _ _ _ h _ => h, fun _ _ _ h _ => h, fun _ _ _ h _ => h, fun _ _ _ h _ => h, fun _ _ _ h _ => h, fun _ _ _ h _ => h, fun _ _ _ h _ => h, fun _ _ _ h _ => h, fun _ _ _ h _ => h, fun _ _ _ h _ => h, fun _ _ _ h _ => h, fun _ _ _ h _ => h, fun _ _ _ h _ => h, fun _ _ _ h _ => h, fun _ _ _ h _ => h, fun _ _ _ h _ => h, fun _ _ _ h _ => h, fun _ _ _ h _ => h, fun _ _ _ h _ => h, fun _ _ _ h _ => h, fun _ _ _ h _ => h, fun _ _ _ h _ => h, fun _ _ _ h _ => h, fun _ _ _ h _ => h, fun _ _ _ h _ => h, fun _ _ _ h _ => h, fun _ _ _ h _ => h, fun _ _ _ h _ => h, fun _ _ _ h _ => h, fun _ _ _ h _ => h, fun _ _ _ h _ => h, fun _ _ _ h _ => h, fun _ _ _ h _ => h, trivial⟩ ?_ ?_
   ·refine ⟨?_, ?_, ?_, ?_, ?_, ?_, ?_, ?_, ?_, ?_, ?_, ?_, ?_, ?_, ?_, ?_, ?_, ?_, ?_, ?_, ?_, trivial⟩
    ·intro ρz wz hz hk hd
     exact sk_skip rfl rfl ((hk 114 rfl).trans rfl) c310 rfl
    ·intro ρz wz hz hk hd
     exact sk_skip rfl rfl ((hk 114 rfl).trans rfl) c310 rfl
    ·intro ρz wz hz hk hd
     exact sk_skip rfl rfl ((hk 114 rfl).trans rfl) c310 rfl
    ·intro ρz wz hz hk hd
     exact sk_skip rfl rfl ((hk 114 rfl).trans rfl) c310 rfl
    ·intro ρz wz hz hk hd
     exact sk_skip rfl rfl ((hk 114 rfl).trans rfl) c310 rfl
    ·intro ρz wz hz hk hd
     exact sk_skip rfl rfl ((hk 114 rfl).trans rfl) c310 rfl
    ·intro ρz wz hz hk hd
     exact sk_skip rfl rfl ((hk 114 rfl).trans rfl) c310 rfl
    ·intro ρz wz hz hk hd
     exact sk_skip rfl rfl ((hk 114 rfl).trans rfl) c310 rfl
    ·intro ρz wz hz hk hd
     exact sk_skip rfl rfl ((hk 114 rfl).trans rfl) c310 rfl
    ·intro ρz wz hz hk hd
     exact sk_skip rfl rfl ((hk 114 rfl).trans rfl) c310 rfl
    ·intro ρz wz hz hk hd
     exact sk_skip rfl rfl ((hk 114 rfl).trans rfl) c310 rfl
    ·intro ρz wz hz hk hd
     exact sk_skip rfl rfl ((hk 114 rfl).trans rfl) c310 rfl
    ·intro ρz wz hz hk hd
     exact sk_skip rfl rfl ((hk 114 rfl).trans rfl) c310 rfl
    ·intro ρz wz hz hk hd
     exact sk_skip rfl rfl ((hk 114 rfl).trans rfl) c310 rfl
    ·intro ρz wz hz hk hd
     exact sk_skip rfl rfl ((hk 114 rfl).trans rfl) c310 rfl
    ·intro ρz wz hz hk hd
     exact sk_skip rfl rfl ((hk 114 rfl).trans rfl) c310 rfl
    ·intro ρz wz hz hk hd
     exact sk_skip rfl rfl ((hk 114 rfl).trans rfl) c310 rfl
    ·intro ρz wz hz hk hd
     exact sk_skip rfl rfl ((hk 114 rfl).trans rfl) c310 rfl
    ·intro ρz wz hz hk hd
     exact sk_skip rfl rfl ((hk 114 rfl).trans rfl) c310 rfl
    ·intro ρz wz hz hk hd
     exact sk_skip rfl rfl ((hk 114 rfl).trans rfl) c310 rfl
    intro ρz wz hz hk hd
    exact sk_skip rfl rfl ((hk 114 rfl).trans rfl) c310 rfl
   intro ρ325 w326 q327 hk hd
   have e1 := (hk 1 rfl).trans e1
   have e5 := (hk 5 rfl).trans e5
   have e6 := (hk 6 rfl).trans e6
   have e8 := (hk 8 rfl).trans e8
   have e9 := (hk 9 rfl).trans e9
   have e10 := (hk 10 rfl).trans e10
   have e11 := (hk 11 rfl).trans e11
   have e47 := (hk 47 rfl).trans e47
   have e48 := (hk 48 rfl).trans e48
   have e49 := (hk 49 rfl).trans e49
   have e50 := (hk 50 rfl).trans e50
   have e51 := (hk 51 rfl).trans e51
   have e52 := (hk 52 rfl).trans e52
   have e53 := (hk 53 rfl).trans e53
   have e56 := (hk 56 rfl).trans e56
   have e57 := (hk 57 rfl).trans e57
   have e58 := (hk 58 rfl).trans e58
   have e59 := (hk 59 rfl).trans e59
   have e60 := (hk 60 rfl).trans e60
   have e61 := (hk 61 rfl).trans e61
   have e62 := (hk 62 rfl).trans e62
   have e63 := (hk 63 rfl).trans e63
   have e64 := (hk 64 rfl).trans e64
   have e67 := (hk 67 rfl).trans e67
   have e68 := (hk 68 rfl).trans e68
   have e69 := (hk 69 rfl).trans e69
   have e70 := (hk 70 rfl).trans e70
   have e71 := (hk 71 rfl).trans e71
   have e72 := (hk 72 rfl).trans e72
   have e73 := (hk 73 rfl).trans e73
   have e74 := (hk 74 rfl).trans e74
   have e75 := (hk 75 rfl).trans e75
   have e78 := (hk 78 rfl).trans e78
   have e79 := (hk 79 rfl).trans e79
   have e80 := (hk 80 rfl).trans e80
   have e81 := (hk 81 rfl).trans e81
   have e82 := (hk 82 rfl).trans e82
   have e83 := (hk 83 rfl).trans e83
   have e103 := (hk 103 rfl).trans e103
   have e104 := (hk 104 rfl).trans e104
   have e105 := (hk 105 rfl).trans e105
   have e106 := (hk 106 rfl).trans e106
   have e107 := (hk 107 rfl).trans e107
   have e108 := (hk 108 rfl).trans e108
   have e109 := (hk 109 rfl).trans e109
   have e112 := (hk 112 rfl).trans rfl
   have e113 := (hk 113 rfl).trans rfl
   have e114 := (hk 114 rfl).trans rfl
   have e115 := hd 20 rfl rfl 115 rfl
   have e116 := hd 21 rfl rfl 116 rfl
   have e117 := hd 22 rfl rfl 117 rfl
   have e118 := hd 23 rfl rfl 118 rfl
   have e119 := hd 24 rfl rfl 119 rfl
   have e120 := hd 25 rfl rfl 120 rfl
   have e121 := hd 26 rfl rfl 121 rfl
   have e122 := hd 27 rfl rfl 122 rfl
   have e123 := hd 28 rfl rfl 123 rfl
   have e124 := hd 29 rfl rfl 124 rfl
   have e125 := hd 30 rfl rfl 125 rfl
   have e126 := hd 31 rfl rfl 126 rfl
   have e127 := hd 32 rfl rfl 127 rfl
   have e128 := hd 33 rfl rfl 128 rfl
   have e129 := hd 34 rfl rfl 129 rfl
   have e130 := hd 35 rfl rfl 130 rfl
   have e131 := hd 36 rfl rfl 131 rfl
   have e132 := hd 37 rfl rfl 132 rfl
   have e133 := hd 38 rfl rfl 133 rfl
   have e134 := hd 39 rfl rfl 134 rfl
   have e135 := hd 40 rfl rfl 135 rfl
   have b30 := b30.gr q327
   have b46 := b46.gr q327
   have o133 := o133.gr q327
   have o137 := o137.gr q327
   have o141 := o141.gr q327
   have o145 := o145.gr q327
   have o149 := o149.gr q327
   have o153 := o153.gr q327
   have o157 := o157.gr q327
   have o208 := o208.gr q327
   have o230 := o230.gr q327
   have o246 := o246.gr q327
   have o251 := o251.gr q327
   have o265 := o265.gr q327
   have fB := fB.gr q327
   refine rd_seq (m := 41) (n := 53) rfl ?_
   refine ol_gskip rfl rfl rfl rfl e114 c310 ?_
   refine ol_gval (v := .bool false) (by exact xr_pickF rfl e114 c310 rfl) rfl rfl rfl rfl e112 c306 ?_
   refine ol_val (v := .bool false) (by exact xr_pickF rfl e112 c306 rfl) rfl rfl rfl ?_
   refine ol_val (v := .bool false) (by exact xr_move rfl rfl) rfl rfl rfl ?_
   refine ol_gval (v := .bool t262.2) (by exact xr_move rfl e11) rfl rfl rfl rfl rfl rfl ?_
   refine ol_gval (v := .bool (!t262.2)) (by exact xr_not rfl rfl) rfl rfl rfl rfl rfl rfl ?_
   refine ol_gval (v := .bool (!t262.2)) (by exact xr_move rfl rfl) rfl rfl rfl rfl rfl rfl ?_
   rcases is h with ⟨c328, h⟩ | ⟨c328, h⟩
   ·skip
    refine ol_gval (v := u264) (by exact xr_move rfl e10) rfl rfl rfl rfl rfl c328 ?_
    refine ol_gval (v := .int .i64 (List.length t262.1 : Int)) (by exact xr_lenR rfl Try.underlying43 rfl o265.rd) rfl rfl rfl rfl rfl c328 ?_
    refine ol_gval (v := .bool (!decide ((List.length t262.1 : Int) = 0))) (by exact xr_neI rfl Try.underlying3 rfl rfl rfl) rfl rfl rfl rfl rfl c328 ?_
    refine ol_gval (v := .bool (!decide ((List.length t262.1 : Int) = 0))) (by exact xr_pickT rfl rfl c328 rfl) rfl rfl rfl rfl rfl rfl ?_
    refine ol_val (v := .bool (!decide ((List.length t262.1 : Int) = 0))) (by exact xr_pickF rfl rfl rfl rfl) rfl rfl rfl ?_
    refine ol_nilK ?_
    refine rd_end rfl ?_
    rcases is h with ⟨c329, h⟩ | ⟨c329, h⟩
    ·refine cw_condT rfl c329 ?_
     refine cw_seq ?_
     refine cw_region ?_
     refine ol_val (v := .bool false) (by exact xr_assign rfl rfl) rfl rfl rfl ?_
     refine ol_nil ?_
     refine cw_ret ?_
     repeat (first | with_reducible refine thn_r ?_ | with_reducible refine blk_r ?_)
     obtain rfl := Option.some.inj h
     refine lp_ret ?_
     rintro rfl
     repeat (first | with_reducible refine thn_r ?_ | with_reducible refine blk_r ?_)
     have h := h71
     obtain rfl := Option.some.inj h
     refine fin_ret1 Try.results13 rfl ?_
     exact ⟨_, rfl, rfl, fB⟩
    refine cw_condF rfl c329 ?_
    refine cw_skip ?_
    refine blk_i ?_
    refine cw_region ?_
    refine ol_val (v := .int .i64 s68.1) (by exact xr_move rfl e9) rfl rfl rfl ?_
    refine ol_val (v := .int .i64 (IntKind.i64.wrap (s68.1 + 1))) (by exact xr_add rfl rfl rfl) rfl rfl rfl ?_
    refine ol_val (v := .int .i64 (IntKind.i64.wrap (s68.1 + 1))) (by exact xr_assign rfl rfl) rfl rfl rfl ?_
    refine ol_nil ?_
    obtain rfl := Option.some.inj h
    refine lp_in ?_
    exact ⟨u132, u136, u140, u144, u148, u152, u156, o133, o137, o141, o145, o149, o153, o157, a160, a161, a162, a163, e1, e5, e6, e8, rfl, b30, b46, fB⟩
   refine ol_gskip rfl rfl rfl rfl rfl c328 ?_
   refine ol_gskip rfl rfl rfl rfl rfl c328 ?_
   refine ol_gskip rfl rfl rfl rfl rfl c328 ?_
   refine ol_gval (v := .bool false) (by exact xr_pickF rfl rfl c328 rfl) rfl rfl rfl rfl rfl rfl ?_
   refine ol_val (v := .bool false) (by exact xr_pickF rfl rfl rfl rfl) rfl rfl rfl ?_
   refine ol_nilK ?_
   refine rd_end rfl ?_
   refine cw_condF rfl rfl ?_
   refine cw_skip ?_
   refine blk_i ?_
   refine cw_region ?_
   refine ol_val (v := .int .i64 s68.1) (by exact xr_move rfl e9) rfl rfl rfl ?_
   refine ol_val (v := .int .i64 (IntKind.i64.wrap (s68.1 + 1))) (by exact xr_add rfl rfl rfl) rfl rfl rfl ?_
   refine ol_val (v := .int .i64 (IntKind.i64.wrap (s68.1 + 1))) (by exact xr_assign rfl rfl) rfl rfl rfl ?_
   refine ol_nil ?_
   obtain rfl := Option.some.inj h
   refine lp_in ?_
   exact ⟨u132, u136, u140, u144, u148, u152, u156, o133, o137, o141, o145, o149, o153, o157, a160, a161, a162, a163, e1, e5, e6, e8, rfl, b30, b46, fB⟩
  refine cw_condF rfl c122 ?_
  refine cw_exit ?_
  repeat (first | with_reducible refine thn_e ?_ | with_reducible refine blk_e rfl ?_)
  obtain rfl := Option.some.inj h
  refine lp_exit ?_
  rintro rfl
  refine thn_x ?_
  exact ⟨_, rfl, v94, v97, v100, v103, v106, v109, v112, fB⟩
 rintro ρ330 w331 ⟨x72, rfl, v73, v76, v79, v82, v85, v88, v91, fB⟩
 have h := h71
 refine cw_seq ?_
 refine cw_region ?_
 refine ol_val (v := .bool true) (by exact xr_assign rfl rfl) rfl rfl rfl ?_
 refine ol_nil ?_
 refine cw_ret ?_
 repeat (first | with_reducible refine thn_r ?_ | with_reducible refine blk_r ?_)
 obtain rfl := Option.some.inj h
 refine fin_ret1 Try.results13 rfl ?_
 exact ⟨_, rfl, rfl, fB⟩
end Go.Proofs.Ytklhbaghbmndeaa
namespace Go.Xw
open Go
variable {P : Program} {w : World}
def Opn {α : Type} (P : Program) (w : World) (T : TypeId) (K : Kd α) (ok : α → Prop) : Prop :=
  ∀ {H : Type} (enc : TypeId × Value → H) (base : Nat) (sp : Nat → Bool) (held : Bool) (fuel : Nat) (cs : List Value) (x : DataW H × List MemPlace), DataW.trod enc P w base sp held fuel T cs = some x → ∃ a : α, cs = K.enc a ∧ ok a
theorem opn_int {T : TypeId} {k : IntKind} (ht : P.underlying T = some (.int k)) : Opn P w T (kI k) (fun n => (Lit.int k n).wf = true) := by
  intro H enc base sp held fuel cs x h
  obtain ⟨n, rfl, _, hw⟩ := DataW.trod_int ht h
  exact ⟨n, rfl, hw⟩
theorem ms_len {α β : Type} {f : α → Option β} : ∀ {l : List α} {ys : List β}, l.mapM f = some ys → ys.length = l.length
  | [], ys, h => by simp at h; subst h; rfl
  | a :: l, ys, h => by
    rw [List.mapM_cons] at h
    obtain ⟨b, _, h⟩ := Option.bind_eq_some_iff.1 h
    obtain ⟨bs, hb, h⟩ := Option.bind_eq_some_iff.1 h
    simp at h
    subst h
    simp [ms_len hb]
theorem ms_get {α β : Type} {f : α → Option β} : ∀ {l : List α} {ys : List β}, l.mapM f = some ys → ∀ (i : Nat) (a : α), l[i]? = some a → ∃ y, ys[i]? = some y ∧ f a = some y
  | [], ys, h, i, a, ha => by simp at ha
  | b :: l, ys, h, i, a, ha => by
    rw [List.mapM_cons] at h
    obtain ⟨c, hc, h⟩ := Option.bind_eq_some_iff.1 h
    obtain ⟨bs, hb, h⟩ := Option.bind_eq_some_iff.1 h
    simp at h
    subst h
    cases i with
    | zero =>
      simp at ha
      subst ha
      exact ⟨c, rfl, hc⟩
    | succ i =>
      simp at ha
      obtain ⟨y, h1, h2⟩ := ms_get hb i a ha
      exact ⟨y, by simpa using h1, h2⟩
/-- The fields of a struct, one behind another. -/
theorem fld_cons {cs : List Value} {o n : Nat} {c r : List Value} (h : (cs.drop o).take n = c) (hr : cs.drop (o + n) = r) : cs.drop o = c ++ r := by
  rw [← h, ← hr, ← List.drop_drop, List.take_append_drop]
theorem trod_st {H : Type} {enc : TypeId × Value → H} {base : Nat} {sp : Nat → Bool} {held : Bool} {fuel : Nat} {T : TypeId} {fs : Array Field} {cs : List Value} {x : DataW H × List MemPlace} (ht : P.underlying T = some (.struct fs)) (h : DataW.trod enc P w base sp held fuel T cs = some x) :
    cs.length = P.cellsOf T ∧ ∃ m, ∀ (i : Nat) (f : Field), fs[i]? = some f → ∃ y, DataW.trod enc P w base sp held m f.type ((cs.drop f.offset).take (P.cellsOf f.type)) = some y := by
  obtain ⟨xs, m, _, _, hl, hn, hf⟩ := DataW.trod_struct ht h
  refine ⟨hl, m, fun i f hi => ?_⟩
  have hx : i < xs.length := by rw [hn]; exact (Array.getElem?_eq_some_iff.1 hi).1
  exact ⟨xs[i], by rw [hf i f hi, List.getElem?_eq_getElem hx]⟩
/-- Slices: a cell that reads as a list. -/
def OpnS {α : Type} (P : Program) (w : World) (T : TypeId) (K : Kd α) (ok : α → Prop) : Prop :=
  ∀ {H : Type} (enc : TypeId × Value → H) (base : Nat) (sp : Nat → Bool) (held : Bool) (fuel : Nat) (cs : List Value) (x : DataW H × List MemPlace), DataW.trod enc P w base sp held fuel T cs = some x → ∃ (l : List α) (V : Value), cs = [V] ∧ Rd K w V l ∧ (∀ a ∈ l, ok a) ∧ l.length ≤ maxLen ∧ (sb V < w.heap.size ∨ l = [])
theorem cells_get {base : Nat} {a : Addr} {n : Nat} {cs : List Value} (h : w.cells? base a n = some cs) : cs.length = n ∧ ∀ j, j < n → w.cell? (a.add j) = cs[j]? := by
  unfold World.cells? at h
  split at h
  · refine ⟨by simpa using ms_len h, fun j hj => ?_⟩
    obtain ⟨y, h1, h2⟩ := ms_get h j j (by simp [hj])
    rw [h1, h2]
  · cases h
theorem opn_slice {α : Type} {K : Kd α} {ok : α → Prop} {T e : TypeId} (ht : P.underlying T = some (.slice e)) (he : P.cellsOf e = K.size) (hk : 0 < K.size) (ho : Opn P w e K ok) : OpnS P w T K ok := by
  intro H enc base sp held fuel cs x h
  rcases DataW.trod_slice ht h with ⟨rfl, _⟩ | ⟨a, len, cap, elems, rest, n, rfl, rfl, _, _, hl, hm, hlen, hel, _, _⟩
  · exact ⟨[], _, rfl, Rd.nil K w, by simp, by simp, .inr rfl⟩
  · have hex : ∀ i, i < len → ∃ b, (∀ j z, (K.enc b)[j]? = some z → w.cell? (a.add (i * K.size + j)) = some z) ∧ ok b := by
      intro i hi
      have h1 := hel i hi
      rw [List.getElem?_eq_getElem (by omega)] at h1
      obtain ⟨cs, h2, h3⟩ := Option.bind_eq_some_iff.1 h1
      obtain ⟨b, rfl, hb⟩ := ho enc base sp held n cs _ h3
      obtain ⟨h4, h5⟩ := cells_get h2
      rw [he] at h4 h5
      refine ⟨b, fun j z hz => ?_, hb⟩
      have hj : j < K.size := by rw [← h4]; exact (List.getElem?_eq_some_iff.1 hz).1
      have := h5 j hj
      rw [hz] at this
      rw [← this]
      congr 1
      unfold Addr.add
      by_cases hi0 : i * K.size = 0
      · by_cases hj0 : j = 0
        · simp [hi0, hj0]
        · simp [hi0, hj0]
      · by_cases hj0 : j = 0
        · simp [hi0, hj0]
        · have : i * K.size + j ≠ 0 := by omega
          simp [hi0, hj0, this, Nat.add_assoc]
    have hlist : ∀ m, m ≤ len → ∃ l : List α, l.length = m ∧ (∀ b ∈ l, ok b) ∧ ∀ j z, (l.flatMap K.enc)[j]? = some z → w.cell? (a.add j) = some z := by
      intro m
      induction m with
      | zero => intro _; exact ⟨[], rfl, by simp, by simp⟩
      | succ m ih =>
        intro hm
        obtain ⟨l, h1, h2, h3⟩ := ih (by omega)
        obtain ⟨b, h4, h5⟩ := hex m (by omega)
        refine ⟨l ++ [b], by simp [h1], ?_, ?_⟩
        · intro c hc
          rcases List.mem_append.1 hc with hc | hc
          · exact h2 c hc
          · obtain rfl := List.mem_singleton.1 hc
            exact h5
        · intro j z hz
          have hL : (l.flatMap K.enc).length = m * K.size := by rw [len_flat, h1]
          simp only [List.flatMap_append, List.flatMap_cons, List.flatMap_nil, List.append_nil] at hz
          by_cases hj : j < m * K.size
          · rw [List.getElem?_append_left (by omega)] at hz
            exact h3 j z hz
          · rw [List.getElem?_append_right (by omega), hL] at hz
            have := h4 (j - m * K.size) z hz
            rwa [show m * K.size + (j - m * K.size) = j from by omega] at this
    obtain ⟨l, h1, h2, h3⟩ := hlist len (Nat.le_refl _)
    have hpos : 0 < l.length → ∃ z, w.cell? a = some z := by
      intro hp
      cases l with
      | nil => simp at hp
      | cons b l =>
        have hb : (K.enc b).length = K.size := K.len b
        have : ∃ z, ((b :: l).flatMap K.enc)[0]? = some z := ⟨_, List.getElem?_eq_getElem (by simp [List.flatMap_cons, hb]; omega)⟩
        obtain ⟨z, hz⟩ := this
        have := h3 0 z hz
        exact ⟨z, by simpa [Addr.add] using this⟩
    refine ⟨l, _, rfl, ⟨some a, cap, by rw [h1], by omega, fun hp => ?_⟩, h2, by omega, ?_⟩
    · obtain ⟨z, hz⟩ := hpos hp
      obtain ⟨b, o, s⟩ := a
      have hs : s = none := by
        unfold World.cell? at hz
        split at hz
        · cases s with
          | none => rfl
          | some _ => simp at hz
        · cases hz
      subst hs
      refine ⟨b, o, rfl, fun j v hv => ?_⟩
      have := h3 j v hv
      rwa [Addr.add_lit] at this
    · rcases Nat.eq_zero_or_pos l.length with h0 | hp
      · exact .inr (List.eq_nil_of_length_eq_zero h0)
      · obtain ⟨z, hz⟩ := hpos hp
        refine .inl ?_
        unfold World.cell? at hz
        split at hz
        · rename_i hh
          exact (Array.getElem?_eq_some_iff.1 hh).1
        · cases hz
theorem opn_sliceN {P : Program} {w : World} {α : Type} {n : Nat} {D : World → List Value → α → Prop} {ok : α → Prop} {T e : TypeId} (ht : P.underlying T = some (.slice e)) (he : P.cellsOf e = n) (hk : 0 < n)
    (ho : ∀ {H : Type} (enc : TypeId × Value → H) (base : Nat) (sp : Nat → Bool) (held : Bool) (fuel : Nat) (cs : List Value) (x : DataW H × List MemPlace), DataW.trod enc P w base sp held fuel e cs = some x → ∃ a : α, D w cs a ∧ ok a ∧ cs.length = n ∧ ∀ v ∈ cs, v.oneCell' = true)
    {H : Type} (enc : TypeId × Value → H) (base : Nat) (sp : Nat → Bool) (held : Bool) (fuel : Nat) (cs : List Value) (x : DataW H × List MemPlace) (h : DataW.trod enc P w base sp held fuel T cs = some x) :
    ∃ (l : List α) (V : Value), cs = [V] ∧ RdN n D w V l ∧ (∀ a ∈ l, ok a) ∧ l.length ≤ maxLen ∧ (sb V < w.heap.size ∨ l = []) := by
  let β := { p : { l : List Value // l.length = n ∧ ∀ v ∈ l, v.oneCell' = true } × α // D w p.1.1 p.2 ∧ ok p.2 }
  let K : Kd β := ⟨fun p => p.1.1.1, n, fun p => p.1.1.2.1, fun p => p.1.1.2.2⟩
  have hp : Opn P w e K (fun _ => True) := by
    intro H enc base sp held fuel cs x h
    obtain ⟨a, hd, hok, hl, h1⟩ := ho enc base sp held fuel cs x h
    exact ⟨⟨(⟨cs, hl, h1⟩, a), hd, hok⟩, rfl, trivial⟩
  obtain ⟨l, V, e1, r, _, hm, hs⟩ := opn_slice (K := K) ht he hk hp enc base sp held fuel cs x h
  refine ⟨l.map (fun p => p.1.2), V, e1, ⟨l.map (fun p => p.1.1), ?_, by simp, ?_⟩, ?_, by simpa using hm, ?_⟩
  · obtain ⟨A, c, rfl, hc, hr⟩ := r
    refine ⟨A, c, by simp, by simpa using hc, fun hpos => ?_⟩
    obtain ⟨b, o, ea, hat⟩ := hr (by simpa using hpos)
    refine ⟨b, o, ea, ?_⟩
    rw [List.flatMap_map]
    exact hat
  · intro i h1 h2
    have hi : i < l.length := by simpa using h1
    simp only [List.getElem_map]
    exact (l[i]).2.1
  · intro a ha
    obtain ⟨p, _, rfl⟩ := List.mem_map.1 ha
    exact p.2.2
  · rcases hs with hs | rfl
    · exact .inl hs
    · exact .inr rfl
end Go.Xw
namespace Go.Proofs.Ytklhbaghbmndeaa
open Go Go.Xw
def ok_rickyardlaw05_Act (a : S_rickyardlaw05_Act) : Prop := (Lit.int .i64 a.Kind).wf = true ∧ (Lit.int .i64 a.At).wf = true ∧ (Lit.int .u64 a.W).wf = true ∧ ((∀ x ∈ a.L, (Lit.int .i64 x).wf = true) ∧ List.length a.L ≤ maxLen)
theorem opn_rickyardlaw05_Act {w : World} {H : Type} (enc : TypeId × Value → H) (base : Nat) (sp : Nat → Bool) (held : Bool) (fuel : Nat) (cs : List Value) (x : DataW H × List MemPlace) (h : DataW.trod enc Try.prog w base sp held fuel 39 cs = some x) : ∃ a : S_rickyardlaw05_Act, ∃ V0 : Value, ∃ R0 : Rd (kI .i64) w V0 a.L, cs = cellsOf [Seg.cell (.int .i64 a.Kind), Seg.cell (.int .i64 a.At), Seg.cell (.int .u64 a.W), Seg.cell V0 R0.one] ∧ ok_rickyardlaw05_Act a := by
  obtain ⟨hl, m, hf⟩ := trod_st Try.underlying39 h
  obtain ⟨y0, h0⟩ := hf 0 _ rfl
  have c0 : Try.prog.cellsOf 3 = 1 := by kernel_rfl
  obtain ⟨b0, e0, o0⟩ := (opn_int Try.underlying3) enc base sp held m _ y0 h0
  have e0 : (cs.drop 0).take 1 = (kI .i64).enc b0 := (congrArg (fun n => (cs.drop 0).take n) c0).symm.trans e0
  obtain ⟨y1, h1⟩ := hf 1 _ rfl
  have c1 : Try.prog.cellsOf 3 = 1 := by kernel_rfl
  obtain ⟨b1, e1, o1⟩ := (opn_int Try.underlying3) enc base sp held m _ y1 h1
  have e1 : (cs.drop 1).take 1 = (kI .i64).enc b1 := (congrArg (fun n => (cs.drop 1).take n) c1).symm.trans e1
  obtain ⟨y2, h2⟩ := hf 2 _ rfl
  have c2 : Try.prog.cellsOf 22 = 1 := by kernel_rfl
  obtain ⟨b2, e2, o2⟩ := (opn_int Try.underlying22) enc base sp held m _ y2 h2
  have e2 : (cs.drop 2).take 1 = (kI .u64).enc b2 := (congrArg (fun n => (cs.drop 2).take n) c2).symm.trans e2
  obtain ⟨y3, h3⟩ := hf 3 _ rfl
  have c3 : Try.prog.cellsOf 25 = 1 := by kernel_rfl
  obtain ⟨b3, W3, e3, r3, o3, l3, _⟩ := (opn_slice (K := (kI .i64)) Try.underlying25 (by kernel_rfl) (by decide) (opn_int Try.underlying3)) enc base sp held m _ y3 h3
  have e3 : (cs.drop 3).take 1 = [W3] := (congrArg (fun n => (cs.drop 3).take n) c3).symm.trans e3
  have hn : cs.drop 4 = [] := List.drop_eq_nil_of_le (by rw [hl]; exact Nat.le_of_eq (by kernel_rfl))
  have hc : cs = (kI .i64).enc b0 ++ ((kI .i64).enc b1 ++ ((kI .u64).enc b2 ++ ([W3] ++ []))) := (fld_cons (o := 0) (n := 1) e0 (fld_cons (o := 1) (n := 1) e1 (fld_cons (o := 2) (n := 1) e2 (fld_cons (o := 3) (n := 1) e3 hn))))
  refine ⟨⟨b0, b1, b2, b3⟩, W3, r3, ?_, o0, o1, o2, ⟨o3, l3⟩⟩
  rw [hc]
  simp [kA, kI, kB, kS, kT, cellsOf, Seg.cell, Kd.seg]
def ok_rickyardlaw15_Act (a : S_rickyardlaw15_Act) : Prop := (Lit.int .i64 a.Kind).wf = true ∧ (Lit.int .i64 a.At).wf = true ∧ (Lit.int .i64 a.I).wf = true ∧ ((∀ x ∈ a.B, (Lit.int .u8 x).wf = true) ∧ List.length a.B ≤ maxLen) ∧ ok_rickyardlaw05_Act a.A
theorem opn_rickyardlaw15_Act {w : World} {H : Type} (enc : TypeId × Value → H) (base : Nat) (sp : Nat → Bool) (held : Bool) (fuel : Nat) (cs : List Value) (x : DataW H × List MemPlace) (h : DataW.trod enc Try.prog w base sp held fuel 85 cs = some x) : ∃ a : S_rickyardlaw15_Act, ∃ V0 : Value, ∃ V1 : Value, ∃ R0 : Rd (kI .u8) w V0 a.B, ∃ R1 : Rd (kI .i64) w V1 a.A.L, cs = cellsOf [Seg.cell (.int .i64 a.Kind), Seg.cell (.int .i64 a.At), Seg.cell (.int .i64 a.I), Seg.cell V0 R0.one, Seg.cell (.int .i64 a.A.Kind), Seg.cell (.int .i64 a.A.At), Seg.cell (.int .u64 a.A.W), Seg.cell V1 R1.one] ∧ ok_rickyardlaw15_Act a := by
  obtain ⟨hl, m, hf⟩ := trod_st Try.underlying85 h
  obtain ⟨y0, h0⟩ := hf 0 _ rfl
  have c0 : Try.prog.cellsOf 3 = 1 := by kernel_rfl
  obtain ⟨b0, e0, o0⟩ := (opn_int Try.underlying3) enc base sp held m _ y0 h0
  have e0 : (cs.drop 0).take 1 = (kI .i64).enc b0 := (congrArg (fun n => (cs.drop 0).take n) c0).symm.trans e0
  obtain ⟨y1, h1⟩ := hf 1 _ rfl
  have c1 : Try.prog.cellsOf 3 = 1 := by kernel_rfl
  obtain ⟨b1, e1, o1⟩ := (opn_int Try.underlying3) enc base sp held m _ y1 h1
  have e1 : (cs.drop 1).take 1 = (kI .i64).enc b1 := (congrArg (fun n => (cs.drop 1).take n) c1).symm.trans e1
  obtain ⟨y2, h2⟩ := hf 2 _ rfl
  have c2 : Try.prog.cellsOf 3 = 1 := by kernel_rfl
  obtain ⟨b2, e2, o2⟩ := (opn_int Try.underlying3) enc base sp held m _ y2 h2
  have e2 : (cs.drop 2).take 1 = (kI .i64).enc b2 := (congrArg (fun n => (cs.drop 2).take n) c2).symm.trans e2
  obtain ⟨y3, h3⟩ := hf 3 _ rfl
  have c3 : Try.prog.cellsOf 43 = 1 := by kernel_rfl
  obtain ⟨b3, W3, e3, r3, o3, l3, _⟩ := (opn_slice (K := (kI .u8)) Try.underlying43 (by kernel_rfl) (by decide) (opn_int Try.underlying5)) enc base sp held m _ y3 h3
  have e3 : (cs.drop 3).take 1 = [W3] := (congrArg (fun n => (cs.drop 3).take n) c3).symm.trans e3
  obtain ⟨y4, h4⟩ := hf 4 _ rfl
  have c4 : Try.prog.cellsOf 39 = 4 := by kernel_rfl
  obtain ⟨b4, W4_0, r4_0, e4, o4⟩ := opn_rickyardlaw05_Act enc base sp held m _ y4 h4
  have e4 : (cs.drop 4).take 4 = cellsOf [Seg.cell (.int .i64 b4.Kind), Seg.cell (.int .i64 b4.At), Seg.cell (.int .u64 b4.W), Seg.cell W4_0 r4_0.one] := (congrArg (fun n => (cs.drop 4).take n) c4).symm.trans e4
  have hn : cs.drop 8 = [] := List.drop_eq_nil_of_le (by rw [hl]; exact Nat.le_of_eq (by kernel_rfl))
  have hc : cs = (kI .i64).enc b0 ++ ((kI .i64).enc b1 ++ ((kI .i64).enc b2 ++ ([W3] ++ (cellsOf [Seg.cell (.int .i64 b4.Kind), Seg.cell (.int .i64 b4.At), Seg.cell (.int .u64 b4.W), Seg.cell W4_0 r4_0.one] ++ [])))) := (fld_cons (o := 0) (n := 1) e0 (fld_cons (o := 1) (n := 1) e1 (fld_cons (o := 2) (n := 1) e2 (fld_cons (o := 3) (n := 1) e3 (fld_cons (o := 4) (n := 4) e4 hn)))))
  refine ⟨⟨b0, b1, b2, b3, b4⟩, W3, W4_0, r3, r4_0, ?_, o0, o1, o2, ⟨o3, l3⟩, o4⟩
  rw [hc]
  simp [kA, kI, kB, kS, kT, cellsOf, Seg.cell, Kd.seg, k_api_Fate, segs_api_Fate]
end Go.Proofs.Ytklhbaghbmndeaa
namespace Go.Proofs.Ytklhbaghbmndeaa.Pure
open Go Go.Xw
/-- Of the places from `lo` on the first `j`, each turned by `g`. -/
def upd {α : Type} (g : Nat → α → α) (lo j : Nat) (cs : List α) : List α := cs.mapIdx fun i c => if lo ≤ i ∧ i < lo + j then g i c else c
theorem upd_len {α : Type} (g : Nat → α → α) (lo j : Nat) (cs : List α) : (upd g lo j cs).length = cs.length := by simp [upd]
theorem upd_zero {α : Type} (g : Nat → α → α) (lo : Nat) (cs : List α) : upd g lo 0 cs = cs := by
  apply List.ext_getElem (by simp [upd])
  intro i h1 h2
  simp only [upd, List.getElem_mapIdx]
  rw [if_neg (by omega)]
theorem upd_get {α : Type} (g : Nat → α → α) (lo j : Nat) (cs : List α) (i : Nat) (h : i < (upd g lo j cs).length) : (upd g lo j cs)[i] = if lo ≤ i ∧ i < lo + j then g i (cs[i]'(by simpa [upd] using h)) else cs[i]'(by simpa [upd] using h) := by
  simp only [upd, List.getElem_mapIdx]
theorem upd_next {α : Type} (g : Nat → α → α) (lo j : Nat) (cs : List α) (h : lo + j < cs.length) : (upd g lo j cs)[lo + j]'(by rw [upd_len]; exact h) = cs[lo + j] := by
  rw [upd_get, if_neg (by omega)]
theorem upd_set {α : Type} (g : Nat → α → α) (lo j : Nat) (cs : List α) (h : lo + j < cs.length) : (upd g lo j cs).set (lo + j) (g (lo + j) cs[lo + j]) = upd g lo (j + 1) cs := by
  apply List.ext_getElem (by simp [upd])
  intro i h1 h2
  rw [List.getElem_set, upd_get g lo (j + 1)]
  by_cases e : lo + j = i
  · subst e
    rw [if_pos rfl, if_pos (by omega)]
  · rw [if_neg e, upd_get]
    by_cases c : lo ≤ i ∧ i < lo + j
    · rw [if_pos c, if_pos (by omega)]
    · rw [if_neg c, if_neg (by omega)]
theorem upd_same {α : Type} (g : Nat → α → α) (lo j : Nat) (cs : List α) (h : lo + j < cs.length) (e : g (lo + j) cs[lo + j] = cs[lo + j]) : upd g lo j cs = upd g lo (j + 1) cs := by
  apply List.ext_getElem (by simp [upd])
  intro i h1 h2
  rw [upd_get g lo j, upd_get g lo (j + 1)]
  by_cases e' : lo + j = i
  · subst e'
    rw [if_neg (by omega), if_pos (by omega), e]
  · by_cases c : lo ≤ i ∧ i < lo + j
    · rw [if_pos c, if_pos (by omega)]
    · rw [if_neg c, if_neg (by omega)]
theorem upd_all {α : Type} (g : Nat → α → α) (cs : List α) : upd g 0 cs.length cs = cs.mapIdx g := by
  apply List.ext_getElem (by simp [upd])
  intro i h1 h2
  rw [upd_get, if_pos ⟨by omega, by rw [upd_len] at h1; omega⟩, List.getElem_mapIdx]
theorem getD_set {α : Type} (cs : List α) (i k : Nat) (v d : α) (hi : i < cs.length) : (cs.set i v).getD k d = if i = k then v else cs.getD k d := by
  simp only [List.getD_eq_getElem?_getD, List.getElem?_set]
  by_cases h : i = k
  · subst h
    simp [hi]
  · simp [h]
theorem getD_of {α : Type} (cs : List α) (i : Nat) (d : α) (hi : i < cs.length) : cs.getD i d = cs[i] := by
  simp [List.getD_eq_getElem?_getD, List.getElem?_eq_getElem hi]
end Go.Proofs.Ytklhbaghbmndeaa.Pure
namespace Go.Proofs.Ytklhbaghbmndeaa
open Go Go.Xw
end Go.Proofs.Ytklhbaghbmndeaa
namespace Go.Proofs.Ytklhbaghbmndeaa.Pure
open Go Go.Xw
def Bytes (l : List Int) : Prop := ∀ x ∈ l, 0 ≤ x ∧ x ≤ 255
theorem ix_nat {α : Type} [Inhabited α] {l : List α} {j : Nat} (h : j < l.length) : ix l (j : Int) = l[j] := by
  simp [ix, List.getD_eq_getElem?_getD, List.getElem?_eq_getElem h]
theorem take_next {α : Type} {l : List α} {j : Nat} (h : j < l.length) : l.take (j + 1) = l.take j ++ [l[j]] := by
  rw [List.take_add_one, List.getElem?_eq_getElem h]
  rfl
end Go.Proofs.Ytklhbaghbmndeaa.Pure
namespace Go.Proofs.Ytklhbaghbmndeaa
open Go Go.Xw
end Go.Proofs.Ytklhbaghbmndeaa
