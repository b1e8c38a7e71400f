/- PmemPlans: texts merged, part 4 of 5. The last part proves that the law PmemPlans holds for every input. -/
import Derived.Test.YtklhbaghbmndeaaPkPmemPlans3
import Derived.ProofKit
import Derived.OpenShut
import Derived.ChangeOld
import Derived.Below
import Derived.SizedLaws
import Derived.WalkKit
/- rickyard/rickyardlaw05.PmemPlans: its model, and that the Go function computes it: written by gen.py. -/
set_option linter.unusedVariables false
namespace Go.Proofs.Ytklhbaghbmndeaa
open Go Go.Xw
def rickyardlaw05_PmemPlans.s0 (fu : Nat) (a1 : List S_rickyardlaw05_Act) : (Int × (List S_pmem_cell) × (List Int) × Int × Bool × Bool × Int × Int × (List S_pmem_cell) × (List Int) × Int × Bool × Bool × Int × Int) → Option (Sum (Sum Bool ((List S_pmem_cell) × (List Int) × Int × Bool × Bool × Int × Int × (List S_pmem_cell) × (List Int) × Int × Bool × Bool × Int × Int)) (Int × (List S_pmem_cell) × (List Int) × Int × Bool × Bool × Int × Int × (List S_pmem_cell) × (List Int) × Int × Bool × Bool × Int × Int)) := fun s100 => (if (decide (s100.1 < (List.length a1 : Int))) = true then (if 0 ≤ s100.1 ∧ s100.1 < (List.length a1 : Int) then ((rickyardref01_Rest.f fu ((ix a1 s100.1).Kind) 7 : Option Int).bind fun t136 => (if (if (decide (t136 = 5)) = true then true else (decide (t136 = 6))) = true then some (Sum.inr ((IntKind.i64.wrap (s100.1 + 1)), s100.2.1, s100.2.2.1, s100.2.2.2.1, s100.2.2.2.2.1, s100.2.2.2.2.2.1, s100.2.2.2.2.2.2.1, s100.2.2.2.2.2.2.2.1, s100.2.2.2.2.2.2.2.2.1, s100.2.2.2.2.2.2.2.2.2.1, s100.2.2.2.2.2.2.2.2.2.2.1, s100.2.2.2.2.2.2.2.2.2.2.2.1, s100.2.2.2.2.2.2.2.2.2.2.2.2.1, s100.2.2.2.2.2.2.2.2.2.2.2.2.2.1, s100.2.2.2.2.2.2.2.2.2.2.2.2.2.2)) else (if 0 ≤ s100.1 ∧ s100.1 < (List.length a1 : Int) then ((rickyardlaw05_Do.f fu (⟨s100.2.1, (⟨s100.2.2.1, s100.2.2.2.1⟩ : S_pmem_plan), s100.2.2.2.2.1, s100.2.2.2.2.2.1, s100.2.2.2.2.2.2.1, s100.2.2.2.2.2.2.2.1⟩ : S_pmem_Device) (ix a1 s100.1) : Option (Int × Int × S_pmem_Device)).bind fun t144 => (if 0 ≤ s100.1 ∧ s100.1 < (List.length a1 : Int) then ((rickyardlaw05_Do.f fu (⟨s100.2.2.2.2.2.2.2.2.1, (⟨s100.2.2.2.2.2.2.2.2.2.1, s100.2.2.2.2.2.2.2.2.2.2.1⟩ : S_pmem_plan), s100.2.2.2.2.2.2.2.2.2.2.2.1, s100.2.2.2.2.2.2.2.2.2.2.2.2.1, s100.2.2.2.2.2.2.2.2.2.2.2.2.2.1, s100.2.2.2.2.2.2.2.2.2.2.2.2.2.2⟩ : S_pmem_Device) (ix a1 s100.1) : Option (Int × Int × S_pmem_Device)).bind fun t163 => (((if (!decide (t144.1 = t163.1)) = true then some (true) else (if (!decide (t144.2.1 = t163.2.1)) = true then some (true) else ((pmem_Device_View.f fu t144.2.2 : Option (List Int)).bind fun t191 => ((pmem_Device_View.f fu t163.2.2 : Option (List Int)).bind fun t197 => (if (!decide ((List.map toB t191) = (List.map toB t197))) = true then some (true) else ((pmem_Device_Steps.f fu t144.2.2 : Option Int).bind fun t213 => ((pmem_Device_Steps.f fu t163.2.2 : Option Int).bind fun t216 => some ((!decide (t213 = t216)))))))))) : Option Bool).bind fun x181 => (if x181 = true then some (Sum.inl (Sum.inl (false))) else some (Sum.inr ((IntKind.i64.wrap (s100.1 + 1)), t144.2.2.cells, t144.2.2.plan.list, t144.2.2.plan.at_, t144.2.2.off, t144.2.2.armed, t144.2.2.left, t144.2.2.steps, t163.2.2.cells, t163.2.2.plan.list, t163.2.2.plan.at_, t163.2.2.off, t163.2.2.armed, t163.2.2.left, t163.2.2.steps))))) else none)) else none))) else none) else some (Sum.inl (Sum.inr (s100.2.1, s100.2.2.1, s100.2.2.2.1, s100.2.2.2.2.1, s100.2.2.2.2.2.1, s100.2.2.2.2.2.2.1, s100.2.2.2.2.2.2.2.1, s100.2.2.2.2.2.2.2.2.1, s100.2.2.2.2.2.2.2.2.2.1, s100.2.2.2.2.2.2.2.2.2.2.1, s100.2.2.2.2.2.2.2.2.2.2.2.1, s100.2.2.2.2.2.2.2.2.2.2.2.2.1, s100.2.2.2.2.2.2.2.2.2.2.2.2.2.1, s100.2.2.2.2.2.2.2.2.2.2.2.2.2.2))))
def rickyardlaw05_PmemPlans.f (fu : Nat) (a0 : List Int) (a1 : List S_rickyardlaw05_Act) : Option Bool := ((((rickyardlaw05_awake.f fu : Option Bool).bind fun t3 => (if (!t3) = true then some (true) else ((rickyardlaw05_Small.f fu a1 40 : Option Bool).bind fun t8 => (if (!t8) = true then some (true) else some ((decide ((List.length a0 : Int) > 40))))))) : Option Bool).bind fun x1 => (if x1 = true then ((rickyardlaw05_awake.f fu : Option Bool).bind fun t17 => some (t17)) else ((pmem_New.f fu 3 : Option ((Option S_pmem_Device) × Int)).bind fun t21 => (Option.elim t21.1 ((pmem_New.f fu 3 : Option ((Option S_pmem_Device) × Int)).bind fun t29 => (Option.elim t29.1 (some (false)) (fun m36 => some (false)))) (fun m28 => ((pmem_New.f fu 3 : Option ((Option S_pmem_Device) × Int)).bind fun t59 => (Option.elim t59.1 (some (false)) (fun m66 => ((pmem_Device_Plan.f fu m28 a0 : Option S_pmem_Device).bind fun t82 => ((loopM (rickyardlaw05_PmemPlans.s0 fu a1) fu (0, t82.cells, t82.plan.list, t82.plan.at_, t82.off, t82.armed, t82.left, t82.steps, m66.cells, m66.plan.list, m66.plan.at_, m66.off, m66.armed, m66.left, m66.steps)).bind fun e101 => match e101 with | Sum.inl p => some p | Sum.inr x104 => ((pmem_Device_Steps.f fu (⟨x104.1, (⟨x104.2.1, x104.2.2.1⟩ : S_pmem_plan), x104.2.2.2.1, x104.2.2.2.2.1, x104.2.2.2.2.2.1, x104.2.2.2.2.2.2.1⟩ : S_pmem_Device) : Option Int).bind fun t234 => (((if (decide (t234 > 0)) = true then (if (decide ((List.length a0 : Int) > 0)) = true then (if (List.length a0 : Int) ≠ 0 then (if 0 ≤ (Int.tmod (IntKind.i64.wrap (t234 - 1)) (List.length a0 : Int)) ∧ (Int.tmod (IntKind.i64.wrap (t234 - 1)) (List.length a0 : Int)) < (List.length a0 : Int) then some ((decide ((ix a0 (Int.tmod (IntKind.i64.wrap (t234 - 1)) (List.length a0 : Int))) ≥ 0))) else none) else none) else some (false)) else some (false)) : Option Bool).bind fun x238 => (if x238 = true then (if (List.length a0 : Int) ≠ 0 then (if 0 ≤ (Int.tmod (IntKind.i64.wrap (t234 - 1)) (List.length a0 : Int)) ∧ (Int.tmod (IntKind.i64.wrap (t234 - 1)) (List.length a0 : Int)) < (List.length a0 : Int) then ((pmem_Device_Image.f fu (⟨x104.1, (⟨x104.2.1, x104.2.2.1⟩ : S_pmem_plan), x104.2.2.2.1, x104.2.2.2.2.1, x104.2.2.2.2.2.1, x104.2.2.2.2.2.2.1⟩ : S_pmem_Device) : Option (List Int)).bind fun t248 => ((pmem_Device_View.f fu (⟨x104.1, (⟨x104.2.1, x104.2.2.1⟩ : S_pmem_plan), x104.2.2.2.1, x104.2.2.2.2.1, x104.2.2.2.2.2.1, x104.2.2.2.2.2.2.1⟩ : S_pmem_Device) : Option (List Int)).bind fun t255 => (((if (decide ((List.length t248 : Int) = 192)) = true then (if (decide ((List.length t255 : Int) = 192)) = true then (if (0 : Int) ≤ (IntKind.i64.wrap (8 * (Int.tmod (ix a0 (Int.tmod (IntKind.i64.wrap (t234 - 1)) (List.length a0 : Int))) 24))) ∧ (IntKind.i64.wrap (8 * (Int.tmod (ix a0 (Int.tmod (IntKind.i64.wrap (t234 - 1)) (List.length a0 : Int))) 24))) ≤ (IntKind.i64.wrap ((IntKind.i64.wrap (8 * (Int.tmod (ix a0 (Int.tmod (IntKind.i64.wrap (t234 - 1)) (List.length a0 : Int))) 24))) + 8)) ∧ (IntKind.i64.wrap ((IntKind.i64.wrap (8 * (Int.tmod (ix a0 (Int.tmod (IntKind.i64.wrap (t234 - 1)) (List.length a0 : Int))) 24))) + 8)) ≤ (List.length t248 : Int) then (if (0 : Int) ≤ (IntKind.i64.wrap (8 * (Int.tmod (ix a0 (Int.tmod (IntKind.i64.wrap (t234 - 1)) (List.length a0 : Int))) 24))) ∧ (IntKind.i64.wrap (8 * (Int.tmod (ix a0 (Int.tmod (IntKind.i64.wrap (t234 - 1)) (List.length a0 : Int))) 24))) ≤ (IntKind.i64.wrap ((IntKind.i64.wrap (8 * (Int.tmod (ix a0 (Int.tmod (IntKind.i64.wrap (t234 - 1)) (List.length a0 : Int))) 24))) + 8)) ∧ (IntKind.i64.wrap ((IntKind.i64.wrap (8 * (Int.tmod (ix a0 (Int.tmod (IntKind.i64.wrap (t234 - 1)) (List.length a0 : Int))) 24))) + 8)) ≤ (List.length t255 : Int) then some ((decide ((List.map toB (cut t248 (IntKind.i64.wrap (8 * (Int.tmod (ix a0 (Int.tmod (IntKind.i64.wrap (t234 - 1)) (List.length a0 : Int))) 24))) (IntKind.i64.wrap ((IntKind.i64.wrap (8 * (Int.tmod (ix a0 (Int.tmod (IntKind.i64.wrap (t234 - 1)) (List.length a0 : Int))) 24))) + 8)))) = (List.map toB (cut t255 (IntKind.i64.wrap (8 * (Int.tmod (ix a0 (Int.tmod (IntKind.i64.wrap (t234 - 1)) (List.length a0 : Int))) 24))) (IntKind.i64.wrap ((IntKind.i64.wrap (8 * (Int.tmod (ix a0 (Int.tmod (IntKind.i64.wrap (t234 - 1)) (List.length a0 : Int))) 24))) + 8))))))) else none) else none) else some (false)) else some (false)) : Option Bool).bind fun x263 => some (x263)))) else none) else none) else some (true))))))))))))))
set_option maxRecDepth 100000 in
set_option maxHeartbeats 400000 in
theorem rickyardlaw05_PmemPlans.ok (fu : Nat) (w : World) (a0 : List Int) (V0_0 : Value) (R0_0 : Rd (kI .i64) w V0_0 a0) (a1 : List S_rickyardlaw05_Act) (V1_0 : Value) (R1_0 : RdN 4 D_rickyardlaw05_Act w V1_0 a1) (r : Bool) (h : rickyardlaw05_PmemPlans.f fu a0 a1 = some r) :
    Calls Try.prog 4 (([V0_0, V1_0] : List Value).toArray) w (fun e w' => ∃ v, e = .returned v ∧ v = .bool r ∧ Gr w w') := by
  unfold rickyardlaw05_PmemPlans.f at h
  have fB : Gr w w := Fr.refl _ _
  refine calls_cw Try.func4 rfl Try.ntmps4 rfl ?_
  refine cw_seq ?_
  refine cw_region ?_
  refine ol_val (v := .bool false) (by exact xr_assign rfl rfl) rfl rfl rfl ?_
  refine ol_nil ?_
  refine cw_seq ?_
  refine cw_seq ?_
  obtain ⟨x1, j2, h⟩ := bs h
  refine cw_mid (fun ρ' w' => ρ' 0 = V0_0 ∧ ρ' 1 = V1_0 ∧ ρ' 30 = .bool x1 ∧ Gr w w') ?_ ?_
  · skip
    refine cw_region ?_
    obtain ⟨t3, k4, j2⟩ := bs j2
    refine ol_op (by exact opv_call rfl cal24 an (rickyardlaw05_awake.ok fu _ _ k4)) rfl rfl rfl ?_
    rintro _ w6 ⟨rfl, q5⟩
    have fB := fB.gr q5
    refine ol_val (v := .bool (!t3)) (by exact xr_not rfl rfl) rfl rfl rfl ?_
    refine ol_val (v := .bool (!t3)) (by exact xr_move rfl rfl) rfl rfl rfl ?_
    rcases is j2 with ⟨c7, j2⟩ | ⟨c7, j2⟩
    · skip
      refine ol_gskip rfl rfl rfl rfl rfl c7 ?_
      refine ol_gskip rfl rfl rfl rfl rfl c7 ?_
      refine ol_gskip rfl rfl rfl rfl rfl c7 ?_
      refine ol_val (v := .bool true) (by exact xr_pickT rfl rfl c7 rfl) rfl rfl rfl ?_
      refine ol_val (v := .bool true) (by exact xr_move rfl rfl) rfl rfl rfl ?_
      refine ol_gskip rfl rfl rfl rfl rfl rfl ?_
      refine ol_gskip rfl rfl rfl rfl rfl rfl ?_
      refine ol_gskip rfl rfl rfl rfl rfl rfl ?_
      refine ol_val (v := .bool true) (by exact xr_pickT rfl rfl rfl rfl) rfl rfl rfl ?_
      refine ol_nil ?_
      obtain rfl := Option.some.inj j2
      refine thn_i ?_
      exact ⟨rfl, rfl, rfl, q5⟩
    · skip
      refine ol_gval (v := V1_0) (by exact xr_move rfl rfl) rfl rfl rfl rfl rfl c7 ?_
      obtain ⟨t8, k9, j2⟩ := bs j2
      refine ol_gop (by exact opv_call rfl cal25 (ac rfl (ac rfl an)) (rickyardlaw05_Small.ok fu _ a1 V1_0 (RdN.gr R1_0 D_rickyardlaw05_Act.gr fB) 40 _ k9)) rfl rfl rfl rfl rfl c7 ?_
      rintro _ w11 ⟨rfl, q10⟩
      have fB := fB.gr q10
      refine ol_gval (v := .bool (!t8)) (by exact xr_not rfl rfl) rfl rfl rfl rfl rfl c7 ?_
      refine ol_val (v := .bool (!t8)) (by exact xr_pickF rfl rfl c7 rfl) rfl rfl rfl ?_
      refine ol_val (v := .bool (!t8)) (by exact xr_move rfl rfl) rfl rfl rfl ?_
      rcases is j2 with ⟨c12, j2⟩ | ⟨c12, j2⟩
      · skip
        refine ol_gskip rfl rfl rfl rfl rfl c12 ?_
        refine ol_gskip rfl rfl rfl rfl rfl c12 ?_
        refine ol_gskip rfl rfl rfl rfl rfl c12 ?_
        refine ol_val (v := .bool true) (by exact xr_pickT rfl rfl c12 rfl) rfl rfl rfl ?_
        refine ol_nil ?_
        obtain rfl := Option.some.inj j2
        refine thn_i ?_
        exact ⟨rfl, rfl, rfl, (q5.gr q10)⟩
      · skip
        refine ol_gval (v := V0_0) (by exact xr_move rfl rfl) rfl rfl rfl rfl rfl c12 ?_
        refine ol_gval (v := .int .i64 (List.length a0 : Int)) (by exact xr_lenR rfl Try.underlying25 rfl (R0_0.gr fB)) rfl rfl rfl rfl rfl c12 ?_
        refine ol_gval (v := .bool (decide ((List.length a0 : Int) > 40))) (by exact xr_gtr rfl rfl rfl) rfl rfl rfl rfl rfl c12 ?_
        refine ol_val (v := .bool (decide ((List.length a0 : Int) > 40))) (by exact xr_pickF rfl rfl c12 rfl) rfl rfl rfl ?_
        refine ol_nil ?_
        obtain rfl := Option.some.inj j2
        refine thn_i ?_
        exact ⟨rfl, rfl, rfl, (q5.gr q10)⟩
  · skip
    rintro ρ13 w14 ⟨e0, e1, e30, q15⟩
    have fB := fB.gr q15
    rcases is h with ⟨c16, h⟩ | ⟨c16, h⟩
    · refine cw_condT e30 c16 ?_
      refine cw_seq ?_
      refine cw_region ?_
      obtain ⟨t17, k18, h⟩ := bs h
      refine ol_op (by exact opv_call rfl cal24 an (rickyardlaw05_awake.ok fu _ _ k18)) rfl rfl rfl ?_
      rintro _ w20 ⟨rfl, q19⟩
      have fB := fB.gr q19
      refine ol_val (v := .bool t17) (by exact xr_assign rfl rfl) rfl rfl rfl ?_
      refine ol_nil ?_
      refine cw_ret ?_
      repeat (first | with_reducible refine thn_r ?_ | with_reducible refine blk_r ?_)
      obtain rfl := Option.some.inj h
      refine fin_ret1 Try.results4 rfl ?_
      exact ⟨_, rfl, rfl, fB⟩
    · refine cw_condF e30 c16 ?_
      refine cw_skip ?_
      refine cw_seq ?_
      refine cw_region ?_
      obtain ⟨t21, k22, h⟩ := bs h
      refine ol_op (by exact opv_call rfl cal26 (ac rfl an) (pmem_New.ok fu _ 3 _ k22)) rfl rfl rfl ?_
      rintro _ w26 ⟨u23, p24, rfl, q25⟩
      rcases en h with ⟨e27, h⟩ | ⟨m28, e27, h⟩
      · obtain rfl := p24.1 e27
        have fB := fB.gr q25
        refine ol_val (v := .tuple #[.pointer none, .int .i64 t21.2]) (by exact xr_move rfl rfl) rfl rfl rfl ?_
        refine ol_val (v := .pointer none) (by exact xr_extract rfl rfl rfl) rfl rfl rfl ?_
        refine ol_val (v := .int .i64 t21.2) (by exact xr_extract rfl rfl rfl) rfl rfl rfl ?_
        refine ol_val (v := .pointer none) (by exact xr_assign rfl rfl) rfl rfl rfl ?_
        refine ol_val (v := .int .i64 t21.2) (by exact xr_assign rfl rfl) rfl rfl rfl ?_
        refine ol_nil ?_
        refine cw_seq ?_
        refine cw_region ?_
        obtain ⟨t29, k30, h⟩ := bs h
        refine ol_op (by exact opv_call rfl cal26 (ac rfl an) (pmem_New.ok fu _ 3 _ k30)) rfl rfl rfl ?_
        rintro _ w34 ⟨u31, p32, rfl, q33⟩
        rcases en h with ⟨e35, h⟩ | ⟨m36, e35, h⟩
        · obtain rfl := p32.1 e35
          have fB := fB.gr q33
          refine ol_val (v := .tuple #[.pointer none, .int .i64 t29.2]) (by exact xr_move rfl rfl) rfl rfl rfl ?_
          refine ol_val (v := .pointer none) (by exact xr_extract rfl rfl rfl) rfl rfl rfl ?_
          refine ol_val (v := .int .i64 t29.2) (by exact xr_extract rfl rfl rfl) rfl rfl rfl ?_
          refine ol_val (v := .pointer none) (by exact xr_assign rfl rfl) rfl rfl rfl ?_
          refine ol_val (v := .int .i64 t29.2) (by exact xr_assign rfl rfl) rfl rfl rfl ?_
          refine ol_nil ?_
          refine cw_seq ?_
          refine cw_seq ?_
          refine cw_mid (fun ρ' w' => ρ' 0 = V0_0 ∧ ρ' 1 = V1_0 ∧ ρ' 5 = .pointer none ∧ ρ' 7 = .pointer none ∧ ρ' 45 = .bool true ∧ w34 = w') ?_ ?_
          · skip
            refine cw_region ?_
            refine ol_val (v := .pointer none) (by exact xr_move rfl rfl) rfl rfl rfl ?_
            refine ol_val (v := .bool true) (by exact xr_eqP (b := true) rfl Try.underlying30 rfl rfl (by simp) (by simp)) rfl rfl rfl ?_
            refine ol_val (v := .bool true) (by exact xr_move rfl rfl) rfl rfl rfl ?_
            refine ol_gskip rfl rfl rfl rfl rfl rfl ?_
            refine ol_gskip rfl rfl rfl rfl rfl rfl ?_
            refine ol_val (v := .bool true) (by exact xr_pickT rfl rfl rfl rfl) rfl rfl rfl ?_
            refine ol_nil ?_
            refine thn_i ?_
            exact ⟨e0, e1, rfl, rfl, rfl, rfl⟩
          · skip
            rintro ρ37 _ ⟨e0, e1, e5, e7, e45, rfl⟩
            refine cw_condT e45 rfl ?_
            refine cw_seq ?_
            refine cw_region ?_
            refine ol_val (v := .bool false) (by exact xr_assign rfl rfl) rfl rfl rfl ?_
            refine ol_nil ?_
            refine cw_ret ?_
            repeat (first | with_reducible refine thn_r ?_ | with_reducible refine blk_r ?_)
            obtain rfl := Option.some.inj h
            refine fin_ret1 Try.results4 rfl ?_
            exact ⟨_, rfl, rfl, fB⟩
        · skip
          obtain ⟨G38, u42, u45, o43, o46, rfl, z39, b40⟩ := p32.2 _ e35
          have o43 := Own.base o43 fB.size
          have o46 := Own.base o46 fB.size
          have z39 := Nat.le_trans fB.size z39
          have fB := fB.gr q33
          refine ol_val (v := .tuple #[.pointer (some ⟨G38, 0, none⟩), .int .i64 t29.2]) (by exact xr_move rfl rfl) rfl rfl rfl ?_
          refine ol_val (v := .pointer (some ⟨G38, 0, none⟩)) (by exact xr_extract rfl rfl rfl) rfl rfl rfl ?_
          refine ol_val (v := .int .i64 t29.2) (by exact xr_extract rfl rfl rfl) rfl rfl rfl ?_
          refine ol_val (v := .pointer (some ⟨G38, 0, none⟩)) (by exact xr_assign rfl rfl) rfl rfl rfl ?_
          refine ol_val (v := .int .i64 t29.2) (by exact xr_assign rfl rfl) rfl rfl rfl ?_
          refine ol_nil ?_
          refine cw_seq ?_
          refine cw_seq ?_
          refine cw_mid (fun ρ' w' => ρ' 0 = V0_0 ∧ ρ' 1 = V1_0 ∧ ρ' 5 = .pointer none ∧ ρ' 7 = .pointer (some ⟨G38, 0, none⟩) ∧ ρ' 45 = .bool true ∧ w34 = w') ?_ ?_
          · skip
            refine cw_region ?_
            refine ol_val (v := .pointer none) (by exact xr_move rfl rfl) rfl rfl rfl ?_
            refine ol_val (v := .bool true) (by exact xr_eqP (b := true) rfl Try.underlying30 rfl rfl (by simp) (by simp)) rfl rfl rfl ?_
            refine ol_val (v := .bool true) (by exact xr_move rfl rfl) rfl rfl rfl ?_
            refine ol_gskip rfl rfl rfl rfl rfl rfl ?_
            refine ol_gskip rfl rfl rfl rfl rfl rfl ?_
            refine ol_val (v := .bool true) (by exact xr_pickT rfl rfl rfl rfl) rfl rfl rfl ?_
            refine ol_nil ?_
            refine thn_i ?_
            exact ⟨e0, e1, rfl, rfl, rfl, rfl⟩
          · skip
            rintro ρ48 _ ⟨e0, e1, e5, e7, e45, rfl⟩
            refine cw_condT e45 rfl ?_
            refine cw_seq ?_
            refine cw_region ?_
            refine ol_val (v := .bool false) (by exact xr_assign rfl rfl) rfl rfl rfl ?_
            refine ol_nil ?_
            refine cw_ret ?_
            repeat (first | with_reducible refine thn_r ?_ | with_reducible refine blk_r ?_)
            obtain rfl := Option.some.inj h
            refine fin_ret1 Try.results4 rfl ?_
            exact ⟨_, rfl, rfl, fB⟩
      · skip
        obtain ⟨G49, u53, u56, o54, o57, rfl, z50, b51⟩ := p24.2 _ e27
        have o54 := Own.base o54 fB.size
        have o57 := Own.base o57 fB.size
        have z50 := Nat.le_trans fB.size z50
        have fB := fB.gr q25
        refine ol_val (v := .tuple #[.pointer (some ⟨G49, 0, none⟩), .int .i64 t21.2]) (by exact xr_move rfl rfl) rfl rfl rfl ?_
        refine ol_val (v := .pointer (some ⟨G49, 0, none⟩)) (by exact xr_extract rfl rfl rfl) rfl rfl rfl ?_
        refine ol_val (v := .int .i64 t21.2) (by exact xr_extract rfl rfl rfl) rfl rfl rfl ?_
        refine ol_val (v := .pointer (some ⟨G49, 0, none⟩)) (by exact xr_assign rfl rfl) rfl rfl rfl ?_
        refine ol_val (v := .int .i64 t21.2) (by exact xr_assign rfl rfl) rfl rfl rfl ?_
        refine ol_nil ?_
        refine cw_seq ?_
        refine cw_region ?_
        obtain ⟨t59, k60, h⟩ := bs h
        refine ol_op (by exact opv_call rfl cal26 (ac rfl an) (pmem_New.ok fu _ 3 _ k60)) rfl rfl rfl ?_
        rintro _ w64 ⟨u61, p62, rfl, q63⟩
        rcases en h with ⟨e65, h⟩ | ⟨m66, e65, h⟩
        · obtain rfl := p62.1 e65
          have b51 := b51.gr q63
          have o54 := o54.gr q63
          have o57 := o57.gr q63
          have fB := fB.gr q63
          refine ol_val (v := .tuple #[.pointer none, .int .i64 t59.2]) (by exact xr_move rfl rfl) rfl rfl rfl ?_
          refine ol_val (v := .pointer none) (by exact xr_extract rfl rfl rfl) rfl rfl rfl ?_
          refine ol_val (v := .int .i64 t59.2) (by exact xr_extract rfl rfl rfl) rfl rfl rfl ?_
          refine ol_val (v := .pointer none) (by exact xr_assign rfl rfl) rfl rfl rfl ?_
          refine ol_val (v := .int .i64 t59.2) (by exact xr_assign rfl rfl) rfl rfl rfl ?_
          refine ol_nil ?_
          refine cw_seq ?_
          refine cw_seq ?_
          refine cw_mid (fun ρ' w' => ρ' 0 = V0_0 ∧ ρ' 1 = V1_0 ∧ ρ' 5 = .pointer (some ⟨G49, 0, none⟩) ∧ ρ' 7 = .pointer none ∧ ρ' 45 = .bool true ∧ w64 = w') ?_ ?_
          · skip
            refine cw_region ?_
            refine ol_val (v := .pointer (some ⟨G49, 0, none⟩)) (by exact xr_move rfl rfl) rfl rfl rfl ?_
            refine ol_val (v := .bool false) (by exact xr_eqP (b := false) rfl Try.underlying30 rfl rfl (by simp) (by simp)) rfl rfl rfl ?_
            refine ol_val (v := .bool false) (by exact xr_move rfl rfl) rfl rfl rfl ?_
            refine ol_gval (v := .pointer none) (by exact xr_move rfl rfl) rfl rfl rfl rfl rfl rfl ?_
            refine ol_gval (v := .bool true) (by exact xr_eqP (b := true) rfl Try.underlying30 rfl rfl (by simp) (by simp)) rfl rfl rfl rfl rfl rfl ?_
            refine ol_val (v := .bool true) (by exact xr_pickF rfl rfl rfl rfl) rfl rfl rfl ?_
            refine ol_nil ?_
            refine thn_i ?_
            exact ⟨e0, e1, rfl, rfl, rfl, rfl⟩
          · skip
            rintro ρ67 _ ⟨e0, e1, e5, e7, e45, rfl⟩
            refine cw_condT e45 rfl ?_
            refine cw_seq ?_
            refine cw_region ?_
            refine ol_val (v := .bool false) (by exact xr_assign rfl rfl) rfl rfl rfl ?_
            refine ol_nil ?_
            refine cw_ret ?_
            repeat (first | with_reducible refine thn_r ?_ | with_reducible refine blk_r ?_)
            obtain rfl := Option.some.inj h
            refine fin_ret1 Try.results4 rfl ?_
            exact ⟨_, rfl, rfl, fB⟩
        · skip
          obtain ⟨G68, u72, u75, o73, o76, rfl, z69, b70⟩ := p62.2 _ e65
          have a78 := OffV.call o54 o73
          have a79 := OffV.call o57 o76
          have o73 := Own.base o73 fB.size
          have o76 := Own.base o76 fB.size
          have n80 := b51.ne z69
          have z69 := Nat.le_trans fB.size z69
          have b51 := b51.gr q63
          have o54 := o54.gr q63
          have o57 := o57.gr q63
          have fB := fB.gr q63
          refine ol_val (v := .tuple #[.pointer (some ⟨G68, 0, none⟩), .int .i64 t59.2]) (by exact xr_move rfl rfl) rfl rfl rfl ?_
          refine ol_val (v := .pointer (some ⟨G68, 0, none⟩)) (by exact xr_extract rfl rfl rfl) rfl rfl rfl ?_
          refine ol_val (v := .int .i64 t59.2) (by exact xr_extract rfl rfl rfl) rfl rfl rfl ?_
          refine ol_val (v := .pointer (some ⟨G68, 0, none⟩)) (by exact xr_assign rfl rfl) rfl rfl rfl ?_
          refine ol_val (v := .int .i64 t59.2) (by exact xr_assign rfl rfl) rfl rfl rfl ?_
          refine ol_nil ?_
          refine cw_seq ?_
          refine cw_seq ?_
          refine cw_mid (fun ρ' w' => ρ' 0 = V0_0 ∧ ρ' 1 = V1_0 ∧ ρ' 5 = .pointer (some ⟨G49, 0, none⟩) ∧ ρ' 7 = .pointer (some ⟨G68, 0, none⟩) ∧ ρ' 45 = .bool false ∧ w64 = w') ?_ ?_
          · skip
            refine cw_region ?_
            refine ol_val (v := .pointer (some ⟨G49, 0, none⟩)) (by exact xr_move rfl rfl) rfl rfl rfl ?_
            refine ol_val (v := .bool false) (by exact xr_eqP (b := false) rfl Try.underlying30 rfl rfl (by simp) (by simp)) rfl rfl rfl ?_
            refine ol_val (v := .bool false) (by exact xr_move rfl rfl) rfl rfl rfl ?_
            refine ol_gval (v := .pointer (some ⟨G68, 0, none⟩)) (by exact xr_move rfl rfl) rfl rfl rfl rfl rfl rfl ?_
            refine ol_gval (v := .bool false) (by exact xr_eqP (b := false) rfl Try.underlying30 rfl rfl (by simp) (by simp)) rfl rfl rfl rfl rfl rfl ?_
            refine ol_val (v := .bool false) (by exact xr_pickF rfl rfl rfl rfl) rfl rfl rfl ?_
            refine ol_nil ?_
            refine thn_i ?_
            exact ⟨e0, e1, rfl, rfl, rfl, rfl⟩
          · skip
            rintro ρ81 _ ⟨e0, e1, e5, e7, e45, rfl⟩
            refine cw_condF e45 rfl ?_
            refine cw_skip ?_
            refine cw_seq ?_
            refine cw_region ?_
            refine ol_val (v := .pointer (some ⟨G49, 0, none⟩)) (by exact xr_move rfl e5) rfl rfl rfl ?_
            refine ol_val (v := V0_0) (by exact xr_move rfl e0) rfl rfl rfl ?_
            obtain ⟨t82, k83, h⟩ := bs h
            have f93 := (nb_or n80.symm (nb_or (nb_off (off_ty b70 o54 (by decide))) (nb_off (off_ty b70 o57 (by decide)))))
            have f94 := (vo_or (vo_eq (off_ty b51 o73 (by decide))) (vo_or (vo_own a78.symm) (vo_own (OffV.ty o73 o57 (by decide)))))
            have f95 := (vo_or (vo_eq (off_ty b51 o76 (by decide))) (vo_or (vo_own (OffV.ty o76 o54 (by decide))) (vo_own a79.symm)))
            have c96 : ∀ k, (k = G49 ∨ some k = Value.ownBlock u53 ∨ some k = Value.ownBlock u56) → w.heap.size ≤ k := (cv_or (cv_eq z50) (cv_or (cv_own o54.geO) (cv_own o57.geO)))
            refine ol_op (by exact opv_call rfl cal35 (ac rfl (ac rfl an)) (pmem_Device_Plan.ok fu _ m28 G49 u53 (Own.base o54 (Nat.zero_le _)) u56 (Own.base o57 (Nat.zero_le _)) b51 a0 V0_0 (R0_0.gr fB) (OffR.new R0_0 z50 rfl) (OffRV.call R0_0 o54 rfl) (OffRV.call R0_0 o57 rfl) _ k83)) rfl rfl rfl ?_
            rintro _ w97 ⟨u85, u89, o86, m87, o90, m91, rfl, b51, q84⟩
            have a98 := ov_new o73 f94 m87
            have a99 := ov_new o76 f95 m91
            have o86 := Own.rebase o86 (fun g hg => (m87 g hg).elim (fun x => Nat.le_trans fB.size x) (c96 g))
            have o90 := Own.rebase o90 (fun g hg => (m91 g hg).elim (fun x => Nat.le_trans fB.size x) (c96 g))
            have b70 := b70.fr q84 f93
            have o73 := o73.fr q84 f94
            have o76 := o76.fr q84 f95
            have fB := fB.call q84 (fun k h => .inl (c96 k h))
            refine ol_nil ?_
            refine cw_seq ?_
            refine cw_seq ?_
            refine cw_region ?_
            refine ol_val (v := .int .i64 0) (by exact xr_assign rfl rfl) rfl rfl rfl ?_
            refine ol_nil ?_
            obtain ⟨e101, l102, h103⟩ := bs h
            refine cw_mid (fun ρ' w' => ∃ x104, e101 = Sum.inr x104 ∧ ∃ v105 : Value, ∃ v108 : Value, ∃ v111 : Value, ∃ v114 : Value, ∃ o106 : Own k_pmem_cell 142 w' w.heap.size v105 x104.1, ∃ o109 : Own (kI .i64) 3 w' w.heap.size v108 x104.2.1, ρ' 0 = V0_0 ∧ ρ' 5 = .pointer (some ⟨G49, 0, none⟩) ∧ Blk w' G49 139 [Seg.cell v105 o106.one, Seg.cell v108 o109.one, Seg.cell (.int .i64 x104.2.2.1), Seg.cell (.bool x104.2.2.2.1), Seg.cell (.bool x104.2.2.2.2.1), Seg.cell (.int .i64 x104.2.2.2.2.2.1), Seg.cell (.int .i64 x104.2.2.2.2.2.2.1)] ∧ Gr w w') ?_ ?_
            · refine cw_block ?_
              refine cw_round (fun (s100 : Int × (List S_pmem_cell) × (List Int) × Int × Bool × Bool × Int × Int × (List S_pmem_cell) × (List Int) × Int × Bool × Bool × Int × Int) ρ' w' => ∃ v117 : Value, ∃ v120 : Value, ∃ v123 : Value, ∃ v126 : Value, ∃ o118 : Own k_pmem_cell 142 w' w.heap.size v117 s100.2.1, ∃ o121 : Own (kI .i64) 3 w' w.heap.size v120 s100.2.2.1, ∃ o124 : Own k_pmem_cell 142 w' w.heap.size v123 s100.2.2.2.2.2.2.2.2.1, ∃ o127 : Own (kI .i64) 3 w' w.heap.size v126 s100.2.2.2.2.2.2.2.2.2.1, OffV v117 v123 ∧ OffV v120 v126 ∧ ρ' 0 = V0_0 ∧ ρ' 1 = V1_0 ∧ ρ' 5 = .pointer (some ⟨G49, 0, none⟩) ∧ ρ' 7 = .pointer (some ⟨G68, 0, none⟩) ∧ ρ' 9 = .int .i64 s100.1 ∧ Blk w' G49 139 [Seg.cell v117 o118.one, Seg.cell v120 o121.one, Seg.cell (.int .i64 s100.2.2.2.1), Seg.cell (.bool s100.2.2.2.2.1), Seg.cell (.bool s100.2.2.2.2.2.1), Seg.cell (.int .i64 s100.2.2.2.2.2.2.1), Seg.cell (.int .i64 s100.2.2.2.2.2.2.2.1)] ∧ Blk w' G68 139 [Seg.cell v123 o124.one, Seg.cell v126 o127.one, Seg.cell (.int .i64 s100.2.2.2.2.2.2.2.2.2.2.1), Seg.cell (.bool s100.2.2.2.2.2.2.2.2.2.2.2.1), Seg.cell (.bool s100.2.2.2.2.2.2.2.2.2.2.2.2.1), Seg.cell (.int .i64 s100.2.2.2.2.2.2.2.2.2.2.2.2.2.1), Seg.cell (.int .i64 s100.2.2.2.2.2.2.2.2.2.2.2.2.2.2)] ∧ Gr w w') l102 ?_ ?_
              · skip
                exact ⟨u85, u89, u72, u75, o86, o90, o73, o76, a98.symm, a99.symm, e0, e1, e5, e7, rfl, b51, b70, fB⟩
              · rintro s100 x133 ρ131 w132 ⟨v117, v120, v123, v126, o118, o121, o124, o127, a129, a130, e0, e1, e5, e7, e9, b51, b70, fB⟩ h
                unfold rickyardlaw05_PmemPlans.s0 at h
                refine cw_seq ?_
                refine cw_seq ?_
                refine cw_region ?_
                refine ol_val (v := .int .i64 s100.1) (by exact xr_move rfl e9) rfl rfl rfl ?_
                refine ol_val (v := V1_0) (by exact xr_move rfl e1) rfl rfl rfl ?_
                refine ol_val (v := .int .i64 (List.length a1 : Int)) (by exact xr_lenN rfl Try.underlying24 rfl (RdN.gr R1_0 D_rickyardlaw05_Act.gr fB)) rfl rfl rfl ?_
                refine ol_val (v := .bool (decide (s100.1 < (List.length a1 : Int)))) (by exact xr_lss rfl rfl rfl) rfl rfl rfl ?_
                refine ol_nil ?_
                rcases is h with ⟨c134, h⟩ | ⟨c134, h⟩
                · refine cw_condT rfl c134 ?_
                  refine cw_skip ?_
                  refine cw_seq ?_
                  refine cw_block ?_
                  refine cw_seq ?_
                  refine cw_region ?_
                  refine ol_val (v := V1_0) (by exact xr_move rfl e1) rfl rfl rfl ?_
                  refine ol_val (v := .int .i64 s100.1) (by exact xr_move rfl e9) rfl rfl rfl ?_
                  obtain ⟨g135, h⟩ := gs h
                  refine ol_val (v := .pointer (some ⟨(sb V1_0), so V1_0 + Int.toNat s100.1 * 4, none⟩)) (by exact xr_indexN (v := V1_0) rfl Try.underlying24 sz39 rfl (RdN.gr R1_0 D_rickyardlaw05_Act.gr fB) rfl g135.1 g135.2) rfl rfl rfl ?_
                  refine ol_val (v := .pointer (some ⟨(sb V1_0), so V1_0 + Int.toNat s100.1 * 4 + 0, none⟩)) (by exact xr_fieldAddr (p := so V1_0 + Int.toNat s100.1 * 4) (q := 0) rfl fl39_0 rfl) rfl rfl rfl ?_
                  refine ol_val (v := .int .i64 ((ix a1 s100.1).Kind)) (by exact xr_load1 (v := .int .i64 ((ix a1 s100.1).Kind)) rfl ag3 rfl (At.segs (ss := [Seg.cell (.int .i64 ((ix a1 s100.1).Kind)), Seg.cell (.int .i64 ((ix a1 s100.1).At)), Seg.cell (.int .u64 ((ix a1 s100.1).W)), Seg.cell (cellAt w (sb V1_0) (so V1_0 + Int.toNat s100.1 * 4 + 3)) (N_rickyardlaw05_Act R1_0 g135.1 g135.2).2.one]) (At.gr (N_rickyardlaw05_Act R1_0 g135.1 g135.2).1 fB) 0 1 rfl)) rfl rfl rfl ?_
                  obtain ⟨t136, k137, h⟩ := bs h
                  refine ol_op (by exact opv_call rfl cal27 (ac rfl (ac rfl an)) (rickyardref01_Rest.ok fu _ ((ix a1 s100.1).Kind) 7 _ k137)) rfl rfl rfl ?_
                  rintro _ w139 ⟨rfl, q138⟩
                  have b51 := b51.gr q138
                  have b70 := b70.gr q138
                  have o118 := o118.gr q138
                  have o121 := o121.gr q138
                  have o124 := o124.gr q138
                  have o127 := o127.gr q138
                  have fB := fB.gr q138
                  refine ol_val (v := .int .i64 t136) (by exact xr_assign rfl rfl) rfl rfl rfl ?_
                  refine ol_nil ?_
                  refine cw_seq ?_
                  refine cw_seq ?_
                  refine cw_mid (fun ρ' w' => ρ' 0 = V0_0 ∧ ρ' 1 = V1_0 ∧ ρ' 5 = .pointer (some ⟨G49, 0, none⟩) ∧ ρ' 7 = .pointer (some ⟨G68, 0, none⟩) ∧ ρ' 9 = .int .i64 s100.1 ∧ ρ' 66 = .bool (if (decide (t136 = 5)) = true then true else (decide (t136 = 6))) ∧ w139 = w') ?_ ?_
                  · skip
                    refine cw_region ?_
                    refine ol_val (v := .int .i64 t136) (by exact xr_move rfl rfl) rfl rfl rfl ?_
                    refine ol_val (v := .bool (decide (t136 = 5))) (by exact xr_eqI rfl Try.underlying3 rfl rfl rfl) rfl rfl rfl ?_
                    refine ol_val (v := .bool (decide (t136 = 5))) (by exact xr_move rfl rfl) rfl rfl rfl ?_
                    rcases bt (decide (t136 = 5)) with c140 | c140
                    · skip
                      refine ol_gskip rfl rfl rfl rfl rfl c140 ?_
                      refine ol_gskip rfl rfl rfl rfl rfl c140 ?_
                      refine ol_val (v := .bool true) (by exact xr_pickT rfl rfl c140 rfl) rfl rfl rfl ?_
                      refine ol_nil ?_
                      refine thn_i ?_
                      exact ⟨e0, e1, e5, e7, e9, (rfl).trans (congrArg (fun z => (.bool z : Value)) (show true = (if (decide (t136 = 5)) = true then true else (decide (t136 = 6))) from by rw [ite_t c140])), rfl⟩
                    · skip
                      refine ol_gval (v := .int .i64 t136) (by exact xr_move rfl rfl) rfl rfl rfl rfl rfl c140 ?_
                      refine ol_gval (v := .bool (decide (t136 = 6))) (by exact xr_eqI rfl Try.underlying3 rfl rfl rfl) rfl rfl rfl rfl rfl c140 ?_
                      refine ol_val (v := .bool (decide (t136 = 6))) (by exact xr_pickF rfl rfl c140 rfl) rfl rfl rfl ?_
                      refine ol_nil ?_
                      refine thn_i ?_
                      exact ⟨e0, e1, e5, e7, e9, (rfl).trans (congrArg (fun z => (.bool z : Value)) (show (decide (t136 = 6)) = (if (decide (t136 = 5)) = true then true else (decide (t136 = 6))) from by rw [ite_f c140])), rfl⟩
                  · skip
                    rintro ρ141 _ ⟨e0, e1, e5, e7, e9, e66, rfl⟩
                    rcases is h with ⟨c142, h⟩ | ⟨c142, h⟩
                    · refine cw_condT e66 c142 ?_
                      refine cw_exit ?_
                      repeat (first | with_reducible refine thn_e ?_ | with_reducible refine blk_e rfl ?_)
                      refine blk_h ?_
                      refine cw_region ?_
                      refine ol_val (v := .int .i64 s100.1) (by exact xr_move rfl e9) rfl rfl rfl ?_
                      refine ol_val (v := .int .i64 (IntKind.i64.wrap (s100.1 + 1))) (by exact xr_add rfl rfl rfl) rfl rfl rfl ?_
                      refine ol_val (v := .int .i64 (IntKind.i64.wrap (s100.1 + 1))) (by exact xr_assign rfl rfl) rfl rfl rfl ?_
                      refine ol_nil ?_
                      obtain rfl := Option.some.inj h
                      refine lp_in ?_
                      exact ⟨v117, v120, v123, v126, o118, o121, o124, o127, a129, a130, e0, e1, e5, e7, rfl, b51, b70, fB⟩
                    · refine cw_condF e66 c142 ?_
                      refine cw_skip ?_
                      refine cw_seq ?_
                      refine cw_region ?_
                      refine ol_val (v := .pointer (some ⟨G49, 0, none⟩)) (by exact xr_move rfl e5) rfl rfl rfl ?_
                      refine ol_val (v := V1_0) (by exact xr_move rfl e1) rfl rfl rfl ?_
                      refine ol_val (v := .int .i64 s100.1) (by exact xr_move rfl e9) rfl rfl rfl ?_
                      obtain ⟨g143, h⟩ := gs h
                      refine ol_val (v := .pointer (some ⟨(sb V1_0), so V1_0 + Int.toNat s100.1 * 4, none⟩)) (by exact xr_indexN (v := V1_0) rfl Try.underlying24 sz39 rfl (RdN.gr R1_0 D_rickyardlaw05_Act.gr fB) rfl g143.1 g143.2) rfl rfl rfl ?_
                      refine ol_val (v := aggV [Seg.cell (.int .i64 ((ix a1 s100.1).Kind)), Seg.cell (.int .i64 ((ix a1 s100.1).At)), Seg.cell (.int .u64 ((ix a1 s100.1).W)), Seg.cell (cellAt w (sb V1_0) (so V1_0 + Int.toNat s100.1 * 4 + 3)) (N_rickyardlaw05_Act R1_0 g143.1 g143.2).2.one]) (by exact xr_loadS (ss := [Seg.cell (.int .i64 ((ix a1 s100.1).Kind)), Seg.cell (.int .i64 ((ix a1 s100.1).At)), Seg.cell (.int .u64 ((ix a1 s100.1).W)), Seg.cell (cellAt w (sb V1_0) (so V1_0 + Int.toNat s100.1 * 4 + 3)) (N_rickyardlaw05_Act R1_0 g143.1 g143.2).2.one]) rfl ag39 sz39 rfl rfl (At.gr (N_rickyardlaw05_Act R1_0 g143.1 g143.2).1 fB)) rfl rfl rfl ?_
                      obtain ⟨t144, k145, h⟩ := bs h
                      have f155 := (nb_or n80.symm (nb_or (nb_off (off_ty b70 o118 (by decide))) (nb_off (off_ty b70 o121 (by decide)))))
                      have f156 := (vo_or (vo_eq (off_ty b51 o124 (by decide))) (vo_or (vo_own a129.symm) (vo_own (OffV.ty o124 o121 (by decide)))))
                      have f157 := (vo_or (vo_eq (off_ty b51 o127 (by decide))) (vo_or (vo_own (OffV.ty o127 o118 (by decide))) (vo_own a130.symm)))
                      have c158 : ∀ k, (k = G49 ∨ some k = Value.ownBlock v117 ∨ some k = Value.ownBlock v120) → w.heap.size ≤ k := (cv_or (cv_eq z50) (cv_or (cv_own o118.geO) (cv_own o121.geO)))
                      refine ol_op (by exact opv_call rfl cal31 (ac rfl (ac rfl an)) (rickyardlaw05_Do.ok fu _ (⟨s100.2.1, (⟨s100.2.2.1, s100.2.2.2.1⟩ : S_pmem_plan), s100.2.2.2.2.1, s100.2.2.2.2.2.1, s100.2.2.2.2.2.2.1, s100.2.2.2.2.2.2.2.1⟩ : S_pmem_Device) G49 v117 (Own.base o118 (Nat.zero_le _)) v120 (Own.base o121 (Nat.zero_le _)) b51 (ix a1 s100.1) (cellAt w (sb V1_0) (so V1_0 + Int.toNat s100.1 * 4 + 3)) ((N_rickyardlaw05_Act R1_0 g143.1 g143.2).2.gr fB) (OffR.new (N_rickyardlaw05_Act R1_0 g143.1 g143.2).2 z50 rfl) (OffRV.call (N_rickyardlaw05_Act R1_0 g143.1 g143.2).2 o118 rfl) (OffRV.call (N_rickyardlaw05_Act R1_0 g143.1 g143.2).2 o121 rfl) _ k145)) rfl rfl rfl ?_
                      rintro _ w159 ⟨u147, u151, o148, m149, o152, m153, rfl, b51, q146⟩
                      have a160 := ov_new o124 f156 m149
                      have a161 := ov_new o127 f157 m153
                      have o148 := Own.rebase o148 (fun g hg => (m149 g hg).elim (fun x => Nat.le_trans fB.size x) (c158 g))
                      have o152 := Own.rebase o152 (fun g hg => (m153 g hg).elim (fun x => Nat.le_trans fB.size x) (c158 g))
                      have b70 := b70.fr q146 f155
                      have o124 := o124.fr q146 f156
                      have o127 := o127.fr q146 f157
                      have fB := fB.call q146 (fun k h => .inl (c158 k h))
                      refine ol_val (v := .tuple #[.int .u64 t144.1, .int .i64 t144.2.1]) (by exact xr_move rfl rfl) rfl rfl rfl ?_
                      refine ol_val (v := .int .u64 t144.1) (by exact xr_extract rfl rfl rfl) rfl rfl rfl ?_
                      refine ol_val (v := .int .i64 t144.2.1) (by exact xr_extract rfl rfl rfl) rfl rfl rfl ?_
                      refine ol_val (v := .int .u64 t144.1) (by exact xr_assign rfl rfl) rfl rfl rfl ?_
                      refine ol_val (v := .int .i64 t144.2.1) (by exact xr_assign rfl rfl) rfl rfl rfl ?_
                      refine ol_nil ?_
                      refine cw_seq ?_
                      refine cw_region ?_
                      refine ol_val (v := .pointer (some ⟨G68, 0, none⟩)) (by exact xr_move rfl e7) rfl rfl rfl ?_
                      refine ol_val (v := V1_0) (by exact xr_move rfl e1) rfl rfl rfl ?_
                      refine ol_val (v := .int .i64 s100.1) (by exact xr_move rfl e9) rfl rfl rfl ?_
                      obtain ⟨g162, h⟩ := gs h
                      refine ol_val (v := .pointer (some ⟨(sb V1_0), so V1_0 + Int.toNat s100.1 * 4, none⟩)) (by exact xr_indexN (v := V1_0) rfl Try.underlying24 sz39 rfl (RdN.gr R1_0 D_rickyardlaw05_Act.gr fB) rfl g162.1 g162.2) rfl rfl rfl ?_
                      refine ol_val (v := aggV [Seg.cell (.int .i64 ((ix a1 s100.1).Kind)), Seg.cell (.int .i64 ((ix a1 s100.1).At)), Seg.cell (.int .u64 ((ix a1 s100.1).W)), Seg.cell (cellAt w (sb V1_0) (so V1_0 + Int.toNat s100.1 * 4 + 3)) (N_rickyardlaw05_Act R1_0 g162.1 g162.2).2.one]) (by exact xr_loadS (ss := [Seg.cell (.int .i64 ((ix a1 s100.1).Kind)), Seg.cell (.int .i64 ((ix a1 s100.1).At)), Seg.cell (.int .u64 ((ix a1 s100.1).W)), Seg.cell (cellAt w (sb V1_0) (so V1_0 + Int.toNat s100.1 * 4 + 3)) (N_rickyardlaw05_Act R1_0 g162.1 g162.2).2.one]) rfl ag39 sz39 rfl rfl (At.gr (N_rickyardlaw05_Act R1_0 g162.1 g162.2).1 fB)) rfl rfl rfl ?_
                      obtain ⟨t163, k164, h⟩ := bs h
                      have f174 := (nb_or n80 (nb_or (nb_off (off_ty b51 o124 (by decide))) (nb_off (off_ty b51 o127 (by decide)))))
                      have f175 := (vo_or (vo_eq (off_ty b70 o148 (by decide))) (vo_or (vo_own a160.symm) (vo_own (OffV.ty o148 o127 (by decide)))))
                      have f176 := (vo_or (vo_eq (off_ty b70 o152 (by decide))) (vo_or (vo_own (OffV.ty o152 o124 (by decide))) (vo_own a161.symm)))
                      have c177 : ∀ k, (k = G68 ∨ some k = Value.ownBlock v123 ∨ some k = Value.ownBlock v126) → w.heap.size ≤ k := (cv_or (cv_eq z69) (cv_or (cv_own o124.geO) (cv_own o127.geO)))
                      refine ol_op (by exact opv_call rfl cal31 (ac rfl (ac rfl an)) (rickyardlaw05_Do.ok fu _ (⟨s100.2.2.2.2.2.2.2.2.1, (⟨s100.2.2.2.2.2.2.2.2.2.1, s100.2.2.2.2.2.2.2.2.2.2.1⟩ : S_pmem_plan), s100.2.2.2.2.2.2.2.2.2.2.2.1, s100.2.2.2.2.2.2.2.2.2.2.2.2.1, s100.2.2.2.2.2.2.2.2.2.2.2.2.2.1, s100.2.2.2.2.2.2.2.2.2.2.2.2.2.2⟩ : S_pmem_Device) G68 v123 (Own.base o124 (Nat.zero_le _)) v126 (Own.base o127 (Nat.zero_le _)) b70 (ix a1 s100.1) (cellAt w (sb V1_0) (so V1_0 + Int.toNat s100.1 * 4 + 3)) ((N_rickyardlaw05_Act R1_0 g162.1 g162.2).2.gr fB) (OffR.new (N_rickyardlaw05_Act R1_0 g162.1 g162.2).2 z69 rfl) (OffRV.call (N_rickyardlaw05_Act R1_0 g162.1 g162.2).2 o124 rfl) (OffRV.call (N_rickyardlaw05_Act R1_0 g162.1 g162.2).2 o127 rfl) _ k164)) rfl rfl rfl ?_
                      rintro _ w178 ⟨u166, u170, o167, m168, o171, m172, rfl, b70, q165⟩
                      have a179 := ov_new o148 f175 m168
                      have a180 := ov_new o152 f176 m172
                      have o167 := Own.rebase o167 (fun g hg => (m168 g hg).elim (fun x => Nat.le_trans fB.size x) (c177 g))
                      have o171 := Own.rebase o171 (fun g hg => (m172 g hg).elim (fun x => Nat.le_trans fB.size x) (c177 g))
                      have b51 := b51.fr q165 f174
                      have o148 := o148.fr q165 f175
                      have o152 := o152.fr q165 f176
                      have fB := fB.call q165 (fun k h => .inl (c177 k h))
                      refine ol_val (v := .tuple #[.int .u64 t163.1, .int .i64 t163.2.1]) (by exact xr_move rfl rfl) rfl rfl rfl ?_
                      refine ol_val (v := .int .u64 t163.1) (by exact xr_extract rfl rfl rfl) rfl rfl rfl ?_
                      refine ol_val (v := .int .i64 t163.2.1) (by exact xr_extract rfl rfl rfl) rfl rfl rfl ?_
                      refine ol_val (v := .int .u64 t163.1) (by exact xr_assign rfl rfl) rfl rfl rfl ?_
                      refine ol_val (v := .int .i64 t163.2.1) (by exact xr_assign rfl rfl) rfl rfl rfl ?_
                      refine ol_nil ?_
                      refine cw_seq ?_
                      obtain ⟨x181, j182, h⟩ := bs h
                      refine cw_mid (fun ρ' w' => ρ' 0 = V0_0 ∧ ρ' 1 = V1_0 ∧ ρ' 5 = .pointer (some ⟨G49, 0, none⟩) ∧ ρ' 7 = .pointer (some ⟨G68, 0, none⟩) ∧ ρ' 9 = .int .i64 s100.1 ∧ ρ' 108 = .bool x181 ∧ Gr w178 w') ?_ ?_
                      · skip
                        rcases is j182 with ⟨c183, j182⟩ | ⟨c183, j182⟩
                        · skip
                          refine cw_drawL 23 [fun vz wz => vz = (.int .u64 t144.1 : Value), fun vz wz => vz = (.int .u64 t163.1 : Value), fun vz wz => vz = (.bool (!decide (t144.1 = t163.1)) : Value), fun vz wz => vz = (.bool (!decide (t144.1 = t163.1)) : Value), fun vz _ => vz = undef, fun vz _ => vz = undef, fun vz _ => vz = undef, fun vz wz => vz = (.bool true : Value), fun vz wz => vz = (.bool true : Value), fun vz _ => vz = undef, fun vz _ => vz = undef, fun vz _ => vz = undef, fun vz _ => vz = undef, fun vz _ => vz = undef, fun vz _ => vz = undef, fun vz _ => vz = undef, fun vz wz => vz = (.bool true : Value), fun vz wz => vz = (.bool true : Value), fun vz _ => vz = undef, fun vz _ => vz = undef, fun vz _ => vz = undef, fun vz _ => vz = undef, fun vz _ => vz = undef] mo rfl ⟨fun _ _ _ h _ => h, fun _ _ _ h _ => h, fun _ _ _ h _ => h, fun _ _ _ h _ => h, fun _ _ _ h _ => h, fun _ _ _ h _ => h, fun _ _ _ h _ => h, fun _ _ _ h _ => h, fun _ _ _ h _ => h, fun _ _ _ h _ => h, fun _ _ _ h _ => h, fun _ _ _ h _ => h, fun _ _ _ h _ => h, fun _ _ _ h _ => h, fun _ _ _ h _ => h, fun _ _ _ h _ => h, fun _ _ _ h _ => h, fun _ _ _ h _ => h, fun _ _ _ h _ => h, fun _ _ _ h _ => h, fun _ _ _ h _ => h, fun _ _ _ h _ => h, fun _ _ _ h _ => h, trivial⟩ ?_ ?_
                          · refine ⟨?_, ?_, ?_, ?_, ?_, ?_, ?_, ?_, ?_, ?_, ?_, ?_, ?_, ?_, ?_, ?_, ?_, ?_, ?_, ?_, ?_, ?_, ?_, trivial⟩
                            · intro ρz wz hz hk hd
                              exact sk_val (v := .int .u64 t144.1) (by exact xr_move rfl ((hk 11 rfl).trans rfl)) rfl rfl
                            · intro ρz wz hz hk hd
                              exact sk_val (v := .int .u64 t163.1) (by exact xr_move rfl ((hk 13 rfl).trans rfl)) rfl rfl
                            · intro ρz wz hz hk hd
                              have d85 := hd 0 rfl 85 rfl
                              have d86 := hd 1 rfl 86 rfl
                              exact sk_val (v := .bool (!decide (t144.1 = t163.1))) (by exact xr_neI rfl Try.underlying22 rfl d85 d86) rfl rfl
                            · intro ρz wz hz hk hd
                              have d87 := hd 2 rfl 87 rfl
                              exact sk_val (v := .bool (!decide (t144.1 = t163.1))) (by exact xr_move rfl d87) rfl rfl
                            · intro ρz wz hz hk hd
                              have d88 := hd 3 rfl 88 rfl
                              exact sk_skip rfl rfl d88 c183 rfl
                            · intro ρz wz hz hk hd
                              have d88 := hd 3 rfl 88 rfl
                              exact sk_skip rfl rfl d88 c183 rfl
                            · intro ρz wz hz hk hd
                              have d88 := hd 3 rfl 88 rfl
                              exact sk_skip rfl rfl d88 c183 rfl
                            · intro ρz wz hz hk hd
                              have d88 := hd 3 rfl 88 rfl
                              exact sk_val (v := .bool true) (by exact xr_pickT rfl d88 c183 rfl) rfl rfl
                            · intro ρz wz hz hk hd
                              have d92 := hd 7 rfl 92 rfl
                              exact sk_val (v := .bool true) (by exact xr_move rfl d92) rfl rfl
                            · intro ρz wz hz hk hd
                              have d93 := hd 8 rfl 93 rfl
                              exact sk_skip rfl rfl d93 rfl rfl
                            · intro ρz wz hz hk hd
                              have d93 := hd 8 rfl 93 rfl
                              exact sk_skip rfl rfl d93 rfl rfl
                            · intro ρz wz hz hk hd
                              have d93 := hd 8 rfl 93 rfl
                              exact sk_skip rfl rfl d93 rfl rfl
                            · intro ρz wz hz hk hd
                              have d93 := hd 8 rfl 93 rfl
                              exact sk_skip rfl rfl d93 rfl rfl
                            · intro ρz wz hz hk hd
                              have d93 := hd 8 rfl 93 rfl
                              exact sk_skip rfl rfl d93 rfl rfl
                            · intro ρz wz hz hk hd
                              have d93 := hd 8 rfl 93 rfl
                              exact sk_skip rfl rfl d93 rfl rfl
                            · intro ρz wz hz hk hd
                              have d93 := hd 8 rfl 93 rfl
                              exact sk_skip rfl rfl d93 rfl rfl
                            · intro ρz wz hz hk hd
                              have d93 := hd 8 rfl 93 rfl
                              exact sk_val (v := .bool true) (by exact xr_pickT rfl d93 rfl rfl) rfl rfl
                            · intro ρz wz hz hk hd
                              have d101 := hd 16 rfl 101 rfl
                              exact sk_val (v := .bool true) (by exact xr_move rfl d101) rfl rfl
                            · intro ρz wz hz hk hd
                              have d102 := hd 17 rfl 102 rfl
                              exact sk_skip rfl rfl d102 rfl rfl
                            · intro ρz wz hz hk hd
                              have d102 := hd 17 rfl 102 rfl
                              exact sk_skip rfl rfl d102 rfl rfl
                            · intro ρz wz hz hk hd
                              have d102 := hd 17 rfl 102 rfl
                              exact sk_skip rfl rfl d102 rfl rfl
                            · intro ρz wz hz hk hd
                              have d102 := hd 17 rfl 102 rfl
                              exact sk_skip rfl rfl d102 rfl rfl
                            · intro ρz wz hz hk hd
                              have d102 := hd 17 rfl 102 rfl
                              exact sk_skip rfl rfl d102 rfl rfl
                          · intro ρ184 w185 q186 hk hd
                            have e0 := (hk 0 rfl).trans e0
                            have e1 := (hk 1 rfl).trans e1
                            have e5 := (hk 5 rfl).trans e5
                            have e7 := (hk 7 rfl).trans e7
                            have e9 := (hk 9 rfl).trans e9
                            have e102 := hd 17 rfl 102 rfl
                            have b51 := b51.gr q186
                            have b70 := b70.gr q186
                            have o148 := o148.gr q186
                            have o152 := o152.gr q186
                            have o167 := o167.gr q186
                            have o171 := o171.gr q186
                            have fB := fB.gr q186
                            refine ol_val (v := .bool true) (by exact xr_pickT rfl e102 rfl rfl) rfl rfl rfl ?_
                            refine ol_nil ?_
                            obtain rfl := Option.some.inj j182
                            refine thn_i ?_
                            exact ⟨e0, e1, e5, e7, e9, rfl, q186⟩
                        · skip
                          rcases is j182 with ⟨c187, j182⟩ | ⟨c187, j182⟩
                          · skip
                            refine cw_drawL 23 [fun vz wz => vz = (.int .u64 t144.1 : Value), fun vz wz => vz = (.int .u64 t163.1 : Value), fun vz wz => vz = (.bool (!decide (t144.1 = t163.1)) : Value), fun vz wz => vz = (.bool (!decide (t144.1 = t163.1)) : Value), fun vz wz => vz = (.int .i64 t144.2.1 : Value), fun vz wz => vz = (.int .i64 t163.2.1 : Value), fun vz wz => vz = (.bool (!decide (t144.2.1 = t163.2.1)) : Value), fun vz wz => vz = (.bool (!decide (t144.2.1 = t163.2.1)) : Value), fun vz wz => vz = (.bool (!decide (t144.2.1 = t163.2.1)) : Value), fun vz _ => vz = undef, fun vz _ => vz = undef, fun vz _ => vz = undef, fun vz _ => vz = undef, fun vz _ => vz = undef, fun vz _ => vz = undef, fun vz _ => vz = undef, fun vz wz => vz = (.bool true : Value), fun vz wz => vz = (.bool true : Value), fun vz _ => vz = undef, fun vz _ => vz = undef, fun vz _ => vz = undef, fun vz _ => vz = undef, fun vz _ => vz = undef] mo rfl ⟨fun _ _ _ h _ => h, fun _ _ _ h _ => h, fun _ _ _ h _ => h, fun _ _ _ h _ => h, fun _ _ _ h _ => h, fun _ _ _ h _ => h, fun _ _ _ h _ => h, fun _ _ _ h _ => h, fun _ _ _ h _ => h, fun _ _ _ h _ => h, fun _ _ _ h _ => h, fun _ _ _ h _ => h, fun _ _ _ h _ => h, fun _ _ _ h _ => h, fun _ _ _ h _ => h, fun _ _ _ h _ => h, fun _ _ _ h _ => h, fun _ _ _ h _ => h, fun _ _ _ h _ => h, fun _ _ _ h _ => h, fun _ _ _ h _ => h, fun _ _ _ h _ => h, fun _ _ _ h _ => h, trivial⟩ ?_ ?_
                            · refine ⟨?_, ?_, ?_, ?_, ?_, ?_, ?_, ?_, ?_, ?_, ?_, ?_, ?_, ?_, ?_, ?_, ?_, ?_, ?_, ?_, ?_, ?_, ?_, trivial⟩
                              · intro ρz wz hz hk hd
                                exact sk_val (v := .int .u64 t144.1) (by exact xr_move rfl ((hk 11 rfl).trans rfl)) rfl rfl
                              · intro ρz wz hz hk hd
                                exact sk_val (v := .int .u64 t163.1) (by exact xr_move rfl ((hk 13 rfl).trans rfl)) rfl rfl
                              · intro ρz wz hz hk hd
                                have d85 := hd 0 rfl 85 rfl
                                have d86 := hd 1 rfl 86 rfl
                                exact sk_val (v := .bool (!decide (t144.1 = t163.1))) (by exact xr_neI rfl Try.underlying22 rfl d85 d86) rfl rfl
                              · intro ρz wz hz hk hd
                                have d87 := hd 2 rfl 87 rfl
                                exact sk_val (v := .bool (!decide (t144.1 = t163.1))) (by exact xr_move rfl d87) rfl rfl
                              · intro ρz wz hz hk hd
                                have d88 := hd 3 rfl 88 rfl
                                exact sk_gval (v := .int .i64 t144.2.1) (by exact xr_move rfl ((hk 12 rfl).trans rfl)) rfl rfl d88 c183 rfl
                              · intro ρz wz hz hk hd
                                have d88 := hd 3 rfl 88 rfl
                                exact sk_gval (v := .int .i64 t163.2.1) (by exact xr_move rfl ((hk 14 rfl).trans rfl)) rfl rfl d88 c183 rfl
                              · intro ρz wz hz hk hd
                                have d89 := hd 4 rfl 89 rfl
                                have d90 := hd 5 rfl 90 rfl
                                have d88 := hd 3 rfl 88 rfl
                                exact sk_gval (v := .bool (!decide (t144.2.1 = t163.2.1))) (by exact xr_neI rfl Try.underlying31 rfl d89 d90) rfl rfl d88 c183 rfl
                              · intro ρz wz hz hk hd
                                have d88 := hd 3 rfl 88 rfl
                                have d91 := hd 6 rfl 91 rfl
                                exact sk_val (v := .bool (!decide (t144.2.1 = t163.2.1))) (by exact xr_pickF rfl d88 c183 d91) rfl rfl
                              · intro ρz wz hz hk hd
                                have d92 := hd 7 rfl 92 rfl
                                exact sk_val (v := .bool (!decide (t144.2.1 = t163.2.1))) (by exact xr_move rfl d92) rfl rfl
                              · intro ρz wz hz hk hd
                                have d93 := hd 8 rfl 93 rfl
                                exact sk_skip rfl rfl d93 c187 rfl
                              · intro ρz wz hz hk hd
                                have d93 := hd 8 rfl 93 rfl
                                exact sk_skip rfl rfl d93 c187 rfl
                              · intro ρz wz hz hk hd
                                have d93 := hd 8 rfl 93 rfl
                                exact sk_skip rfl rfl d93 c187 rfl
                              · intro ρz wz hz hk hd
                                have d93 := hd 8 rfl 93 rfl
                                exact sk_skip rfl rfl d93 c187 rfl
                              · intro ρz wz hz hk hd
                                have d93 := hd 8 rfl 93 rfl
                                exact sk_skip rfl rfl d93 c187 rfl
                              · intro ρz wz hz hk hd
                                have d93 := hd 8 rfl 93 rfl
                                exact sk_skip rfl rfl d93 c187 rfl
                              · intro ρz wz hz hk hd
                                have d93 := hd 8 rfl 93 rfl
                                exact sk_skip rfl rfl d93 c187 rfl
                              · intro ρz wz hz hk hd
                                have d93 := hd 8 rfl 93 rfl
                                exact sk_val (v := .bool true) (by exact xr_pickT rfl d93 c187 rfl) rfl rfl
                              · intro ρz wz hz hk hd
                                have d101 := hd 16 rfl 101 rfl
                                exact sk_val (v := .bool true) (by exact xr_move rfl d101) rfl rfl
                              · intro ρz wz hz hk hd
                                have d102 := hd 17 rfl 102 rfl
                                exact sk_skip rfl rfl d102 rfl rfl
                              · intro ρz wz hz hk hd
                                have d102 := hd 17 rfl 102 rfl
                                exact sk_skip rfl rfl d102 rfl rfl
                              · intro ρz wz hz hk hd
                                have d102 := hd 17 rfl 102 rfl
                                exact sk_skip rfl rfl d102 rfl rfl
                              · intro ρz wz hz hk hd
                                have d102 := hd 17 rfl 102 rfl
                                exact sk_skip rfl rfl d102 rfl rfl
                              · intro ρz wz hz hk hd
                                have d102 := hd 17 rfl 102 rfl
                                exact sk_skip rfl rfl d102 rfl rfl
                            · intro ρ188 w189 q190 hk hd
                              have e0 := (hk 0 rfl).trans e0
                              have e1 := (hk 1 rfl).trans e1
                              have e5 := (hk 5 rfl).trans e5
                              have e7 := (hk 7 rfl).trans e7
                              have e9 := (hk 9 rfl).trans e9
                              have e89 := hd 4 rfl 89 rfl
                              have e90 := hd 5 rfl 90 rfl
                              have e91 := hd 6 rfl 91 rfl
                              have e102 := hd 17 rfl 102 rfl
                              have b51 := b51.gr q190
                              have b70 := b70.gr q190
                              have o148 := o148.gr q190
                              have o152 := o152.gr q190
                              have o167 := o167.gr q190
                              have o171 := o171.gr q190
                              have fB := fB.gr q190
                              refine ol_val (v := .bool true) (by exact xr_pickT rfl e102 rfl rfl) rfl rfl rfl ?_
                              refine ol_nil ?_
                              obtain rfl := Option.some.inj j182
                              refine thn_i ?_
                              exact ⟨e0, e1, e5, e7, e9, rfl, q190⟩
                          · skip
                            obtain ⟨t191, k192, j182⟩ := bs j182
                            obtain ⟨t197, k198, j182⟩ := bs j182
                            rcases is j182 with ⟨c203, j182⟩ | ⟨c203, j182⟩
                            · skip
                              refine cw_drawL 23 [fun vz wz => vz = (.int .u64 t144.1 : Value), fun vz wz => vz = (.int .u64 t163.1 : Value), fun vz wz => vz = (.bool (!decide (t144.1 = t163.1)) : Value), fun vz wz => vz = (.bool (!decide (t144.1 = t163.1)) : Value), fun vz wz => vz = (.int .i64 t144.2.1 : Value), fun vz wz => vz = (.int .i64 t163.2.1 : Value), fun vz wz => vz = (.bool (!decide (t144.2.1 = t163.2.1)) : Value), fun vz wz => vz = (.bool (!decide (t144.2.1 = t163.2.1)) : Value), fun vz wz => vz = (.bool (!decide (t144.2.1 = t163.2.1)) : Value), fun vz wz => vz = (.pointer (some ⟨G49, 0, none⟩) : Value), fun vz wz => ∃ u193 : Value, ∃ o194 : Own (kI .u8) 5 wz w.heap.size u193 t191, vz = (u193 : Value), fun vz wz => vz = (sv (List.map toB t191) : Value), fun vz wz => vz = (.pointer (some ⟨G68, 0, none⟩) : Value), fun vz wz => ∃ u199 : Value, ∃ o200 : Own (kI .u8) 5 wz w.heap.size u199 t197, vz = (u199 : Value), fun vz wz => vz = (sv (List.map toB t197) : Value), fun vz wz => vz = (.bool (!decide ((List.map toB t191) = (List.map toB t197))) : Value), fun vz wz => vz = (.bool (!decide ((List.map toB t191) = (List.map toB t197))) : Value), fun vz wz => vz = (.bool (!decide ((List.map toB t191) = (List.map toB t197))) : Value), fun vz _ => vz = undef, fun vz _ => vz = undef, fun vz _ => vz = undef, fun vz _ => vz = undef, fun vz _ => vz = undef] mo rfl ⟨fun _ _ _ h _ => h, fun _ _ _ h _ => h, fun _ _ _ h _ => h, fun _ _ _ h _ => h, fun _ _ _ h _ => h, fun _ _ _ h _ => h, fun _ _ _ h _ => h, fun _ _ _ h _ => h, fun _ _ _ h _ => h, fun _ _ _ h _ => h, fun _ _ _ ⟨u193, o194, h⟩ q => ⟨u193, o194.gr q, h⟩, fun _ _ _ h _ => h, fun _ _ _ h _ => h, fun _ _ _ ⟨u199, o200, h⟩ q => ⟨u199, o200.gr q, h⟩, fun _ _ _ h _ => h, fun _ _ _ h _ => h, fun _ _ _ h _ => h, fun _ _ _ h _ => h, fun _ _ _ h _ => h, fun _ _ _ h _ => h, fun _ _ _ h _ => h, fun _ _ _ h _ => h, fun _ _ _ h _ => h, trivial⟩ ?_ ?_
                              · refine ⟨?_, ?_, ?_, ?_, ?_, ?_, ?_, ?_, ?_, ?_, ?_, ?_, ?_, ?_, ?_, ?_, ?_, ?_, ?_, ?_, ?_, ?_, ?_, trivial⟩
                                · intro ρz wz hz hk hd
                                  exact sk_val (v := .int .u64 t144.1) (by exact xr_move rfl ((hk 11 rfl).trans rfl)) rfl rfl
                                · intro ρz wz hz hk hd
                                  exact sk_val (v := .int .u64 t163.1) (by exact xr_move rfl ((hk 13 rfl).trans rfl)) rfl rfl
                                · intro ρz wz hz hk hd
                                  have d85 := hd 0 rfl 85 rfl
                                  have d86 := hd 1 rfl 86 rfl
                                  exact sk_val (v := .bool (!decide (t144.1 = t163.1))) (by exact xr_neI rfl Try.underlying22 rfl d85 d86) rfl rfl
                                · intro ρz wz hz hk hd
                                  have d87 := hd 2 rfl 87 rfl
                                  exact sk_val (v := .bool (!decide (t144.1 = t163.1))) (by exact xr_move rfl d87) rfl rfl
                                · intro ρz wz hz hk hd
                                  have d88 := hd 3 rfl 88 rfl
                                  exact sk_gval (v := .int .i64 t144.2.1) (by exact xr_move rfl ((hk 12 rfl).trans rfl)) rfl rfl d88 c183 rfl
                                · intro ρz wz hz hk hd
                                  have d88 := hd 3 rfl 88 rfl
                                  exact sk_gval (v := .int .i64 t163.2.1) (by exact xr_move rfl ((hk 14 rfl).trans rfl)) rfl rfl d88 c183 rfl
                                · intro ρz wz hz hk hd
                                  have d89 := hd 4 rfl 89 rfl
                                  have d90 := hd 5 rfl 90 rfl
                                  have d88 := hd 3 rfl 88 rfl
                                  exact sk_gval (v := .bool (!decide (t144.2.1 = t163.2.1))) (by exact xr_neI rfl Try.underlying31 rfl d89 d90) rfl rfl d88 c183 rfl
                                · intro ρz wz hz hk hd
                                  have d88 := hd 3 rfl 88 rfl
                                  have d91 := hd 6 rfl 91 rfl
                                  exact sk_val (v := .bool (!decide (t144.2.1 = t163.2.1))) (by exact xr_pickF rfl d88 c183 d91) rfl rfl
                                · intro ρz wz hz hk hd
                                  have d92 := hd 7 rfl 92 rfl
                                  exact sk_val (v := .bool (!decide (t144.2.1 = t163.2.1))) (by exact xr_move rfl d92) rfl rfl
                                · intro ρz wz hz hk hd
                                  have d93 := hd 8 rfl 93 rfl
                                  exact sk_gval (v := .pointer (some ⟨G49, 0, none⟩)) (by exact xr_move rfl ((hk 5 rfl).trans e5)) rfl rfl d93 c187 rfl
                                · intro ρz wz hz hk hd
                                  have d94 := hd 9 rfl 94 rfl
                                  have d93 := hd 8 rfl 93 rfl
                                  refine sk_gop (by exact opv_call rfl cal36 (ac d94 an) (pmem_Device_View.ok fu _ t144.2.2 G49 u147 (o148.gr hz).rd u151 (o152.gr hz).rd (b51.gr hz) _ k192)) rfl rfl d93 c187 ?_
                                  rintro u193 wy ⟨_, o194, rfl, q196⟩
                                  exact ⟨⟨u193, Own.base o194 ((Nat.le_trans fB.size hz.size)), rfl⟩, q196⟩
                                · intro ρz wz hz hk hd
                                  obtain ⟨u193, o194, d95⟩ := hd 10 rfl 95 rfl
                                  have d93 := hd 8 rfl 93 rfl
                                  exact sk_gval (v := sv (List.map toB t191)) (by exact xr_toStr rfl Try.underlying43 Try.underlying5 Try.underlying9 d95 o194.rd) rfl rfl d93 c187 rfl
                                · intro ρz wz hz hk hd
                                  have d93 := hd 8 rfl 93 rfl
                                  exact sk_gval (v := .pointer (some ⟨G68, 0, none⟩)) (by exact xr_move rfl ((hk 7 rfl).trans e7)) rfl rfl d93 c187 rfl
                                · intro ρz wz hz hk hd
                                  have d97 := hd 12 rfl 97 rfl
                                  have d93 := hd 8 rfl 93 rfl
                                  refine sk_gop (by exact opv_call rfl cal36 (ac d97 an) (pmem_Device_View.ok fu _ t163.2.2 G68 u166 (o167.gr hz).rd u170 (o171.gr hz).rd (b70.gr hz) _ k198)) rfl rfl d93 c187 ?_
                                  rintro u199 wy ⟨_, o200, rfl, q202⟩
                                  exact ⟨⟨u199, Own.base o200 ((Nat.le_trans fB.size hz.size)), rfl⟩, q202⟩
                                · intro ρz wz hz hk hd
                                  obtain ⟨u199, o200, d98⟩ := hd 13 rfl 98 rfl
                                  have d93 := hd 8 rfl 93 rfl
                                  exact sk_gval (v := sv (List.map toB t197)) (by exact xr_toStr rfl Try.underlying43 Try.underlying5 Try.underlying9 d98 o200.rd) rfl rfl d93 c187 rfl
                                · intro ρz wz hz hk hd
                                  have d96 := hd 11 rfl 96 rfl
                                  have d99 := hd 14 rfl 99 rfl
                                  have d93 := hd 8 rfl 93 rfl
                                  exact sk_gval (v := .bool (!decide ((List.map toB t191) = (List.map toB t197)))) (by exact xr_neStr rfl Try.underlying9 d96 d99) rfl rfl d93 c187 rfl
                                · intro ρz wz hz hk hd
                                  have d93 := hd 8 rfl 93 rfl
                                  have d100 := hd 15 rfl 100 rfl
                                  exact sk_val (v := .bool (!decide ((List.map toB t191) = (List.map toB t197)))) (by exact xr_pickF rfl d93 c187 d100) rfl rfl
                                · intro ρz wz hz hk hd
                                  have d101 := hd 16 rfl 101 rfl
                                  exact sk_val (v := .bool (!decide ((List.map toB t191) = (List.map toB t197)))) (by exact xr_move rfl d101) rfl rfl
                                · intro ρz wz hz hk hd
                                  have d102 := hd 17 rfl 102 rfl
                                  exact sk_skip rfl rfl d102 c203 rfl
                                · intro ρz wz hz hk hd
                                  have d102 := hd 17 rfl 102 rfl
                                  exact sk_skip rfl rfl d102 c203 rfl
                                · intro ρz wz hz hk hd
                                  have d102 := hd 17 rfl 102 rfl
                                  exact sk_skip rfl rfl d102 c203 rfl
                                · intro ρz wz hz hk hd
                                  have d102 := hd 17 rfl 102 rfl
                                  exact sk_skip rfl rfl d102 c203 rfl
                                · intro ρz wz hz hk hd
                                  have d102 := hd 17 rfl 102 rfl
                                  exact sk_skip rfl rfl d102 c203 rfl
                              · intro ρ204 w205 q206 hk hd
                                have e0 := (hk 0 rfl).trans e0
                                have e1 := (hk 1 rfl).trans e1
                                have e5 := (hk 5 rfl).trans e5
                                have e7 := (hk 7 rfl).trans e7
                                have e9 := (hk 9 rfl).trans e9
                                have e89 := hd 4 rfl 89 rfl
                                have e90 := hd 5 rfl 90 rfl
                                have e91 := hd 6 rfl 91 rfl
                                have e94 := hd 9 rfl 94 rfl
                                obtain ⟨u207, o208, e95⟩ := hd 10 rfl 95 rfl
                                have e96 := hd 11 rfl 96 rfl
                                have e97 := hd 12 rfl 97 rfl
                                obtain ⟨u209, o210, e98⟩ := hd 13 rfl 98 rfl
                                have e99 := hd 14 rfl 99 rfl
                                have e100 := hd 15 rfl 100 rfl
                                have e102 := hd 17 rfl 102 rfl
                                have b51 := b51.gr q206
                                have b70 := b70.gr q206
                                have o148 := o148.gr q206
                                have o152 := o152.gr q206
                                have o167 := o167.gr q206
                                have o171 := o171.gr q206
                                have fB := fB.gr q206
                                refine ol_val (v := .bool true) (by exact xr_pickT rfl e102 c203 rfl) rfl rfl rfl ?_
                                refine ol_nil ?_
                                obtain rfl := Option.some.inj j182
                                refine thn_i ?_
                                exact ⟨e0, e1, e5, e7, e9, rfl, q206⟩
                            · skip
                              obtain ⟨t213, k214, j182⟩ := bs j182
                              obtain ⟨t216, k217, j182⟩ := bs j182
                              refine cw_drawL 23 [fun vz wz => vz = (.int .u64 t144.1 : Value), fun vz wz => vz = (.int .u64 t163.1 : Value), fun vz wz => vz = (.bool (!decide (t144.1 = t163.1)) : Value), fun vz wz => vz = (.bool (!decide (t144.1 = t163.1)) : Value), fun vz wz => vz = (.int .i64 t144.2.1 : Value), fun vz wz => vz = (.int .i64 t163.2.1 : Value), fun vz wz => vz = (.bool (!decide (t144.2.1 = t163.2.1)) : Value), fun vz wz => vz = (.bool (!decide (t144.2.1 = t163.2.1)) : Value), fun vz wz => vz = (.bool (!decide (t144.2.1 = t163.2.1)) : Value), fun vz wz => vz = (.pointer (some ⟨G49, 0, none⟩) : Value), fun vz wz => ∃ u193 : Value, ∃ o194 : Own (kI .u8) 5 wz w.heap.size u193 t191, vz = (u193 : Value), fun vz wz => vz = (sv (List.map toB t191) : Value), fun vz wz => vz = (.pointer (some ⟨G68, 0, none⟩) : Value), fun vz wz => ∃ u199 : Value, ∃ o200 : Own (kI .u8) 5 wz w.heap.size u199 t197, vz = (u199 : Value), fun vz wz => vz = (sv (List.map toB t197) : Value), fun vz wz => vz = (.bool (!decide ((List.map toB t191) = (List.map toB t197))) : Value), fun vz wz => vz = (.bool (!decide ((List.map toB t191) = (List.map toB t197))) : Value), fun vz wz => vz = (.bool (!decide ((List.map toB t191) = (List.map toB t197))) : Value), fun vz wz => vz = (.pointer (some ⟨G49, 0, none⟩) : Value), fun vz wz => vz = (.int .i64 t213 : Value), fun vz wz => vz = (.pointer (some ⟨G68, 0, none⟩) : Value), fun vz wz => vz = (.int .i64 t216 : Value), fun vz wz => vz = (.bool (!decide (t213 = t216)) : Value)] mo rfl ⟨fun _ _ _ h _ => h, fun _ _ _ h _ => h, fun _ _ _ h _ => h, fun _ _ _ h _ => h, fun _ _ _ h _ => h, fun _ _ _ h _ => h, fun _ _ _ h _ => h, fun _ _ _ h _ => h, fun _ _ _ h _ => h, fun _ _ _ h _ => h, fun _ _ _ ⟨u193, o194, h⟩ q => ⟨u193, o194.gr q, h⟩, fun _ _ _ h _ => h, fun _ _ _ h _ => h, fun _ _ _ ⟨u199, o200, h⟩ q => ⟨u199, o200.gr q, h⟩, fun _ _ _ h _ => h, fun _ _ _ h _ => h, fun _ _ _ h _ => h, fun _ _ _ h _ => h, fun _ _ _ h _ => h, fun _ _ _ h _ => h, fun _ _ _ h _ => h, fun _ _ _ h _ => h, fun _ _ _ h _ => h, trivial⟩ ?_ ?_
                              · refine ⟨?_, ?_, ?_, ?_, ?_, ?_, ?_, ?_, ?_, ?_, ?_, ?_, ?_, ?_, ?_, ?_, ?_, ?_, ?_, ?_, ?_, ?_, ?_, trivial⟩
                                · intro ρz wz hz hk hd
                                  exact sk_val (v := .int .u64 t144.1) (by exact xr_move rfl ((hk 11 rfl).trans rfl)) rfl rfl
                                · intro ρz wz hz hk hd
                                  exact sk_val (v := .int .u64 t163.1) (by exact xr_move rfl ((hk 13 rfl).trans rfl)) rfl rfl
                                · intro ρz wz hz hk hd
                                  have d85 := hd 0 rfl 85 rfl
                                  have d86 := hd 1 rfl 86 rfl
                                  exact sk_val (v := .bool (!decide (t144.1 = t163.1))) (by exact xr_neI rfl Try.underlying22 rfl d85 d86) rfl rfl
                                · intro ρz wz hz hk hd
                                  have d87 := hd 2 rfl 87 rfl
                                  exact sk_val (v := .bool (!decide (t144.1 = t163.1))) (by exact xr_move rfl d87) rfl rfl
                                · intro ρz wz hz hk hd
                                  have d88 := hd 3 rfl 88 rfl
                                  exact sk_gval (v := .int .i64 t144.2.1) (by exact xr_move rfl ((hk 12 rfl).trans rfl)) rfl rfl d88 c183 rfl
                                · intro ρz wz hz hk hd
                                  have d88 := hd 3 rfl 88 rfl
                                  exact sk_gval (v := .int .i64 t163.2.1) (by exact xr_move rfl ((hk 14 rfl).trans rfl)) rfl rfl d88 c183 rfl
                                · intro ρz wz hz hk hd
                                  have d89 := hd 4 rfl 89 rfl
                                  have d90 := hd 5 rfl 90 rfl
                                  have d88 := hd 3 rfl 88 rfl
                                  exact sk_gval (v := .bool (!decide (t144.2.1 = t163.2.1))) (by exact xr_neI rfl Try.underlying31 rfl d89 d90) rfl rfl d88 c183 rfl
                                · intro ρz wz hz hk hd
                                  have d88 := hd 3 rfl 88 rfl
                                  have d91 := hd 6 rfl 91 rfl
                                  exact sk_val (v := .bool (!decide (t144.2.1 = t163.2.1))) (by exact xr_pickF rfl d88 c183 d91) rfl rfl
                                · intro ρz wz hz hk hd
                                  have d92 := hd 7 rfl 92 rfl
                                  exact sk_val (v := .bool (!decide (t144.2.1 = t163.2.1))) (by exact xr_move rfl d92) rfl rfl
                                · intro ρz wz hz hk hd
                                  have d93 := hd 8 rfl 93 rfl
                                  exact sk_gval (v := .pointer (some ⟨G49, 0, none⟩)) (by exact xr_move rfl ((hk 5 rfl).trans e5)) rfl rfl d93 c187 rfl
                                · intro ρz wz hz hk hd
                                  have d94 := hd 9 rfl 94 rfl
                                  have d93 := hd 8 rfl 93 rfl
                                  refine sk_gop (by exact opv_call rfl cal36 (ac d94 an) (pmem_Device_View.ok fu _ t144.2.2 G49 u147 (o148.gr hz).rd u151 (o152.gr hz).rd (b51.gr hz) _ k192)) rfl rfl d93 c187 ?_
                                  rintro u193 wy ⟨_, o194, rfl, q196⟩
                                  exact ⟨⟨u193, Own.base o194 ((Nat.le_trans fB.size hz.size)), rfl⟩, q196⟩
                                · intro ρz wz hz hk hd
                                  obtain ⟨u193, o194, d95⟩ := hd 10 rfl 95 rfl
                                  have d93 := hd 8 rfl 93 rfl
                                  exact sk_gval (v := sv (List.map toB t191)) (by exact xr_toStr rfl Try.underlying43 Try.underlying5 Try.underlying9 d95 o194.rd) rfl rfl d93 c187 rfl
                                · intro ρz wz hz hk hd
                                  have d93 := hd 8 rfl 93 rfl
                                  exact sk_gval (v := .pointer (some ⟨G68, 0, none⟩)) (by exact xr_move rfl ((hk 7 rfl).trans e7)) rfl rfl d93 c187 rfl
                                · intro ρz wz hz hk hd
                                  have d97 := hd 12 rfl 97 rfl
                                  have d93 := hd 8 rfl 93 rfl
                                  refine sk_gop (by exact opv_call rfl cal36 (ac d97 an) (pmem_Device_View.ok fu _ t163.2.2 G68 u166 (o167.gr hz).rd u170 (o171.gr hz).rd (b70.gr hz) _ k198)) rfl rfl d93 c187 ?_
                                  rintro u199 wy ⟨_, o200, rfl, q202⟩
                                  exact ⟨⟨u199, Own.base o200 ((Nat.le_trans fB.size hz.size)), rfl⟩, q202⟩
                                · intro ρz wz hz hk hd
                                  obtain ⟨u199, o200, d98⟩ := hd 13 rfl 98 rfl
                                  have d93 := hd 8 rfl 93 rfl
                                  exact sk_gval (v := sv (List.map toB t197)) (by exact xr_toStr rfl Try.underlying43 Try.underlying5 Try.underlying9 d98 o200.rd) rfl rfl d93 c187 rfl
                                · intro ρz wz hz hk hd
                                  have d96 := hd 11 rfl 96 rfl
                                  have d99 := hd 14 rfl 99 rfl
                                  have d93 := hd 8 rfl 93 rfl
                                  exact sk_gval (v := .bool (!decide ((List.map toB t191) = (List.map toB t197)))) (by exact xr_neStr rfl Try.underlying9 d96 d99) rfl rfl d93 c187 rfl
                                · intro ρz wz hz hk hd
                                  have d93 := hd 8 rfl 93 rfl
                                  have d100 := hd 15 rfl 100 rfl
                                  exact sk_val (v := .bool (!decide ((List.map toB t191) = (List.map toB t197)))) (by exact xr_pickF rfl d93 c187 d100) rfl rfl
                                · intro ρz wz hz hk hd
                                  have d101 := hd 16 rfl 101 rfl
                                  exact sk_val (v := .bool (!decide ((List.map toB t191) = (List.map toB t197)))) (by exact xr_move rfl d101) rfl rfl
                                · intro ρz wz hz hk hd
                                  have d102 := hd 17 rfl 102 rfl
                                  exact sk_gval (v := .pointer (some ⟨G49, 0, none⟩)) (by exact xr_move rfl ((hk 5 rfl).trans e5)) rfl rfl d102 c203 rfl
                                · intro ρz wz hz hk hd
                                  have d103 := hd 18 rfl 103 rfl
                                  have d102 := hd 17 rfl 102 rfl
                                  refine sk_gop (by exact opv_call rfl cal37 (ac d103 an) (pmem_Device_Steps.ok fu _ t144.2.2 G49 u147 (o148.gr hz).rd u151 (o152.gr hz).rd (b51.gr hz) _ k214)) rfl rfl d102 c203 ?_
                                  rintro _ wy ⟨rfl, q215⟩
                                  exact ⟨rfl, q215⟩
                                · intro ρz wz hz hk hd
                                  have d102 := hd 17 rfl 102 rfl
                                  exact sk_gval (v := .pointer (some ⟨G68, 0, none⟩)) (by exact xr_move rfl ((hk 7 rfl).trans e7)) rfl rfl d102 c203 rfl
                                · intro ρz wz hz hk hd
                                  have d105 := hd 20 rfl 105 rfl
                                  have d102 := hd 17 rfl 102 rfl
                                  refine sk_gop (by exact opv_call rfl cal37 (ac d105 an) (pmem_Device_Steps.ok fu _ t163.2.2 G68 u166 (o167.gr hz).rd u170 (o171.gr hz).rd (b70.gr hz) _ k217)) rfl rfl d102 c203 ?_
                                  rintro _ wy ⟨rfl, q218⟩
                                  exact ⟨rfl, q218⟩
                                · intro ρz wz hz hk hd
                                  have d104 := hd 19 rfl 104 rfl
                                  have d106 := hd 21 rfl 106 rfl
                                  have d102 := hd 17 rfl 102 rfl
                                  exact sk_gval (v := .bool (!decide (t213 = t216))) (by exact xr_neI rfl Try.underlying3 rfl d104 d106) rfl rfl d102 c203 rfl
                              · intro ρ219 w220 q221 hk hd
                                have e0 := (hk 0 rfl).trans e0
                                have e1 := (hk 1 rfl).trans e1
                                have e5 := (hk 5 rfl).trans e5
                                have e7 := (hk 7 rfl).trans e7
                                have e9 := (hk 9 rfl).trans e9
                                have e89 := hd 4 rfl 89 rfl
                                have e90 := hd 5 rfl 90 rfl
                                have e91 := hd 6 rfl 91 rfl
                                have e94 := hd 9 rfl 94 rfl
                                obtain ⟨u222, o223, e95⟩ := hd 10 rfl 95 rfl
                                have e96 := hd 11 rfl 96 rfl
                                have e97 := hd 12 rfl 97 rfl
                                obtain ⟨u224, o225, e98⟩ := hd 13 rfl 98 rfl
                                have e99 := hd 14 rfl 99 rfl
                                have e100 := hd 15 rfl 100 rfl
                                have e102 := hd 17 rfl 102 rfl
                                have e103 := hd 18 rfl 103 rfl
                                have e104 := hd 19 rfl 104 rfl
                                have e105 := hd 20 rfl 105 rfl
                                have e106 := hd 21 rfl 106 rfl
                                have e107 := hd 22 rfl 107 rfl
                                have b51 := b51.gr q221
                                have b70 := b70.gr q221
                                have o148 := o148.gr q221
                                have o152 := o152.gr q221
                                have o167 := o167.gr q221
                                have o171 := o171.gr q221
                                have fB := fB.gr q221
                                refine ol_val (v := .bool (!decide (t213 = t216))) (by exact xr_pickF rfl e102 c203 e107) rfl rfl rfl ?_
                                refine ol_nil ?_
                                obtain rfl := Option.some.inj j182
                                refine thn_i ?_
                                exact ⟨e0, e1, e5, e7, e9, rfl, q221⟩
                      · skip
                        rintro ρ228 w229 ⟨e0, e1, e5, e7, e9, e108, q230⟩
                        have b51 := b51.gr q230
                        have b70 := b70.gr q230
                        have o148 := o148.gr q230
                        have o152 := o152.gr q230
                        have o167 := o167.gr q230
                        have o171 := o171.gr q230
                        have fB := fB.gr q230
                        rcases is h with ⟨c231, h⟩ | ⟨c231, h⟩
                        · refine cw_condT e108 c231 ?_
                          refine cw_seq ?_
                          refine cw_region ?_
                          refine ol_val (v := .bool false) (by exact xr_assign rfl rfl) rfl rfl rfl ?_
                          refine ol_nil ?_
                          refine cw_ret ?_
                          repeat (first | with_reducible refine thn_r ?_ | with_reducible refine blk_r ?_)
                          obtain rfl := Option.some.inj h
                          refine lp_ret ?_
                          rintro rfl
                          repeat (first | with_reducible refine thn_r ?_ | with_reducible refine blk_r ?_)
                          have h := h103
                          obtain rfl := Option.some.inj h
                          refine fin_ret1 Try.results4 rfl ?_
                          exact ⟨_, rfl, rfl, fB⟩
                        · refine cw_condF e108 c231 ?_
                          refine cw_skip ?_
                          refine blk_i ?_
                          refine cw_region ?_
                          refine ol_val (v := .int .i64 s100.1) (by exact xr_move rfl e9) rfl rfl rfl ?_
                          refine ol_val (v := .int .i64 (IntKind.i64.wrap (s100.1 + 1))) (by exact xr_add rfl rfl rfl) rfl rfl rfl ?_
                          refine ol_val (v := .int .i64 (IntKind.i64.wrap (s100.1 + 1))) (by exact xr_assign rfl rfl) rfl rfl rfl ?_
                          refine ol_nil ?_
                          obtain rfl := Option.some.inj h
                          refine lp_in ?_
                          exact ⟨u147, u151, u166, u170, o148, o152, o167, o171, a179, a180, e0, e1, e5, e7, rfl, b51, b70, fB⟩
                · refine cw_condF rfl c134 ?_
                  refine cw_exit ?_
                  repeat (first | with_reducible refine thn_e ?_ | with_reducible refine blk_e rfl ?_)
                  obtain rfl := Option.some.inj h
                  refine lp_exit ?_
                  rintro rfl
                  refine thn_x ?_
                  exact ⟨_, rfl, v117, v120, v123, v126, o118, o121, e0, e5, b51, fB⟩
            · rintro ρ232 w233 ⟨x104, rfl, v105, v108, v111, v114, o106, o109, e0, e5, b51, fB⟩
              have h := h103
              refine cw_seq ?_
              refine cw_seq ?_
              refine cw_region ?_
              refine ol_val (v := .pointer (some ⟨G49, 0, none⟩)) (by exact xr_move rfl e5) rfl rfl rfl ?_
              obtain ⟨t234, k235, h⟩ := bs h
              refine ol_op (by exact opv_call rfl cal37 (ac rfl an) (pmem_Device_Steps.ok fu _ (⟨x104.1, (⟨x104.2.1, x104.2.2.1⟩ : S_pmem_plan), x104.2.2.2.1, x104.2.2.2.2.1, x104.2.2.2.2.2.1, x104.2.2.2.2.2.2.1⟩ : S_pmem_Device) G49 v105 (o106.rd) v108 (o109.rd) b51 _ k235)) rfl rfl rfl ?_
              rintro _ w237 ⟨rfl, q236⟩
              have b51 := b51.gr q236
              have o106 := o106.gr q236
              have o109 := o109.gr q236
              have fB := fB.gr q236
              refine ol_val (v := .int .i64 t234) (by exact xr_assign rfl rfl) rfl rfl rfl ?_
              refine ol_nil ?_
              refine cw_seq ?_
              obtain ⟨x238, j239, h⟩ := bs h
              refine cw_mid (fun ρ' w' => ρ' 0 = V0_0 ∧ ρ' 5 = .pointer (some ⟨G49, 0, none⟩) ∧ ρ' 15 = .int .i64 t234 ∧ ρ' 128 = .bool x238 ∧ w237 = w') ?_ ?_
              · skip
                refine cw_region ?_
                refine ol_val (v := .int .i64 t234) (by exact xr_move rfl rfl) rfl rfl rfl ?_
                refine ol_val (v := .bool (decide (t234 > 0))) (by exact xr_gtr rfl rfl rfl) rfl rfl rfl ?_
                refine ol_val (v := .bool (decide (t234 > 0))) (by exact xr_move rfl rfl) rfl rfl rfl ?_
                rcases is j239 with ⟨c240, j239⟩ | ⟨c240, j239⟩
                · skip
                  refine ol_gval (v := V0_0) (by exact xr_move rfl e0) rfl rfl rfl rfl rfl c240 ?_
                  refine ol_gval (v := .int .i64 (List.length a0 : Int)) (by exact xr_lenR rfl Try.underlying25 rfl (R0_0.gr fB)) rfl rfl rfl rfl rfl c240 ?_
                  refine ol_gval (v := .bool (decide ((List.length a0 : Int) > 0))) (by exact xr_gtr rfl rfl rfl) rfl rfl rfl rfl rfl c240 ?_
                  refine ol_val (v := .bool (decide ((List.length a0 : Int) > 0))) (by exact xr_pickT rfl rfl c240 rfl) rfl rfl rfl ?_
                  refine ol_val (v := .bool (decide ((List.length a0 : Int) > 0))) (by exact xr_move rfl rfl) rfl rfl rfl ?_
                  rcases is j239 with ⟨c241, j239⟩ | ⟨c241, j239⟩
                  · skip
                    refine ol_gval (v := V0_0) (by exact xr_move rfl e0) rfl rfl rfl rfl rfl c241 ?_
                    refine ol_gval (v := .int .i64 t234) (by exact xr_move rfl rfl) rfl rfl rfl rfl rfl c241 ?_
                    refine ol_gval (v := .int .i64 (IntKind.i64.wrap (t234 - 1))) (by exact xr_sub rfl rfl rfl) rfl rfl rfl rfl rfl c241 ?_
                    refine ol_gval (v := V0_0) (by exact xr_move rfl e0) rfl rfl rfl rfl rfl c241 ?_
                    refine ol_gval (v := .int .i64 (List.length a0 : Int)) (by exact xr_lenR rfl Try.underlying25 rfl (R0_0.gr fB)) rfl rfl rfl rfl rfl c241 ?_
                    obtain ⟨g242, j239⟩ := gs j239
                    refine ol_gval (v := .int .i64 (Int.tmod (IntKind.i64.wrap (t234 - 1)) (List.length a0 : Int))) (by exact xr_rem rfl rfl rfl g242) rfl rfl rfl rfl rfl c241 ?_
                    obtain ⟨g243, j239⟩ := gs j239
                    refine ol_gval (v := .pointer (some ⟨(sb V0_0), so V0_0 + Int.toNat (Int.tmod (IntKind.i64.wrap (t234 - 1)) (List.length a0 : Int)) * 1, none⟩)) (by exact xr_indexR (K := (kI .i64)) (v := V0_0) rfl Try.underlying25 sz3 rfl (R0_0.gr fB) rfl g243.1 g243.2) rfl rfl rfl rfl rfl c241 ?_
                    refine ol_gval (v := .int .i64 (ix a0 (Int.tmod (IntKind.i64.wrap (t234 - 1)) (List.length a0 : Int)))) (by exact xr_load1 (v := .int .i64 (ix a0 (Int.tmod (IntKind.i64.wrap (t234 - 1)) (List.length a0 : Int)))) rfl ag3 rfl ((R0_0.gr fB).elem g243.1 g243.2)) rfl rfl rfl rfl rfl c241 ?_
                    refine ol_gval (v := .bool (decide ((ix a0 (Int.tmod (IntKind.i64.wrap (t234 - 1)) (List.length a0 : Int))) ≥ 0))) (by exact xr_geq rfl rfl rfl) rfl rfl rfl rfl rfl c241 ?_
                    refine ol_val (v := .bool (decide ((ix a0 (Int.tmod (IntKind.i64.wrap (t234 - 1)) (List.length a0 : Int))) ≥ 0))) (by exact xr_pickT rfl rfl c241 rfl) rfl rfl rfl ?_
                    refine ol_nil ?_
                    obtain rfl := Option.some.inj j239
                    refine thn_i ?_
                    exact ⟨e0, e5, rfl, rfl, rfl⟩
                  · skip
                    refine ol_gskip rfl rfl rfl rfl rfl c241 ?_
                    refine ol_gskip rfl rfl rfl rfl rfl c241 ?_
                    refine ol_gskip rfl rfl rfl rfl rfl c241 ?_
                    refine ol_gskip rfl rfl rfl rfl rfl c241 ?_
                    refine ol_gskip rfl rfl rfl rfl rfl c241 ?_
                    refine ol_gskip rfl rfl rfl rfl rfl c241 ?_
                    refine ol_gskip rfl rfl rfl rfl rfl c241 ?_
                    refine ol_gskip rfl rfl rfl rfl rfl c241 ?_
                    refine ol_gskip rfl rfl rfl rfl rfl c241 ?_
                    refine ol_val (v := .bool false) (by exact xr_pickF rfl rfl c241 rfl) rfl rfl rfl ?_
                    refine ol_nil ?_
                    obtain rfl := Option.some.inj j239
                    refine thn_i ?_
                    exact ⟨e0, e5, rfl, rfl, rfl⟩
                · skip
                  refine ol_gskip rfl rfl rfl rfl rfl c240 ?_
                  refine ol_gskip rfl rfl rfl rfl rfl c240 ?_
                  refine ol_gskip rfl rfl rfl rfl rfl c240 ?_
                  refine ol_val (v := .bool false) (by exact xr_pickF rfl rfl c240 rfl) rfl rfl rfl ?_
                  refine ol_val (v := .bool false) (by exact xr_move rfl rfl) rfl rfl rfl ?_
                  refine ol_gskip rfl rfl rfl rfl rfl rfl ?_
                  refine ol_gskip rfl rfl rfl rfl rfl rfl ?_
                  refine ol_gskip rfl rfl rfl rfl rfl rfl ?_
                  refine ol_gskip rfl rfl rfl rfl rfl rfl ?_
                  refine ol_gskip rfl rfl rfl rfl rfl rfl ?_
                  refine ol_gskip rfl rfl rfl rfl rfl rfl ?_
                  refine ol_gskip rfl rfl rfl rfl rfl rfl ?_
                  refine ol_gskip rfl rfl rfl rfl rfl rfl ?_
                  refine ol_gskip rfl rfl rfl rfl rfl rfl ?_
                  refine ol_val (v := .bool false) (by exact xr_pickF rfl rfl rfl rfl) rfl rfl rfl ?_
                  refine ol_nil ?_
                  obtain rfl := Option.some.inj j239
                  refine thn_i ?_
                  exact ⟨e0, e5, rfl, rfl, rfl⟩
              · skip
                rintro ρ244 _ ⟨e0, e5, e15, e128, rfl⟩
                rcases is h with ⟨c245, h⟩ | ⟨c245, h⟩
                · refine cw_condT e128 c245 ?_
                  refine cw_seq ?_
                  refine cw_region ?_
                  refine ol_val (v := V0_0) (by exact xr_move rfl e0) rfl rfl rfl ?_
                  refine ol_val (v := .int .i64 t234) (by exact xr_move rfl e15) rfl rfl rfl ?_
                  refine ol_val (v := .int .i64 (IntKind.i64.wrap (t234 - 1))) (by exact xr_sub rfl rfl rfl) rfl rfl rfl ?_
                  refine ol_val (v := V0_0) (by exact xr_move rfl e0) rfl rfl rfl ?_
                  refine ol_val (v := .int .i64 (List.length a0 : Int)) (by exact xr_lenR rfl Try.underlying25 rfl (R0_0.gr fB)) rfl rfl rfl ?_
                  obtain ⟨g246, h⟩ := gs h
                  refine ol_val (v := .int .i64 (Int.tmod (IntKind.i64.wrap (t234 - 1)) (List.length a0 : Int))) (by exact xr_rem rfl rfl rfl g246) rfl rfl rfl ?_
                  obtain ⟨g247, h⟩ := gs h
                  refine ol_val (v := .pointer (some ⟨(sb V0_0), so V0_0 + Int.toNat (Int.tmod (IntKind.i64.wrap (t234 - 1)) (List.length a0 : Int)) * 1, none⟩)) (by exact xr_indexR (K := (kI .i64)) (v := V0_0) rfl Try.underlying25 sz3 rfl (R0_0.gr fB) rfl g247.1 g247.2) rfl rfl rfl ?_
                  refine ol_val (v := .int .i64 (ix a0 (Int.tmod (IntKind.i64.wrap (t234 - 1)) (List.length a0 : Int)))) (by exact xr_load1 (v := .int .i64 (ix a0 (Int.tmod (IntKind.i64.wrap (t234 - 1)) (List.length a0 : Int)))) rfl ag3 rfl ((R0_0.gr fB).elem g247.1 g247.2)) rfl rfl rfl ?_
                  refine ol_val (v := .int .i64 (Int.tmod (ix a0 (Int.tmod (IntKind.i64.wrap (t234 - 1)) (List.length a0 : Int))) 24)) (by exact xr_rem rfl rfl rfl (by decide)) rfl rfl rfl ?_
                  refine ol_val (v := .int .i64 (Int.tmod (ix a0 (Int.tmod (IntKind.i64.wrap (t234 - 1)) (List.length a0 : Int))) 24)) (by exact xr_assign rfl rfl) rfl rfl rfl ?_
                  refine ol_nil ?_
                  refine cw_seq ?_
                  refine cw_region ?_
                  refine ol_val (v := .pointer (some ⟨G49, 0, none⟩)) (by exact xr_move rfl e5) rfl rfl rfl ?_
                  obtain ⟨t248, k249, h⟩ := bs h
                  refine ol_op (by exact opv_call rfl cal33 (ac rfl an) (pmem_Device_Image.ok fu _ (⟨x104.1, (⟨x104.2.1, x104.2.2.1⟩ : S_pmem_plan), x104.2.2.2.1, x104.2.2.2.2.1, x104.2.2.2.2.2.1, x104.2.2.2.2.2.2.1⟩ : S_pmem_Device) G49 v105 (o106.rd) v108 (o109.rd) b51 _ k249)) rfl rfl rfl ?_
                  rintro u250 w254 ⟨_, o251, rfl, q253⟩
                  have o251 := Own.base o251 fB.size
                  have b51 := b51.gr q253
                  have o106 := o106.gr q253
                  have o109 := o109.gr q253
                  have fB := fB.gr q253
                  refine ol_val (v := .pointer (some ⟨G49, 0, none⟩)) (by exact xr_move rfl e5) rfl rfl rfl ?_
                  obtain ⟨t255, k256, h⟩ := bs h
                  refine ol_op (by exact opv_call rfl cal36 (ac rfl an) (pmem_Device_View.ok fu _ (⟨x104.1, (⟨x104.2.1, x104.2.2.1⟩ : S_pmem_plan), x104.2.2.2.1, x104.2.2.2.2.1, x104.2.2.2.2.2.1, x104.2.2.2.2.2.2.1⟩ : S_pmem_Device) G49 v105 (o106.rd) v108 (o109.rd) b51 _ k256)) rfl rfl rfl ?_
                  rintro u257 w261 ⟨_, o258, rfl, q260⟩
                  have a262 := OffV.call o251 o258
                  have o258 := Own.base o258 fB.size
                  have o251 := o251.gr q260
                  have fB := fB.gr q260
                  refine ol_val (v := u250) (by exact xr_assign rfl rfl) rfl rfl rfl ?_
                  refine ol_val (v := u257) (by exact xr_assign rfl rfl) rfl rfl rfl ?_
                  refine ol_nil ?_
                  refine cw_seq ?_
                  obtain ⟨x263, j264, h⟩ := bs h
                  refine cw_mid (fun ρ' w' => ρ' 4 = .bool x263 ∧ Gr w261 w') ?_ ?_
                  · skip
                    rcases is j264 with ⟨c265, j264⟩ | ⟨c265, j264⟩
                    · skip
                      rcases is j264 with ⟨c266, j264⟩ | ⟨c266, j264⟩
                      · skip
                        obtain ⟨g268, j264⟩ := gs j264
                        obtain ⟨g270, j264⟩ := gs j264
                        refine cw_drawL 26 [fun vz wz => vz = (u250 : Value), fun vz wz => vz = (.int .i64 (List.length t248 : Int) : Value), fun vz wz => vz = (.bool (decide ((List.length t248 : Int) = 192)) : Value), fun vz wz => vz = (.bool (decide ((List.length t248 : Int) = 192)) : Value), fun vz wz => vz = (u257 : Value), fun vz wz => vz = (.int .i64 (List.length t255 : Int) : Value), fun vz wz => vz = (.bool (decide ((List.length t255 : Int) = 192)) : Value), fun vz wz => vz = (.bool (decide ((List.length t255 : Int) = 192)) : Value), fun vz wz => vz = (.bool (decide ((List.length t255 : Int) = 192)) : Value), fun vz wz => vz = (u250 : Value), fun vz wz => vz = (.int .i64 (Int.tmod (ix a0 (Int.tmod (IntKind.i64.wrap (t234 - 1)) (List.length a0 : Int))) 24) : Value), fun vz wz => vz = (.int .i64 (IntKind.i64.wrap (8 * (Int.tmod (ix a0 (Int.tmod (IntKind.i64.wrap (t234 - 1)) (List.length a0 : Int))) 24))) : Value), fun vz wz => vz = (.int .i64 (Int.tmod (ix a0 (Int.tmod (IntKind.i64.wrap (t234 - 1)) (List.length a0 : Int))) 24) : Value), fun vz wz => vz = (.int .i64 (IntKind.i64.wrap (8 * (Int.tmod (ix a0 (Int.tmod (IntKind.i64.wrap (t234 - 1)) (List.length a0 : Int))) 24))) : Value), fun vz wz => vz = (.int .i64 (IntKind.i64.wrap ((IntKind.i64.wrap (8 * (Int.tmod (ix a0 (Int.tmod (IntKind.i64.wrap (t234 - 1)) (List.length a0 : Int))) 24))) + 8)) : Value), fun vz wz => ∃ r267 : Rd (kI .u8) wz (subv 1 u250 (Int.toNat (IntKind.i64.wrap (8 * (Int.tmod (ix a0 (Int.tmod (IntKind.i64.wrap (t234 - 1)) (List.length a0 : Int))) 24)))) (Int.toNat (IntKind.i64.wrap ((IntKind.i64.wrap (8 * (Int.tmod (ix a0 (Int.tmod (IntKind.i64.wrap (t234 - 1)) (List.length a0 : Int))) 24))) + 8)))) (cut t248 (IntKind.i64.wrap (8 * (Int.tmod (ix a0 (Int.tmod (IntKind.i64.wrap (t234 - 1)) (List.length a0 : Int))) 24))) (IntKind.i64.wrap ((IntKind.i64.wrap (8 * (Int.tmod (ix a0 (Int.tmod (IntKind.i64.wrap (t234 - 1)) (List.length a0 : Int))) 24))) + 8))), vz = (subv 1 u250 (Int.toNat (IntKind.i64.wrap (8 * (Int.tmod (ix a0 (Int.tmod (IntKind.i64.wrap (t234 - 1)) (List.length a0 : Int))) 24)))) (Int.toNat (IntKind.i64.wrap ((IntKind.i64.wrap (8 * (Int.tmod (ix a0 (Int.tmod (IntKind.i64.wrap (t234 - 1)) (List.length a0 : Int))) 24))) + 8))) : Value), fun vz wz => vz = (sv (List.map toB (cut t248 (IntKind.i64.wrap (8 * (Int.tmod (ix a0 (Int.tmod (IntKind.i64.wrap (t234 - 1)) (List.length a0 : Int))) 24))) (IntKind.i64.wrap ((IntKind.i64.wrap (8 * (Int.tmod (ix a0 (Int.tmod (IntKind.i64.wrap (t234 - 1)) (List.length a0 : Int))) 24))) + 8)))) : Value), fun vz wz => vz = (u257 : Value), fun vz wz => vz = (.int .i64 (Int.tmod (ix a0 (Int.tmod (IntKind.i64.wrap (t234 - 1)) (List.length a0 : Int))) 24) : Value), fun vz wz => vz = (.int .i64 (IntKind.i64.wrap (8 * (Int.tmod (ix a0 (Int.tmod (IntKind.i64.wrap (t234 - 1)) (List.length a0 : Int))) 24))) : Value), fun vz wz => vz = (.int .i64 (Int.tmod (ix a0 (Int.tmod (IntKind.i64.wrap (t234 - 1)) (List.length a0 : Int))) 24) : Value), fun vz wz => vz = (.int .i64 (IntKind.i64.wrap (8 * (Int.tmod (ix a0 (Int.tmod (IntKind.i64.wrap (t234 - 1)) (List.length a0 : Int))) 24))) : Value), fun vz wz => vz = (.int .i64 (IntKind.i64.wrap ((IntKind.i64.wrap (8 * (Int.tmod (ix a0 (Int.tmod (IntKind.i64.wrap (t234 - 1)) (List.length a0 : Int))) 24))) + 8)) : Value), fun vz wz => ∃ r269 : Rd (kI .u8) wz (subv 1 u257 (Int.toNat (IntKind.i64.wrap (8 * (Int.tmod (ix a0 (Int.tmod (IntKind.i64.wrap (t234 - 1)) (List.length a0 : Int))) 24)))) (Int.toNat (IntKind.i64.wrap ((IntKind.i64.wrap (8 * (Int.tmod (ix a0 (Int.tmod (IntKind.i64.wrap (t234 - 1)) (List.length a0 : Int))) 24))) + 8)))) (cut t255 (IntKind.i64.wrap (8 * (Int.tmod (ix a0 (Int.tmod (IntKind.i64.wrap (t234 - 1)) (List.length a0 : Int))) 24))) (IntKind.i64.wrap ((IntKind.i64.wrap (8 * (Int.tmod (ix a0 (Int.tmod (IntKind.i64.wrap (t234 - 1)) (List.length a0 : Int))) 24))) + 8))), vz = (subv 1 u257 (Int.toNat (IntKind.i64.wrap (8 * (Int.tmod (ix a0 (Int.tmod (IntKind.i64.wrap (t234 - 1)) (List.length a0 : Int))) 24)))) (Int.toNat (IntKind.i64.wrap ((IntKind.i64.wrap (8 * (Int.tmod (ix a0 (Int.tmod (IntKind.i64.wrap (t234 - 1)) (List.length a0 : Int))) 24))) + 8))) : Value), fun vz wz => vz = (sv (List.map toB (cut t255 (IntKind.i64.wrap (8 * (Int.tmod (ix a0 (Int.tmod (IntKind.i64.wrap (t234 - 1)) (List.length a0 : Int))) 24))) (IntKind.i64.wrap ((IntKind.i64.wrap (8 * (Int.tmod (ix a0 (Int.tmod (IntKind.i64.wrap (t234 - 1)) (List.length a0 : Int))) 24))) + 8)))) : Value), fun vz wz => vz = (.bool (decide ((List.map toB (cut t248 (IntKind.i64.wrap (8 * (Int.tmod (ix a0 (Int.tmod (IntKind.i64.wrap (t234 - 1)) (List.length a0 : Int))) 24))) (IntKind.i64.wrap ((IntKind.i64.wrap (8 * (Int.tmod (ix a0 (Int.tmod (IntKind.i64.wrap (t234 - 1)) (List.length a0 : Int))) 24))) + 8)))) = (List.map toB (cut t255 (IntKind.i64.wrap (8 * (Int.tmod (ix a0 (Int.tmod (IntKind.i64.wrap (t234 - 1)) (List.length a0 : Int))) 24))) (IntKind.i64.wrap ((IntKind.i64.wrap (8 * (Int.tmod (ix a0 (Int.tmod (IntKind.i64.wrap (t234 - 1)) (List.length a0 : Int))) 24))) + 8)))))) : Value)] mo rfl ⟨fun _ _ _ h _ => h, fun _ _ _ h _ => h, fun _ _ _ h _ => h, fun _ _ _ h _ => h, fun _ _ _ h _ => h, fun _ _ _ h _ => h, fun _ _ _ h _ => h, fun _ _ _ h _ => h, fun _ _ _ h _ => h, fun _ _ _ h _ => h, fun _ _ _ h _ => h, fun _ _ _ h _ => h, fun _ _ _ h _ => h, fun _ _ _ h _ => h, fun _ _ _ h _ => h, fun _ _ _ ⟨r267, h⟩ q => ⟨r267.gr q, h⟩, fun _ _ _ h _ => h, fun _ _ _ h _ => h, fun _ _ _ h _ => h, fun _ _ _ h _ => h, fun _ _ _ h _ => h, fun _ _ _ h _ => h, fun _ _ _ h _ => h, fun _ _ _ ⟨r269, h⟩ q => ⟨r269.gr q, h⟩, fun _ _ _ h _ => h, fun _ _ _ h _ => h, trivial⟩ ?_ ?_
                        · refine ⟨?_, ?_, ?_, ?_, ?_, ?_, ?_, ?_, ?_, ?_, ?_, ?_, ?_, ?_, ?_, ?_, ?_, ?_, ?_, ?_, ?_, ?_, ?_, ?_, ?_, ?_, trivial⟩
                          · intro ρz wz hz hk hd
                            exact sk_val (v := u250) (by exact xr_move rfl ((hk 17 rfl).trans rfl)) rfl rfl
                          · intro ρz wz hz hk hd
                            have d142 := hd 0 rfl 142 rfl
                            exact sk_val (v := .int .i64 (List.length t248 : Int)) (by exact xr_lenR rfl Try.underlying43 d142 (o251.gr hz).rd) rfl rfl
                          · intro ρz wz hz hk hd
                            have d143 := hd 1 rfl 143 rfl
                            exact sk_val (v := .bool (decide ((List.length t248 : Int) = 192))) (by exact xr_eqI rfl Try.underlying3 rfl d143 rfl) rfl rfl
                          · intro ρz wz hz hk hd
                            have d144 := hd 2 rfl 144 rfl
                            exact sk_val (v := .bool (decide ((List.length t248 : Int) = 192))) (by exact xr_move rfl d144) rfl rfl
                          · intro ρz wz hz hk hd
                            have d145 := hd 3 rfl 145 rfl
                            exact sk_gval (v := u257) (by exact xr_move rfl ((hk 18 rfl).trans rfl)) rfl rfl d145 c265 rfl
                          · intro ρz wz hz hk hd
                            have d146 := hd 4 rfl 146 rfl
                            have d145 := hd 3 rfl 145 rfl
                            exact sk_gval (v := .int .i64 (List.length t255 : Int)) (by exact xr_lenR rfl Try.underlying43 d146 (o258.gr hz).rd) rfl rfl d145 c265 rfl
                          · intro ρz wz hz hk hd
                            have d147 := hd 5 rfl 147 rfl
                            have d145 := hd 3 rfl 145 rfl
                            exact sk_gval (v := .bool (decide ((List.length t255 : Int) = 192))) (by exact xr_eqI rfl Try.underlying3 rfl d147 rfl) rfl rfl d145 c265 rfl
                          · intro ρz wz hz hk hd
                            have d145 := hd 3 rfl 145 rfl
                            have d148 := hd 6 rfl 148 rfl
                            exact sk_val (v := .bool (decide ((List.length t255 : Int) = 192))) (by exact xr_pickT rfl d145 c265 d148) rfl rfl
                          · intro ρz wz hz hk hd
                            have d149 := hd 7 rfl 149 rfl
                            exact sk_val (v := .bool (decide ((List.length t255 : Int) = 192))) (by exact xr_move rfl d149) rfl rfl
                          · intro ρz wz hz hk hd
                            have d150 := hd 8 rfl 150 rfl
                            exact sk_gval (v := u250) (by exact xr_move rfl ((hk 17 rfl).trans rfl)) rfl rfl d150 c266 rfl
                          · intro ρz wz hz hk hd
                            have d150 := hd 8 rfl 150 rfl
                            exact sk_gval (by exact xr_move rfl ((hk 16 rfl).trans rfl)) rfl rfl d150 c266 rfl
                          · intro ρz wz hz hk hd
                            have d152 := hd 10 rfl 152 rfl
                            have d150 := hd 8 rfl 150 rfl
                            exact sk_gval (by exact xr_mul rfl rfl d152) rfl rfl d150 c266 rfl
                          · intro ρz wz hz hk hd
                            have d150 := hd 8 rfl 150 rfl
                            exact sk_gval (by exact xr_move rfl ((hk 16 rfl).trans rfl)) rfl rfl d150 c266 rfl
                          · intro ρz wz hz hk hd
                            have d154 := hd 12 rfl 154 rfl
                            have d150 := hd 8 rfl 150 rfl
                            exact sk_gval (by exact xr_mul rfl rfl d154) rfl rfl d150 c266 rfl
                          · intro ρz wz hz hk hd
                            have d155 := hd 13 rfl 155 rfl
                            have d150 := hd 8 rfl 150 rfl
                            exact sk_gval (by exact xr_add rfl d155 rfl) rfl rfl d150 c266 rfl
                          · intro ρz wz hz hk hd
                            have d151 := hd 9 rfl 151 rfl
                            have d153 := hd 11 rfl 153 rfl
                            have d156 := hd 14 rfl 156 rfl
                            have d150 := hd 8 rfl 150 rfl
                            exact sk_gval (by exact xr_slice_lh (K := (kI .u8)) (v := u250) rfl Try.underlying43 sz5 d151 (o251.gr hz).rd d153 d156 g268.1 g268.2.1 g268.2.2) rfl rfl d150 c266 ⟨(o251.gr hz).rd.cut (lo := (IntKind.i64.wrap (8 * (Int.tmod (ix a0 (Int.tmod (IntKind.i64.wrap (t234 - 1)) (List.length a0 : Int))) 24)))) (hi := (IntKind.i64.wrap ((IntKind.i64.wrap (8 * (Int.tmod (ix a0 (Int.tmod (IntKind.i64.wrap (t234 - 1)) (List.length a0 : Int))) 24))) + 8))) g268.1 g268.2.1 g268.2.2, rfl⟩
                          · intro ρz wz hz hk hd
                            obtain ⟨r267, d157⟩ := hd 15 rfl 157 rfl
                            have d150 := hd 8 rfl 150 rfl
                            exact sk_gval (by exact xr_toStr rfl Try.underlying43 Try.underlying5 Try.underlying9 d157 r267) rfl rfl d150 c266 rfl
                          · intro ρz wz hz hk hd
                            have d150 := hd 8 rfl 150 rfl
                            exact sk_gval (v := u257) (by exact xr_move rfl ((hk 18 rfl).trans rfl)) rfl rfl d150 c266 rfl
                          · intro ρz wz hz hk hd
                            have d150 := hd 8 rfl 150 rfl
                            exact sk_gval (by exact xr_move rfl ((hk 16 rfl).trans rfl)) rfl rfl d150 c266 rfl
                          · intro ρz wz hz hk hd
                            have d160 := hd 18 rfl 160 rfl
                            have d150 := hd 8 rfl 150 rfl
                            exact sk_gval (by exact xr_mul rfl rfl d160) rfl rfl d150 c266 rfl
                          · intro ρz wz hz hk hd
                            have d150 := hd 8 rfl 150 rfl
                            exact sk_gval (by exact xr_move rfl ((hk 16 rfl).trans rfl)) rfl rfl d150 c266 rfl
                          · intro ρz wz hz hk hd
                            have d162 := hd 20 rfl 162 rfl
                            have d150 := hd 8 rfl 150 rfl
                            exact sk_gval (by exact xr_mul rfl rfl d162) rfl rfl d150 c266 rfl
                          · intro ρz wz hz hk hd
                            have d163 := hd 21 rfl 163 rfl
                            have d150 := hd 8 rfl 150 rfl
                            exact sk_gval (by exact xr_add rfl d163 rfl) rfl rfl d150 c266 rfl
                          · intro ρz wz hz hk hd
                            have d159 := hd 17 rfl 159 rfl
                            have d161 := hd 19 rfl 161 rfl
                            have d164 := hd 22 rfl 164 rfl
                            have d150 := hd 8 rfl 150 rfl
                            exact sk_gval (by exact xr_slice_lh (K := (kI .u8)) (v := u257) rfl Try.underlying43 sz5 d159 (o258.gr hz).rd d161 d164 g270.1 g270.2.1 g270.2.2) rfl rfl d150 c266 ⟨(o258.gr hz).rd.cut (lo := (IntKind.i64.wrap (8 * (Int.tmod (ix a0 (Int.tmod (IntKind.i64.wrap (t234 - 1)) (List.length a0 : Int))) 24)))) (hi := (IntKind.i64.wrap ((IntKind.i64.wrap (8 * (Int.tmod (ix a0 (Int.tmod (IntKind.i64.wrap (t234 - 1)) (List.length a0 : Int))) 24))) + 8))) g270.1 g270.2.1 g270.2.2, rfl⟩
                          · intro ρz wz hz hk hd
                            obtain ⟨r269, d165⟩ := hd 23 rfl 165 rfl
                            have d150 := hd 8 rfl 150 rfl
                            exact sk_gval (by exact xr_toStr rfl Try.underlying43 Try.underlying5 Try.underlying9 d165 r269) rfl rfl d150 c266 rfl
                          · intro ρz wz hz hk hd
                            have d158 := hd 16 rfl 158 rfl
                            have d166 := hd 24 rfl 166 rfl
                            have d150 := hd 8 rfl 150 rfl
                            exact sk_gval (by exact xr_eqStr rfl Try.underlying9 d158 d166) rfl rfl d150 c266 rfl
                        · intro ρ271 w272 q273 hk hd
                          have e150 := hd 8 rfl 150 rfl
                          have e167 := hd 25 rfl 167 rfl
                          have fB := fB.gr q273
                          refine ol_val (v := .bool (decide ((List.map toB (cut t248 (IntKind.i64.wrap (8 * (Int.tmod (ix a0 (Int.tmod (IntKind.i64.wrap (t234 - 1)) (List.length a0 : Int))) 24))) (IntKind.i64.wrap ((IntKind.i64.wrap (8 * (Int.tmod (ix a0 (Int.tmod (IntKind.i64.wrap (t234 - 1)) (List.length a0 : Int))) 24))) + 8)))) = (List.map toB (cut t255 (IntKind.i64.wrap (8 * (Int.tmod (ix a0 (Int.tmod (IntKind.i64.wrap (t234 - 1)) (List.length a0 : Int))) 24))) (IntKind.i64.wrap ((IntKind.i64.wrap (8 * (Int.tmod (ix a0 (Int.tmod (IntKind.i64.wrap (t234 - 1)) (List.length a0 : Int))) 24))) + 8))))))) (by exact xr_pickT rfl e150 c266 e167) rfl rfl rfl ?_
                          refine ol_val (v := .bool (decide ((List.map toB (cut t248 (IntKind.i64.wrap (8 * (Int.tmod (ix a0 (Int.tmod (IntKind.i64.wrap (t234 - 1)) (List.length a0 : Int))) 24))) (IntKind.i64.wrap ((IntKind.i64.wrap (8 * (Int.tmod (ix a0 (Int.tmod (IntKind.i64.wrap (t234 - 1)) (List.length a0 : Int))) 24))) + 8)))) = (List.map toB (cut t255 (IntKind.i64.wrap (8 * (Int.tmod (ix a0 (Int.tmod (IntKind.i64.wrap (t234 - 1)) (List.length a0 : Int))) 24))) (IntKind.i64.wrap ((IntKind.i64.wrap (8 * (Int.tmod (ix a0 (Int.tmod (IntKind.i64.wrap (t234 - 1)) (List.length a0 : Int))) 24))) + 8))))))) (by exact xr_assign rfl rfl) rfl rfl rfl ?_
                          refine ol_nil ?_
                          obtain rfl := Option.some.inj j264
                          refine thn_i ?_
                          exact ⟨rfl, q273⟩
                      · skip
                        refine cw_drawL 26 [fun vz wz => vz = (u250 : Value), fun vz wz => vz = (.int .i64 (List.length t248 : Int) : Value), fun vz wz => vz = (.bool (decide ((List.length t248 : Int) = 192)) : Value), fun vz wz => vz = (.bool (decide ((List.length t248 : Int) = 192)) : Value), fun vz wz => vz = (u257 : Value), fun vz wz => vz = (.int .i64 (List.length t255 : Int) : Value), fun vz wz => vz = (.bool (decide ((List.length t255 : Int) = 192)) : Value), fun vz wz => vz = (.bool (decide ((List.length t255 : Int) = 192)) : Value), fun vz wz => vz = (.bool (decide ((List.length t255 : Int) = 192)) : Value), fun vz _ => vz = undef, fun vz _ => vz = undef, fun vz _ => vz = undef, fun vz _ => vz = undef, fun vz _ => vz = undef, fun vz _ => vz = undef, fun vz _ => vz = undef, fun vz _ => vz = undef, fun vz _ => vz = undef, fun vz _ => vz = undef, fun vz _ => vz = undef, fun vz _ => vz = undef, fun vz _ => vz = undef, fun vz _ => vz = undef, fun vz _ => vz = undef, fun vz _ => vz = undef, fun vz _ => vz = undef] mo rfl ⟨fun _ _ _ h _ => h, fun _ _ _ h _ => h, fun _ _ _ h _ => h, fun _ _ _ h _ => h, fun _ _ _ h _ => h, fun _ _ _ h _ => h, fun _ _ _ h _ => h, fun _ _ _ h _ => h, fun _ _ _ h _ => h, fun _ _ _ h _ => h, fun _ _ _ h _ => h, fun _ _ _ h _ => h, fun _ _ _ h _ => h, fun _ _ _ h _ => h, fun _ _ _ h _ => h, fun _ _ _ h _ => h, fun _ _ _ h _ => h, fun _ _ _ h _ => h, fun _ _ _ h _ => h, fun _ _ _ h _ => h, fun _ _ _ h _ => h, fun _ _ _ h _ => h, fun _ _ _ h _ => h, fun _ _ _ h _ => h, fun _ _ _ h _ => h, fun _ _ _ h _ => h, trivial⟩ ?_ ?_
                        · refine ⟨?_, ?_, ?_, ?_, ?_, ?_, ?_, ?_, ?_, ?_, ?_, ?_, ?_, ?_, ?_, ?_, ?_, ?_, ?_, ?_, ?_, ?_, ?_, ?_, ?_, ?_, trivial⟩
                          · intro ρz wz hz hk hd
                            exact sk_val (v := u250) (by exact xr_move rfl ((hk 17 rfl).trans rfl)) rfl rfl
                          · intro ρz wz hz hk hd
                            have d142 := hd 0 rfl 142 rfl
                            exact sk_val (v := .int .i64 (List.length t248 : Int)) (by exact xr_lenR rfl Try.underlying43 d142 (o251.gr hz).rd) rfl rfl
                          · intro ρz wz hz hk hd
                            have d143 := hd 1 rfl 143 rfl
                            exact sk_val (v := .bool (decide ((List.length t248 : Int) = 192))) (by exact xr_eqI rfl Try.underlying3 rfl d143 rfl) rfl rfl
                          · intro ρz wz hz hk hd
                            have d144 := hd 2 rfl 144 rfl
                            exact sk_val (v := .bool (decide ((List.length t248 : Int) = 192))) (by exact xr_move rfl d144) rfl rfl
                          · intro ρz wz hz hk hd
                            have d145 := hd 3 rfl 145 rfl
                            exact sk_gval (v := u257) (by exact xr_move rfl ((hk 18 rfl).trans rfl)) rfl rfl d145 c265 rfl
                          · intro ρz wz hz hk hd
                            have d146 := hd 4 rfl 146 rfl
                            have d145 := hd 3 rfl 145 rfl
                            exact sk_gval (v := .int .i64 (List.length t255 : Int)) (by exact xr_lenR rfl Try.underlying43 d146 (o258.gr hz).rd) rfl rfl d145 c265 rfl
                          · intro ρz wz hz hk hd
                            have d147 := hd 5 rfl 147 rfl
                            have d145 := hd 3 rfl 145 rfl
                            exact sk_gval (v := .bool (decide ((List.length t255 : Int) = 192))) (by exact xr_eqI rfl Try.underlying3 rfl d147 rfl) rfl rfl d145 c265 rfl
                          · intro ρz wz hz hk hd
                            have d145 := hd 3 rfl 145 rfl
                            have d148 := hd 6 rfl 148 rfl
                            exact sk_val (v := .bool (decide ((List.length t255 : Int) = 192))) (by exact xr_pickT rfl d145 c265 d148) rfl rfl
                          · intro ρz wz hz hk hd
                            have d149 := hd 7 rfl 149 rfl
                            exact sk_val (v := .bool (decide ((List.length t255 : Int) = 192))) (by exact xr_move rfl d149) rfl rfl
                          · intro ρz wz hz hk hd
                            have d150 := hd 8 rfl 150 rfl
                            exact sk_skip rfl rfl d150 c266 rfl
                          · intro ρz wz hz hk hd
                            have d150 := hd 8 rfl 150 rfl
                            exact sk_skip rfl rfl d150 c266 rfl
                          · intro ρz wz hz hk hd
                            have d150 := hd 8 rfl 150 rfl
                            exact sk_skip rfl rfl d150 c266 rfl
                          · intro ρz wz hz hk hd
                            have d150 := hd 8 rfl 150 rfl
                            exact sk_skip rfl rfl d150 c266 rfl
                          · intro ρz wz hz hk hd
                            have d150 := hd 8 rfl 150 rfl
                            exact sk_skip rfl rfl d150 c266 rfl
                          · intro ρz wz hz hk hd
                            have d150 := hd 8 rfl 150 rfl
                            exact sk_skip rfl rfl d150 c266 rfl
                          · intro ρz wz hz hk hd
                            have d150 := hd 8 rfl 150 rfl
                            exact sk_skip rfl rfl d150 c266 rfl
                          · intro ρz wz hz hk hd
                            have d150 := hd 8 rfl 150 rfl
                            exact sk_skip rfl rfl d150 c266 rfl
                          · intro ρz wz hz hk hd
                            have d150 := hd 8 rfl 150 rfl
                            exact sk_skip rfl rfl d150 c266 rfl
                          · intro ρz wz hz hk hd
                            have d150 := hd 8 rfl 150 rfl
                            exact sk_skip rfl rfl d150 c266 rfl
                          · intro ρz wz hz hk hd
                            have d150 := hd 8 rfl 150 rfl
                            exact sk_skip rfl rfl d150 c266 rfl
                          · intro ρz wz hz hk hd
                            have d150 := hd 8 rfl 150 rfl
                            exact sk_skip rfl rfl d150 c266 rfl
                          · intro ρz wz hz hk hd
                            have d150 := hd 8 rfl 150 rfl
                            exact sk_skip rfl rfl d150 c266 rfl
                          · intro ρz wz hz hk hd
                            have d150 := hd 8 rfl 150 rfl
                            exact sk_skip rfl rfl d150 c266 rfl
                          · intro ρz wz hz hk hd
                            have d150 := hd 8 rfl 150 rfl
                            exact sk_skip rfl rfl d150 c266 rfl
                          · intro ρz wz hz hk hd
                            have d150 := hd 8 rfl 150 rfl
                            exact sk_skip rfl rfl d150 c266 rfl
                          · intro ρz wz hz hk hd
                            have d150 := hd 8 rfl 150 rfl
                            exact sk_skip rfl rfl d150 c266 rfl
                        · intro ρ274 w275 q276 hk hd
                          have e150 := hd 8 rfl 150 rfl
                          have fB := fB.gr q276
                          refine ol_val (v := .bool false) (by exact xr_pickF rfl e150 c266 rfl) rfl rfl rfl ?_
                          refine ol_val (v := .bool false) (by exact xr_assign rfl rfl) rfl rfl rfl ?_
                          refine ol_nil ?_
                          obtain rfl := Option.some.inj j264
                          refine thn_i ?_
                          exact ⟨rfl, q276⟩
                    · skip
                      refine cw_drawL 26 [fun vz wz => vz = (u250 : Value), fun vz wz => vz = (.int .i64 (List.length t248 : Int) : Value), fun vz wz => vz = (.bool (decide ((List.length t248 : Int) = 192)) : Value), fun vz wz => vz = (.bool (decide ((List.length t248 : Int) = 192)) : Value), fun vz _ => vz = undef, fun vz _ => vz = undef, fun vz _ => vz = undef, fun vz wz => vz = (.bool false : Value), fun vz wz => vz = (.bool false : Value), fun vz _ => vz = undef, fun vz _ => vz = undef, fun vz _ => vz = undef, fun vz _ => vz = undef, fun vz _ => vz = undef, fun vz _ => vz = undef, fun vz _ => vz = undef, fun vz _ => vz = undef, fun vz _ => vz = undef, fun vz _ => vz = undef, fun vz _ => vz = undef, fun vz _ => vz = undef, fun vz _ => vz = undef, fun vz _ => vz = undef, fun vz _ => vz = undef, fun vz _ => vz = undef, fun vz _ => vz = undef] mo rfl ⟨fun _ _ _ h _ => h, fun _ _ _ h _ => h, fun _ _ _ h _ => h, fun _ _ _ h _ => h, fun _ _ _ h _ => h, fun _ _ _ h _ => h, fun _ _ _ h _ => h, fun _ _ _ h _ => h, fun _ _ _ h _ => h, fun _ _ _ h _ => h, fun _ _ _ h _ => h, fun _ _ _ h _ => h, fun _ _ _ h _ => h, fun _ _ _ h _ => h, fun _ _ _ h _ => h, fun _ _ _ h _ => h, fun _ _ _ h _ => h, fun _ _ _ h _ => h, fun _ _ _ h _ => h, fun _ _ _ h _ => h, fun _ _ _ h _ => h, fun _ _ _ h _ => h, fun _ _ _ h _ => h, fun _ _ _ h _ => h, fun _ _ _ h _ => h, fun _ _ _ h _ => h, trivial⟩ ?_ ?_
                      · refine ⟨?_, ?_, ?_, ?_, ?_, ?_, ?_, ?_, ?_, ?_, ?_, ?_, ?_, ?_, ?_, ?_, ?_, ?_, ?_, ?_, ?_, ?_, ?_, ?_, ?_, ?_, trivial⟩
                        · intro ρz wz hz hk hd
                          exact sk_val (v := u250) (by exact xr_move rfl ((hk 17 rfl).trans rfl)) rfl rfl
                        · intro ρz wz hz hk hd
                          have d142 := hd 0 rfl 142 rfl
                          exact sk_val (v := .int .i64 (List.length t248 : Int)) (by exact xr_lenR rfl Try.underlying43 d142 (o251.gr hz).rd) rfl rfl
                        · intro ρz wz hz hk hd
                          have d143 := hd 1 rfl 143 rfl
                          exact sk_val (v := .bool (decide ((List.length t248 : Int) = 192))) (by exact xr_eqI rfl Try.underlying3 rfl d143 rfl) rfl rfl
                        · intro ρz wz hz hk hd
                          have d144 := hd 2 rfl 144 rfl
                          exact sk_val (v := .bool (decide ((List.length t248 : Int) = 192))) (by exact xr_move rfl d144) rfl rfl
                        · intro ρz wz hz hk hd
                          have d145 := hd 3 rfl 145 rfl
                          exact sk_skip rfl rfl d145 c265 rfl
                        · intro ρz wz hz hk hd
                          have d145 := hd 3 rfl 145 rfl
                          exact sk_skip rfl rfl d145 c265 rfl
                        · intro ρz wz hz hk hd
                          have d145 := hd 3 rfl 145 rfl
                          exact sk_skip rfl rfl d145 c265 rfl
                        · intro ρz wz hz hk hd
                          have d145 := hd 3 rfl 145 rfl
                          exact sk_val (v := .bool false) (by exact xr_pickF rfl d145 c265 rfl) rfl rfl
                        · intro ρz wz hz hk hd
                          have d149 := hd 7 rfl 149 rfl
                          exact sk_val (v := .bool false) (by exact xr_move rfl d149) rfl rfl
                        · intro ρz wz hz hk hd
                          have d150 := hd 8 rfl 150 rfl
                          exact sk_skip rfl rfl d150 rfl rfl
                        · intro ρz wz hz hk hd
                          have d150 := hd 8 rfl 150 rfl
                          exact sk_skip rfl rfl d150 rfl rfl
                        · intro ρz wz hz hk hd
                          have d150 := hd 8 rfl 150 rfl
                          exact sk_skip rfl rfl d150 rfl rfl
                        · intro ρz wz hz hk hd
                          have d150 := hd 8 rfl 150 rfl
                          exact sk_skip rfl rfl d150 rfl rfl
                        · intro ρz wz hz hk hd
                          have d150 := hd 8 rfl 150 rfl
                          exact sk_skip rfl rfl d150 rfl rfl
                        · intro ρz wz hz hk hd
                          have d150 := hd 8 rfl 150 rfl
                          exact sk_skip rfl rfl d150 rfl rfl
                        · intro ρz wz hz hk hd
                          have d150 := hd 8 rfl 150 rfl
                          exact sk_skip rfl rfl d150 rfl rfl
                        · intro ρz wz hz hk hd
                          have d150 := hd 8 rfl 150 rfl
                          exact sk_skip rfl rfl d150 rfl rfl
                        · intro ρz wz hz hk hd
                          have d150 := hd 8 rfl 150 rfl
                          exact sk_skip rfl rfl d150 rfl rfl
                        · intro ρz wz hz hk hd
                          have d150 := hd 8 rfl 150 rfl
                          exact sk_skip rfl rfl d150 rfl rfl
                        · intro ρz wz hz hk hd
                          have d150 := hd 8 rfl 150 rfl
                          exact sk_skip rfl rfl d150 rfl rfl
                        · intro ρz wz hz hk hd
                          have d150 := hd 8 rfl 150 rfl
                          exact sk_skip rfl rfl d150 rfl rfl
                        · intro ρz wz hz hk hd
                          have d150 := hd 8 rfl 150 rfl
                          exact sk_skip rfl rfl d150 rfl rfl
                        · intro ρz wz hz hk hd
                          have d150 := hd 8 rfl 150 rfl
                          exact sk_skip rfl rfl d150 rfl rfl
                        · intro ρz wz hz hk hd
                          have d150 := hd 8 rfl 150 rfl
                          exact sk_skip rfl rfl d150 rfl rfl
                        · intro ρz wz hz hk hd
                          have d150 := hd 8 rfl 150 rfl
                          exact sk_skip rfl rfl d150 rfl rfl
                        · intro ρz wz hz hk hd
                          have d150 := hd 8 rfl 150 rfl
                          exact sk_skip rfl rfl d150 rfl rfl
                      · intro ρ277 w278 q279 hk hd
                        have e150 := hd 8 rfl 150 rfl
                        have fB := fB.gr q279
                        refine ol_val (v := .bool false) (by exact xr_pickF rfl e150 rfl rfl) rfl rfl rfl ?_
                        refine ol_val (v := .bool false) (by exact xr_assign rfl rfl) rfl rfl rfl ?_
                        refine ol_nil ?_
                        obtain rfl := Option.some.inj j264
                        refine thn_i ?_
                        exact ⟨rfl, q279⟩
                  · skip
                    rintro ρ280 w281 ⟨e4, q282⟩
                    have fB := fB.gr q282
                    refine cw_ret ?_
                    repeat (first | with_reducible refine thn_r ?_ | with_reducible refine blk_r ?_)
                    obtain rfl := Option.some.inj h
                    refine fin_ret1 Try.results4 e4 ?_
                    exact ⟨_, rfl, rfl, fB⟩
                · refine cw_condF e128 c245 ?_
                  refine cw_skip ?_
                  refine cw_seq ?_
                  refine cw_region ?_
                  refine ol_val (v := .bool true) (by exact xr_assign rfl rfl) rfl rfl rfl ?_
                  refine ol_nil ?_
                  refine cw_ret ?_
                  repeat (first | with_reducible refine thn_r ?_ | with_reducible refine blk_r ?_)
                  obtain rfl := Option.some.inj h
                  refine fin_ret1 Try.results4 rfl ?_
                  exact ⟨_, rfl, rfl, fB⟩
end Go.Proofs.Ytklhbaghbmndeaa

/- What a row's arguments are: the readings of arguments opened into records, lists and their facts. -/
set_option linter.unusedVariables false
set_option linter.unusedSimpArgs false
namespace Go.Xw
open Go
variable {P : Program} {w : World}
def Opn {α : Type} (P : Program) (w : World) (T : TypeId) (K : Kd α) (ok : α → Prop) : Prop :=
  ∀ {H : Type} (enc : TypeId × Value → H) (base : Nat) (sp : Nat → Bool) (held : Bool) (fuel : Nat) (cs : List Value) (x : DataW H × List MemPlace), DataW.trod enc P w base sp held fuel T cs = some x → ∃ a : α, cs = K.enc a ∧ ok a
theorem opn_int {T : TypeId} {k : IntKind} (ht : P.underlying T = some (.int k)) : Opn P w T (kI k) (fun n => (Lit.int k n).wf = true) := by
  intro H enc base sp held fuel cs x h
  obtain ⟨n, rfl, _, hw⟩ := DataW.trod_int ht h
  exact ⟨n, rfl, hw⟩
theorem opn_bool {T : TypeId} (ht : P.underlying T = some .bool) : Opn P w T kB (fun _ => True) := by
  intro H enc base sp held fuel cs x h
  obtain ⟨b, rfl, _⟩ := DataW.trod_bool ht h
  exact ⟨b, rfl, trivial⟩
theorem opn_str {T : TypeId} (ht : P.underlying T = some .string) : Opn P w T kS (fun l => l.length ≤ maxLen) := by
  intro H enc base sp held fuel cs x h
  obtain ⟨⟨⟨l⟩⟩, rfl, _, hs⟩ := DataW.trod_string ht h
  exact ⟨l, rfl, by simpa [ByteArray.size] using hs⟩
theorem chunks {α : Type} (K : Kd α) (ok : α → Prop) : ∀ (n : Nat) (cs : List Value), cs.length = n * K.size → (∀ i, i < n → ∃ a, (cs.drop (i * K.size)).take K.size = K.enc a ∧ ok a) → ∃ l : List α, l.length = n ∧ cs = l.flatMap K.enc ∧ ∀ a ∈ l, ok a
  | 0, cs, hl, _ => ⟨[], rfl, by simpa using hl, by simp⟩
  | n + 1, cs, hl, h => by
    obtain ⟨a, ha, hok⟩ := h 0 (by omega)
    rw [Nat.zero_mul, List.drop_zero] at ha
    have hl' : cs.length = n * K.size + K.size := by rw [hl, Nat.succ_mul]
    obtain ⟨l, h1, h2, h3⟩ := chunks K ok n (cs.drop K.size) (by rw [List.length_drop]; omega) (fun i hi => by
      have := h (i + 1) (by omega)
      rw [List.drop_drop, Nat.add_comm, ← Nat.succ_mul]
      exact this)
    refine ⟨a :: l, by simp [h1], ?_, ?_⟩
    · rw [List.flatMap_cons, ← h2, ← ha, List.take_append_drop]
    · intro b hb
      rcases List.mem_cons.1 hb with rfl | hb
      · exact hok
      · exact h3 b hb
theorem ms_len {α β : Type} {f : α → Option β} : ∀ {l : List α} {ys : List β}, l.mapM f = some ys → ys.length = l.length
  | [], ys, h => by simp at h; subst h; rfl
  | a :: l, ys, h => by
    rw [List.mapM_cons] at h
    obtain ⟨b, _, h⟩ := Option.bind_eq_some_iff.1 h
    obtain ⟨bs, hb, h⟩ := Option.bind_eq_some_iff.1 h
    simp at h
    subst h
    simp [ms_len hb]
theorem ms_get {α β : Type} {f : α → Option β} : ∀ {l : List α} {ys : List β}, l.mapM f = some ys → ∀ (i : Nat) (a : α), l[i]? = some a → ∃ y, ys[i]? = some y ∧ f a = some y
  | [], ys, h, i, a, ha => by simp at ha
  | b :: l, ys, h, i, a, ha => by
    rw [List.mapM_cons] at h
    obtain ⟨c, hc, h⟩ := Option.bind_eq_some_iff.1 h
    obtain ⟨bs, hb, h⟩ := Option.bind_eq_some_iff.1 h
    simp at h
    subst h
    cases i with
    | zero =>
      simp at ha
      subst ha
      exact ⟨c, rfl, hc⟩
    | succ i =>
      simp at ha
      obtain ⟨y, h1, h2⟩ := ms_get hb i a ha
      exact ⟨y, by simpa using h1, h2⟩
theorem trod_arr {H : Type} {enc : TypeId × Value → H} {base : Nat} {sp : Nat → Bool} {held : Bool} {fuel : Nat} {T e : TypeId} {n : Nat} {cs : List Value} {x : DataW H × List MemPlace} (ht : P.underlying T = some (.array n e)) (h : DataW.trod enc P w base sp held fuel T cs = some x) :
    cs.length = P.cellsOf T ∧ ∃ m, ∀ i, i < n → ∃ y, DataW.trod enc P w base sp held m e ((cs.drop (i * P.cellsOf e)).take (P.cellsOf e)) = some y := by
  cases fuel with
  | zero => simp [DataW.trod] at h
  | succ m =>
    unfold DataW.trod at h
    rw [ht] at h
    simp only at h
    split at h
    · rename_i hl
      refine ⟨hl, m, fun i hi => ?_⟩
      obtain ⟨xs, hx, _⟩ := Option.map_eq_some_iff.1 h
      obtain ⟨y, _, hy⟩ := ms_get hx i i (by simp [hi])
      exact ⟨y, hy⟩
    · cases h
theorem opn_arr {α : Type} {K : Kd α} {ok : α → Prop} {T e : TypeId} {n : Nat} (ht : P.underlying T = some (.array n e)) (hc : P.cellsOf T = n * P.cellsOf e) (he : P.cellsOf e = K.size) (ho : Opn P w e K ok) : Opn P w T (kA n K) (fun a => ∀ x ∈ a.l, ok x) := by
  intro H enc base sp held fuel cs x h
  obtain ⟨hl, m, hm⟩ := trod_arr ht h
  obtain ⟨l, h1, h2, h3⟩ := chunks K ok n cs (by rw [hl, hc, he]) (fun i hi => by
    obtain ⟨y, hy⟩ := hm i hi
    obtain ⟨a, ha⟩ := ho enc base sp held m _ y hy
    rw [he] at ha
    exact ⟨a, ha⟩)
  exact ⟨⟨l, h1⟩, h2, h3⟩
/-- The fields of a struct, one behind another. -/
theorem fld_cons {cs : List Value} {o n : Nat} {c r : List Value} (h : (cs.drop o).take n = c) (hr : cs.drop (o + n) = r) : cs.drop o = c ++ r := by
  rw [← h, ← hr, ← List.drop_drop, List.take_append_drop]
theorem trod_st {H : Type} {enc : TypeId × Value → H} {base : Nat} {sp : Nat → Bool} {held : Bool} {fuel : Nat} {T : TypeId} {fs : Array Field} {cs : List Value} {x : DataW H × List MemPlace} (ht : P.underlying T = some (.struct fs)) (h : DataW.trod enc P w base sp held fuel T cs = some x) :
    cs.length = P.cellsOf T ∧ ∃ m, ∀ (i : Nat) (f : Field), fs[i]? = some f → ∃ y, DataW.trod enc P w base sp held m f.type ((cs.drop f.offset).take (P.cellsOf f.type)) = some y := by
  obtain ⟨xs, m, _, _, hl, hn, hf⟩ := DataW.trod_struct ht h
  refine ⟨hl, m, fun i f hi => ?_⟩
  have hx : i < xs.length := by rw [hn]; exact (Array.getElem?_eq_some_iff.1 hi).1
  exact ⟨xs[i], by rw [hf i f hi, List.getElem?_eq_getElem hx]⟩
/-- Slices: a cell that reads as a list. -/
def OpnS {α : Type} (P : Program) (w : World) (T : TypeId) (K : Kd α) (ok : α → Prop) : Prop :=
  ∀ {H : Type} (enc : TypeId × Value → H) (base : Nat) (sp : Nat → Bool) (held : Bool) (fuel : Nat) (cs : List Value) (x : DataW H × List MemPlace), DataW.trod enc P w base sp held fuel T cs = some x → ∃ (l : List α) (V : Value), cs = [V] ∧ Rd K w V l ∧ (∀ a ∈ l, ok a) ∧ l.length ≤ maxLen ∧ (sb V < w.heap.size ∨ l = [])
theorem cells_get {base : Nat} {a : Addr} {n : Nat} {cs : List Value} (h : w.cells? base a n = some cs) : cs.length = n ∧ ∀ j, j < n → w.cell? (a.add j) = cs[j]? := by
  unfold World.cells? at h
  split at h
  · refine ⟨by simpa using ms_len h, fun j hj => ?_⟩
    obtain ⟨y, h1, h2⟩ := ms_get h j j (by simp [hj])
    rw [h1, h2]
  · cases h
theorem opn_slice {α : Type} {K : Kd α} {ok : α → Prop} {T e : TypeId} (ht : P.underlying T = some (.slice e)) (he : P.cellsOf e = K.size) (hk : 0 < K.size) (ho : Opn P w e K ok) : OpnS P w T K ok := by
  intro H enc base sp held fuel cs x h
  rcases DataW.trod_slice ht h with ⟨rfl, _⟩ | ⟨a, len, cap, elems, rest, n, rfl, rfl, _, _, hl, hm, hlen, hel, _, _⟩
  · exact ⟨[], _, rfl, Rd.nil K w, by simp, by simp, .inr rfl⟩
  · have hex : ∀ i, i < len → ∃ b, (∀ j z, (K.enc b)[j]? = some z → w.cell? (a.add (i * K.size + j)) = some z) ∧ ok b := by
      intro i hi
      have h1 := hel i hi
      rw [List.getElem?_eq_getElem (by omega)] at h1
      obtain ⟨cs, h2, h3⟩ := Option.bind_eq_some_iff.1 h1
      obtain ⟨b, rfl, hb⟩ := ho enc base sp held n cs _ h3
      obtain ⟨h4, h5⟩ := cells_get h2
      rw [he] at h4 h5
      refine ⟨b, fun j z hz => ?_, hb⟩
      have hj : j < K.size := by rw [← h4]; exact (List.getElem?_eq_some_iff.1 hz).1
      have := h5 j hj
      rw [hz] at this
      rw [← this]
      congr 1
      unfold Addr.add
      by_cases hi0 : i * K.size = 0
      · by_cases hj0 : j = 0
        · simp [hi0, hj0]
        · simp [hi0, hj0]
      · by_cases hj0 : j = 0
        · simp [hi0, hj0]
        · have : i * K.size + j ≠ 0 := by omega
          simp [hi0, hj0, this, Nat.add_assoc]
    have hlist : ∀ m, m ≤ len → ∃ l : List α, l.length = m ∧ (∀ b ∈ l, ok b) ∧ ∀ j z, (l.flatMap K.enc)[j]? = some z → w.cell? (a.add j) = some z := by
      intro m
      induction m with
      | zero => intro _; exact ⟨[], rfl, by simp, by simp⟩
      | succ m ih =>
        intro hm
        obtain ⟨l, h1, h2, h3⟩ := ih (by omega)
        obtain ⟨b, h4, h5⟩ := hex m (by omega)
        refine ⟨l ++ [b], by simp [h1], ?_, ?_⟩
        · intro c hc
          rcases List.mem_append.1 hc with hc | hc
          · exact h2 c hc
          · obtain rfl := List.mem_singleton.1 hc
            exact h5
        · intro j z hz
          have hL : (l.flatMap K.enc).length = m * K.size := by rw [len_flat, h1]
          simp only [List.flatMap_append, List.flatMap_cons, List.flatMap_nil, List.append_nil] at hz
          by_cases hj : j < m * K.size
          · rw [List.getElem?_append_left (by omega)] at hz
            exact h3 j z hz
          · rw [List.getElem?_append_right (by omega), hL] at hz
            have := h4 (j - m * K.size) z hz
            rwa [show m * K.size + (j - m * K.size) = j from by omega] at this
    obtain ⟨l, h1, h2, h3⟩ := hlist len (Nat.le_refl _)
    have hpos : 0 < l.length → ∃ z, w.cell? a = some z := by
      intro hp
      cases l with
      | nil => simp at hp
      | cons b l =>
        have hb : (K.enc b).length = K.size := K.len b
        have : ∃ z, ((b :: l).flatMap K.enc)[0]? = some z := ⟨_, List.getElem?_eq_getElem (by simp [List.flatMap_cons, hb]; omega)⟩
        obtain ⟨z, hz⟩ := this
        have := h3 0 z hz
        exact ⟨z, by simpa [Addr.add] using this⟩
    refine ⟨l, _, rfl, ⟨some a, cap, by rw [h1], by omega, fun hp => ?_⟩, h2, by omega, ?_⟩
    · obtain ⟨z, hz⟩ := hpos hp
      obtain ⟨b, o, s⟩ := a
      have hs : s = none := by
        unfold World.cell? at hz
        split at hz
        · cases s with
          | none => rfl
          | some _ => simp at hz
        · cases hz
      subst hs
      refine ⟨b, o, rfl, fun j v hv => ?_⟩
      have := h3 j v hv
      rwa [Addr.add_lit] at this
    · rcases Nat.eq_zero_or_pos l.length with h0 | hp
      · exact .inr (List.eq_nil_of_length_eq_zero h0)
      · obtain ⟨z, hz⟩ := hpos hp
        refine .inl ?_
        unfold World.cell? at hz
        split at hz
        · rename_i hh
          exact (Array.getElem?_eq_some_iff.1 hh).1
        · cases hz
theorem agg_of {T : TypeId} {v : Value} {cs : List Value} {base : Nat} (h : aggB P T = some true) (hv : Value.okWide P w .any base T v) (hc : v.cells.toList = cs) : v = .agg cs.toArray := by
  unfold aggB at h
  obtain ⟨d, hu, hd⟩ := Option.map_eq_some_iff.1 h
  unfold Value.okWide at hv
  rw [hu] at hv
  cases d <;> simp at hd <;> (obtain ⟨c2, rfl, _⟩ := hv; subst hc; simp [Value.cells])
end Go.Xw

/- What a row's arguments are: slices of records that hold slices. -/
set_option linter.unusedVariables false
set_option linter.unusedSimpArgs false
namespace Go.Xw
open Go
theorem opn_sliceN {P : Program} {w : World} {α : Type} {n : Nat} {D : World → List Value → α → Prop} {ok : α → Prop} {T e : TypeId} (ht : P.underlying T = some (.slice e)) (he : P.cellsOf e = n) (hk : 0 < n)
    (ho : ∀ {H : Type} (enc : TypeId × Value → H) (base : Nat) (sp : Nat → Bool) (held : Bool) (fuel : Nat) (cs : List Value) (x : DataW H × List MemPlace), DataW.trod enc P w base sp held fuel e cs = some x → ∃ a : α, D w cs a ∧ ok a ∧ cs.length = n ∧ ∀ v ∈ cs, v.oneCell' = true)
    {H : Type} (enc : TypeId × Value → H) (base : Nat) (sp : Nat → Bool) (held : Bool) (fuel : Nat) (cs : List Value) (x : DataW H × List MemPlace) (h : DataW.trod enc P w base sp held fuel T cs = some x) :
    ∃ (l : List α) (V : Value), cs = [V] ∧ RdN n D w V l ∧ (∀ a ∈ l, ok a) ∧ l.length ≤ maxLen ∧ (sb V < w.heap.size ∨ l = []) := by
  let β := { p : { l : List Value // l.length = n ∧ ∀ v ∈ l, v.oneCell' = true } × α // D w p.1.1 p.2 ∧ ok p.2 }
  let K : Kd β := ⟨fun p => p.1.1.1, n, fun p => p.1.1.2.1, fun p => p.1.1.2.2⟩
  have hp : Opn P w e K (fun _ => True) := by
    intro H enc base sp held fuel cs x h
    obtain ⟨a, hd, hok, hl, h1⟩ := ho enc base sp held fuel cs x h
    exact ⟨⟨(⟨cs, hl, h1⟩, a), hd, hok⟩, rfl, trivial⟩
  obtain ⟨l, V, e1, r, _, hm, hs⟩ := opn_slice (K := K) ht he hk hp enc base sp held fuel cs x h
  refine ⟨l.map (fun p => p.1.2), V, e1, ⟨l.map (fun p => p.1.1), ?_, by simp, ?_⟩, ?_, by simpa using hm, ?_⟩
  · obtain ⟨A, c, rfl, hc, hr⟩ := r
    refine ⟨A, c, by simp, by simpa using hc, fun hpos => ?_⟩
    obtain ⟨b, o, ea, hat⟩ := hr (by simpa using hpos)
    refine ⟨b, o, ea, ?_⟩
    rw [List.flatMap_map]
    exact hat
  · intro i h1 h2
    have hi : i < l.length := by simpa using h1
    simp only [List.getElem_map]
    exact (l[i]).2.1
  · intro a ha
    obtain ⟨p, _, rfl⟩ := List.mem_map.1 ha
    exact p.2.2
  · rcases hs with hs | rfl
    · exact .inl hs
    · exact .inr rfl
end Go.Xw

/- What the laws' arguments open into: written by rows.py. -/
set_option linter.unusedVariables false
set_option linter.unusedSimpArgs false
namespace Go.Proofs.Ytklhbaghbmndeaa
open Go Go.Xw
def ok_rickyardlaw05_Act (a : S_rickyardlaw05_Act) : Prop := (Lit.int .i64 a.Kind).wf = true ∧ (Lit.int .i64 a.At).wf = true ∧ (Lit.int .u64 a.W).wf = true ∧ ((∀ x ∈ a.L, (Lit.int .i64 x).wf = true) ∧ List.length a.L ≤ maxLen)
theorem opn_rickyardlaw05_Act {w : World} {H : Type} (enc : TypeId × Value → H) (base : Nat) (sp : Nat → Bool) (held : Bool) (fuel : Nat) (cs : List Value) (x : DataW H × List MemPlace) (h : DataW.trod enc Try.prog w base sp held fuel 39 cs = some x) : ∃ a : S_rickyardlaw05_Act, ∃ V0 : Value, ∃ R0 : Rd (kI .i64) w V0 a.L, cs = cellsOf [Seg.cell (.int .i64 a.Kind), Seg.cell (.int .i64 a.At), Seg.cell (.int .u64 a.W), Seg.cell V0 R0.one] ∧ ok_rickyardlaw05_Act a := by
  obtain ⟨hl, m, hf⟩ := trod_st Try.underlying39 h
  obtain ⟨y0, h0⟩ := hf 0 _ rfl
  have c0 : Try.prog.cellsOf 3 = 1 := by kernel_rfl
  obtain ⟨b0, e0, o0⟩ := (opn_int Try.underlying3) enc base sp held m _ y0 h0
  have e0 : (cs.drop 0).take 1 = (kI .i64).enc b0 := (congrArg (fun n => (cs.drop 0).take n) c0).symm.trans e0
  obtain ⟨y1, h1⟩ := hf 1 _ rfl
  have c1 : Try.prog.cellsOf 3 = 1 := by kernel_rfl
  obtain ⟨b1, e1, o1⟩ := (opn_int Try.underlying3) enc base sp held m _ y1 h1
  have e1 : (cs.drop 1).take 1 = (kI .i64).enc b1 := (congrArg (fun n => (cs.drop 1).take n) c1).symm.trans e1
  obtain ⟨y2, h2⟩ := hf 2 _ rfl
  have c2 : Try.prog.cellsOf 22 = 1 := by kernel_rfl
  obtain ⟨b2, e2, o2⟩ := (opn_int Try.underlying22) enc base sp held m _ y2 h2
  have e2 : (cs.drop 2).take 1 = (kI .u64).enc b2 := (congrArg (fun n => (cs.drop 2).take n) c2).symm.trans e2
  obtain ⟨y3, h3⟩ := hf 3 _ rfl
  have c3 : Try.prog.cellsOf 25 = 1 := by kernel_rfl
  obtain ⟨b3, W3, e3, r3, o3, l3, _⟩ := (opn_slice (K := (kI .i64)) Try.underlying25 (by kernel_rfl) (by decide) (opn_int Try.underlying3)) enc base sp held m _ y3 h3
  have e3 : (cs.drop 3).take 1 = [W3] := (congrArg (fun n => (cs.drop 3).take n) c3).symm.trans e3
  have hn : cs.drop 4 = [] := List.drop_eq_nil_of_le (by rw [hl]; exact Nat.le_of_eq (by kernel_rfl))
  have hc : cs = (kI .i64).enc b0 ++ ((kI .i64).enc b1 ++ ((kI .u64).enc b2 ++ ([W3] ++ []))) := (fld_cons (o := 0) (n := 1) e0 (fld_cons (o := 1) (n := 1) e1 (fld_cons (o := 2) (n := 1) e2 (fld_cons (o := 3) (n := 1) e3 hn))))
  refine ⟨⟨b0, b1, b2, b3⟩, W3, r3, ?_, o0, o1, o2, ⟨o3, l3⟩⟩
  rw [hc]
  simp [kA, kI, kB, kS, kT, cellsOf, Seg.cell, Kd.seg]
def ok_rickyardlaw05_Fenced (a : S_rickyardlaw05_Fenced) : Prop := (Lit.int .i64 a.Line).wf = true ∧ (∀ x ∈ a.Ws.l, (Lit.int .u64 x).wf = true) ∧ ((∀ x ∈ a.Acts, ok_rickyardlaw05_Act x) ∧ List.length a.Acts ≤ maxLen) ∧ ((∀ x ∈ a.L, (Lit.int .i64 x).wf = true) ∧ List.length a.L ≤ maxLen)
theorem opn_rickyardlaw05_Fenced {w : World} {H : Type} (enc : TypeId × Value → H) (base : Nat) (sp : Nat → Bool) (held : Bool) (fuel : Nat) (cs : List Value) (x : DataW H × List MemPlace) (h : DataW.trod enc Try.prog w base sp held fuel 27 cs = some x) : ∃ a : S_rickyardlaw05_Fenced, ∃ V0 : Value, ∃ V1 : Value, ∃ R0 : RdN 4 D_rickyardlaw05_Act w V0 a.Acts, ∃ R1 : Rd (kI .i64) w V1 a.L, cs = cellsOf [Seg.cell (.int .i64 a.Line), Kd.seg (kA 8 (kI .u64)) a.Ws, Seg.cell V0 R0.one, Seg.cell V1 R1.one] ∧ ok_rickyardlaw05_Fenced a := by
  obtain ⟨hl, m, hf⟩ := trod_st Try.underlying27 h
  obtain ⟨y0, h0⟩ := hf 0 _ rfl
  have c0 : Try.prog.cellsOf 3 = 1 := by kernel_rfl
  obtain ⟨b0, e0, o0⟩ := (opn_int Try.underlying3) enc base sp held m _ y0 h0
  have e0 : (cs.drop 0).take 1 = (kI .i64).enc b0 := (congrArg (fun n => (cs.drop 0).take n) c0).symm.trans e0
  obtain ⟨y1, h1⟩ := hf 1 _ rfl
  have c1 : Try.prog.cellsOf 23 = 8 := by kernel_rfl
  obtain ⟨b1, e1, o1⟩ := (opn_arr Try.underlying23 (by kernel_rfl) (by kernel_rfl) (opn_int Try.underlying22)) enc base sp held m _ y1 h1
  have e1 : (cs.drop 1).take 8 = (kA 8 (kI .u64)).enc b1 := (congrArg (fun n => (cs.drop 1).take n) c1).symm.trans e1
  obtain ⟨y2, h2⟩ := hf 2 _ rfl
  have c2 : Try.prog.cellsOf 24 = 1 := by kernel_rfl
  obtain ⟨b2, W2, e2, r2, o2, l2, _⟩ := (opn_sliceN (n := 4) (D := D_rickyardlaw05_Act) (ok := ok_rickyardlaw05_Act) (w := w) Try.underlying24 (by kernel_rfl) (by decide) (fun enc base sp held fuel cs x h => by obtain ⟨a, V0, R0, e, o⟩ := opn_rickyardlaw05_Act enc base sp held fuel cs x h; exact ⟨a, ⟨V0, R0, e⟩, o, by rw [e, len_cellsOf]; rfl, by rw [e]; exact one_cellsOf _⟩)) enc base sp held m _ y2 h2
  have e2 : (cs.drop 9).take 1 = [W2] := (congrArg (fun n => (cs.drop 9).take n) c2).symm.trans e2
  obtain ⟨y3, h3⟩ := hf 3 _ rfl
  have c3 : Try.prog.cellsOf 25 = 1 := by kernel_rfl
  obtain ⟨b3, W3, e3, r3, o3, l3, _⟩ := (opn_slice (K := (kI .i64)) Try.underlying25 (by kernel_rfl) (by decide) (opn_int Try.underlying3)) enc base sp held m _ y3 h3
  have e3 : (cs.drop 10).take 1 = [W3] := (congrArg (fun n => (cs.drop 10).take n) c3).symm.trans e3
  have hn : cs.drop 11 = [] := List.drop_eq_nil_of_le (by rw [hl]; exact Nat.le_of_eq (by kernel_rfl))
  have hc : cs = (kI .i64).enc b0 ++ ((kA 8 (kI .u64)).enc b1 ++ ([W2] ++ ([W3] ++ []))) := (fld_cons (o := 0) (n := 1) e0 (fld_cons (o := 1) (n := 8) e1 (fld_cons (o := 9) (n := 1) e2 (fld_cons (o := 10) (n := 1) e3 hn))))
  refine ⟨⟨b0, b1, b2, b3⟩, W2, W3, r2, r3, ?_, o0, o1, ⟨o2, l2⟩, ⟨o3, l3⟩⟩
  rw [hc]
  simp [kA, kI, kB, kS, kT, cellsOf, Seg.cell, Kd.seg]
def ok_api_Fate (a : S_api_Fate) : Prop := (Lit.int .i64 a.At).wf = true ∧ (Lit.int .u64 a.Lasts).wf = true ∧ True ∧ (Lit.int .u64 a.Sent).wf = true ∧ (Lit.int .u64 a.Stored).wf = true
theorem opn_api_Fate {w : World} : Opn Try.prog w 55 k_api_Fate ok_api_Fate := by
  intro H enc base sp held fuel cs x h
  obtain ⟨hl, m, hf⟩ := trod_st Try.underlying55 h
  obtain ⟨y0, h0⟩ := hf 0 _ rfl
  have c0 : Try.prog.cellsOf 3 = 1 := by kernel_rfl
  obtain ⟨b0, e0, o0⟩ := (opn_int Try.underlying3) enc base sp held m _ y0 h0
  have e0 : (cs.drop 0).take 1 = (kI .i64).enc b0 := (congrArg (fun n => (cs.drop 0).take n) c0).symm.trans e0
  obtain ⟨y1, h1⟩ := hf 1 _ rfl
  have c1 : Try.prog.cellsOf 22 = 1 := by kernel_rfl
  obtain ⟨b1, e1, o1⟩ := (opn_int Try.underlying22) enc base sp held m _ y1 h1
  have e1 : (cs.drop 1).take 1 = (kI .u64).enc b1 := (congrArg (fun n => (cs.drop 1).take n) c1).symm.trans e1
  obtain ⟨y2, h2⟩ := hf 2 _ rfl
  have c2 : Try.prog.cellsOf 4 = 1 := by kernel_rfl
  obtain ⟨b2, e2, o2⟩ := (opn_bool Try.underlying4) enc base sp held m _ y2 h2
  have e2 : (cs.drop 2).take 1 = kB.enc b2 := (congrArg (fun n => (cs.drop 2).take n) c2).symm.trans e2
  obtain ⟨y3, h3⟩ := hf 3 _ rfl
  have c3 : Try.prog.cellsOf 22 = 1 := by kernel_rfl
  obtain ⟨b3, e3, o3⟩ := (opn_int Try.underlying22) enc base sp held m _ y3 h3
  have e3 : (cs.drop 3).take 1 = (kI .u64).enc b3 := (congrArg (fun n => (cs.drop 3).take n) c3).symm.trans e3
  obtain ⟨y4, h4⟩ := hf 4 _ rfl
  have c4 : Try.prog.cellsOf 22 = 1 := by kernel_rfl
  obtain ⟨b4, e4, o4⟩ := (opn_int Try.underlying22) enc base sp held m _ y4 h4
  have e4 : (cs.drop 4).take 1 = (kI .u64).enc b4 := (congrArg (fun n => (cs.drop 4).take n) c4).symm.trans e4
  have hn : cs.drop 5 = [] := List.drop_eq_nil_of_le (by rw [hl]; exact Nat.le_of_eq (by kernel_rfl))
  have hc : cs = (kI .i64).enc b0 ++ ((kI .u64).enc b1 ++ (kB.enc b2 ++ ((kI .u64).enc b3 ++ ((kI .u64).enc b4 ++ [])))) := (fld_cons (o := 0) (n := 1) e0 (fld_cons (o := 1) (n := 1) e1 (fld_cons (o := 2) (n := 1) e2 (fld_cons (o := 3) (n := 1) e3 (fld_cons (o := 4) (n := 1) e4 hn)))))
  refine ⟨⟨b0, b1, b2, b3, b4⟩, ?_, o0, o1, o2, o3, o4⟩
  rw [hc]
  simp [kA, kI, kB, kS, kT, cellsOf, Seg.cell, Kd.seg, k_api_Fate, segs_api_Fate]
def ok_api_Geometry (a : S_api_Geometry) : Prop := (Lit.int .i64 a.Blocks).wf = true ∧ (Lit.int .i64 a.Slots).wf = true ∧ (Lit.int .i64 a.Gens).wf = true
theorem opn_api_Geometry {w : World} : Opn Try.prog w 106 k_api_Geometry ok_api_Geometry := by
  intro H enc base sp held fuel cs x h
  obtain ⟨hl, m, hf⟩ := trod_st Try.underlying106 h
  obtain ⟨y0, h0⟩ := hf 0 _ rfl
  have c0 : Try.prog.cellsOf 3 = 1 := by kernel_rfl
  obtain ⟨b0, e0, o0⟩ := (opn_int Try.underlying3) enc base sp held m _ y0 h0
  have e0 : (cs.drop 0).take 1 = (kI .i64).enc b0 := (congrArg (fun n => (cs.drop 0).take n) c0).symm.trans e0
  obtain ⟨y1, h1⟩ := hf 1 _ rfl
  have c1 : Try.prog.cellsOf 3 = 1 := by kernel_rfl
  obtain ⟨b1, e1, o1⟩ := (opn_int Try.underlying3) enc base sp held m _ y1 h1
  have e1 : (cs.drop 1).take 1 = (kI .i64).enc b1 := (congrArg (fun n => (cs.drop 1).take n) c1).symm.trans e1
  obtain ⟨y2, h2⟩ := hf 2 _ rfl
  have c2 : Try.prog.cellsOf 3 = 1 := by kernel_rfl
  obtain ⟨b2, e2, o2⟩ := (opn_int Try.underlying3) enc base sp held m _ y2 h2
  have e2 : (cs.drop 2).take 1 = (kI .i64).enc b2 := (congrArg (fun n => (cs.drop 2).take n) c2).symm.trans e2
  have hn : cs.drop 3 = [] := List.drop_eq_nil_of_le (by rw [hl]; exact Nat.le_of_eq (by kernel_rfl))
  have hc : cs = (kI .i64).enc b0 ++ ((kI .i64).enc b1 ++ ((kI .i64).enc b2 ++ [])) := (fld_cons (o := 0) (n := 1) e0 (fld_cons (o := 1) (n := 1) e1 (fld_cons (o := 2) (n := 1) e2 hn)))
  refine ⟨⟨b0, b1, b2⟩, ?_, o0, o1, o2⟩
  rw [hc]
  simp [kA, kI, kB, kS, kT, cellsOf, Seg.cell, Kd.seg, k_api_Fate, k_api_Geometry, k_api_Tickets, segs_api_Fate, segs_api_Geometry, segs_api_Tickets]
def ok_api_Tickets (a : S_api_Tickets) : Prop := ok_api_Geometry a.Geometry ∧ (Lit.int .i64 a.Top).wf = true ∧ (Lit.int .i64 a.High).wf = true ∧ (Lit.int .i64 a.Free).wf = true
theorem opn_api_Tickets {w : World} : Opn Try.prog w 108 k_api_Tickets ok_api_Tickets := by
  intro H enc base sp held fuel cs x h
  obtain ⟨hl, m, hf⟩ := trod_st Try.underlying108 h
  obtain ⟨y0, h0⟩ := hf 0 _ rfl
  have c0 : Try.prog.cellsOf 106 = 3 := by kernel_rfl
  obtain ⟨b0, e0, o0⟩ := (opn_api_Geometry (w := w)) enc base sp held m _ y0 h0
  have e0 : (cs.drop 0).take 3 = k_api_Geometry.enc b0 := (congrArg (fun n => (cs.drop 0).take n) c0).symm.trans e0
  obtain ⟨y1, h1⟩ := hf 1 _ rfl
  have c1 : Try.prog.cellsOf 3 = 1 := by kernel_rfl
  obtain ⟨b1, e1, o1⟩ := (opn_int Try.underlying3) enc base sp held m _ y1 h1
  have e1 : (cs.drop 3).take 1 = (kI .i64).enc b1 := (congrArg (fun n => (cs.drop 3).take n) c1).symm.trans e1
  obtain ⟨y2, h2⟩ := hf 2 _ rfl
  have c2 : Try.prog.cellsOf 3 = 1 := by kernel_rfl
  obtain ⟨b2, e2, o2⟩ := (opn_int Try.underlying3) enc base sp held m _ y2 h2
  have e2 : (cs.drop 4).take 1 = (kI .i64).enc b2 := (congrArg (fun n => (cs.drop 4).take n) c2).symm.trans e2
  obtain ⟨y3, h3⟩ := hf 3 _ rfl
  have c3 : Try.prog.cellsOf 3 = 1 := by kernel_rfl
  obtain ⟨b3, e3, o3⟩ := (opn_int Try.underlying3) enc base sp held m _ y3 h3
  have e3 : (cs.drop 5).take 1 = (kI .i64).enc b3 := (congrArg (fun n => (cs.drop 5).take n) c3).symm.trans e3
  have hn : cs.drop 6 = [] := List.drop_eq_nil_of_le (by rw [hl]; exact Nat.le_of_eq (by kernel_rfl))
  have hc : cs = k_api_Geometry.enc b0 ++ ((kI .i64).enc b1 ++ ((kI .i64).enc b2 ++ ((kI .i64).enc b3 ++ []))) := (fld_cons (o := 0) (n := 3) e0 (fld_cons (o := 3) (n := 1) e1 (fld_cons (o := 4) (n := 1) e2 (fld_cons (o := 5) (n := 1) e3 hn))))
  refine ⟨⟨b0, b1, b2, b3⟩, ?_, o0, o1, o2, o3⟩
  rw [hc]
  simp [kA, kI, kB, kS, kT, cellsOf, Seg.cell, Kd.seg, k_api_Fate, k_api_Geometry, k_api_Tickets, segs_api_Fate, segs_api_Geometry, segs_api_Tickets]
def ok_api_Super (a : S_api_Super) : Prop := (Lit.int .i64 a.Epoch).wf = true ∧ ok_api_Tickets a.Tickets ∧ (Lit.int .i64 a.Dir).wf = true ∧ ((∀ x ∈ a.Charts, (Lit.int .i64 x).wf = true) ∧ List.length a.Charts ≤ maxLen)
theorem opn_api_Super {w : World} {H : Type} (enc : TypeId × Value → H) (base : Nat) (sp : Nat → Bool) (held : Bool) (fuel : Nat) (cs : List Value) (x : DataW H × List MemPlace) (h : DataW.trod enc Try.prog w base sp held fuel 110 cs = some x) : ∃ a : S_api_Super, ∃ V0 : Value, ∃ R0 : Rd (kI .i64) w V0 a.Charts, cs = cellsOf [Seg.cell (.int .i64 a.Epoch), Seg.cell (.int .i64 a.Tickets.Geometry.Blocks), Seg.cell (.int .i64 a.Tickets.Geometry.Slots), Seg.cell (.int .i64 a.Tickets.Geometry.Gens), Seg.cell (.int .i64 a.Tickets.Top), Seg.cell (.int .i64 a.Tickets.High), Seg.cell (.int .i64 a.Tickets.Free), Seg.cell (.int .i64 a.Dir), Seg.cell V0 R0.one] ∧ ok_api_Super a := by
  obtain ⟨hl, m, hf⟩ := trod_st Try.underlying110 h
  obtain ⟨y0, h0⟩ := hf 0 _ rfl
  have c0 : Try.prog.cellsOf 3 = 1 := by kernel_rfl
  obtain ⟨b0, e0, o0⟩ := (opn_int Try.underlying3) enc base sp held m _ y0 h0
  have e0 : (cs.drop 0).take 1 = (kI .i64).enc b0 := (congrArg (fun n => (cs.drop 0).take n) c0).symm.trans e0
  obtain ⟨y1, h1⟩ := hf 1 _ rfl
  have c1 : Try.prog.cellsOf 108 = 6 := by kernel_rfl
  obtain ⟨b1, e1, o1⟩ := (opn_api_Tickets (w := w)) enc base sp held m _ y1 h1
  have e1 : (cs.drop 1).take 6 = k_api_Tickets.enc b1 := (congrArg (fun n => (cs.drop 1).take n) c1).symm.trans e1
  obtain ⟨y2, h2⟩ := hf 2 _ rfl
  have c2 : Try.prog.cellsOf 3 = 1 := by kernel_rfl
  obtain ⟨b2, e2, o2⟩ := (opn_int Try.underlying3) enc base sp held m _ y2 h2
  have e2 : (cs.drop 7).take 1 = (kI .i64).enc b2 := (congrArg (fun n => (cs.drop 7).take n) c2).symm.trans e2
  obtain ⟨y3, h3⟩ := hf 3 _ rfl
  have c3 : Try.prog.cellsOf 25 = 1 := by kernel_rfl
  obtain ⟨b3, W3, e3, r3, o3, l3, _⟩ := (opn_slice (K := (kI .i64)) Try.underlying25 (by kernel_rfl) (by decide) (opn_int Try.underlying3)) enc base sp held m _ y3 h3
  have e3 : (cs.drop 8).take 1 = [W3] := (congrArg (fun n => (cs.drop 8).take n) c3).symm.trans e3
  have hn : cs.drop 9 = [] := List.drop_eq_nil_of_le (by rw [hl]; exact Nat.le_of_eq (by kernel_rfl))
  have hc : cs = (kI .i64).enc b0 ++ (k_api_Tickets.enc b1 ++ ((kI .i64).enc b2 ++ ([W3] ++ []))) := (fld_cons (o := 0) (n := 1) e0 (fld_cons (o := 1) (n := 6) e1 (fld_cons (o := 7) (n := 1) e2 (fld_cons (o := 8) (n := 1) e3 hn))))
  refine ⟨⟨b0, b1, b2, b3⟩, W3, r3, ?_, o0, o1, o2, ⟨o3, l3⟩⟩
  rw [hc]
  simp [kA, kI, kB, kS, kT, cellsOf, Seg.cell, Kd.seg, k_api_Fate, k_api_Geometry, k_api_Tickets, segs_api_Fate, segs_api_Geometry, segs_api_Tickets]
def ok_rickyardlaw16_Cut (a : S_rickyardlaw16_Cut) : Prop := (Lit.int .u8 a.Steps).wf = true ∧ ((∀ x ∈ a.Plan, (Lit.int .i64 x).wf = true) ∧ List.length a.Plan ≤ maxLen) ∧ ((∀ x ∈ a.L, (Lit.int .i64 x).wf = true) ∧ List.length a.L ≤ maxLen)
theorem opn_rickyardlaw16_Cut {w : World} {H : Type} (enc : TypeId × Value → H) (base : Nat) (sp : Nat → Bool) (held : Bool) (fuel : Nat) (cs : List Value) (x : DataW H × List MemPlace) (h : DataW.trod enc Try.prog w base sp held fuel 129 cs = some x) : ∃ a : S_rickyardlaw16_Cut, ∃ V0 : Value, ∃ V1 : Value, ∃ R0 : Rd (kI .i64) w V0 a.Plan, ∃ R1 : Rd (kI .i64) w V1 a.L, cs = cellsOf [Seg.cell (.int .u8 a.Steps), Seg.cell V0 R0.one, Seg.cell V1 R1.one] ∧ ok_rickyardlaw16_Cut a := by
  obtain ⟨hl, m, hf⟩ := trod_st Try.underlying129 h
  obtain ⟨y0, h0⟩ := hf 0 _ rfl
  have c0 : Try.prog.cellsOf 5 = 1 := by kernel_rfl
  obtain ⟨b0, e0, o0⟩ := (opn_int Try.underlying5) enc base sp held m _ y0 h0
  have e0 : (cs.drop 0).take 1 = (kI .u8).enc b0 := (congrArg (fun n => (cs.drop 0).take n) c0).symm.trans e0
  obtain ⟨y1, h1⟩ := hf 1 _ rfl
  have c1 : Try.prog.cellsOf 25 = 1 := by kernel_rfl
  obtain ⟨b1, W1, e1, r1, o1, l1, _⟩ := (opn_slice (K := (kI .i64)) Try.underlying25 (by kernel_rfl) (by decide) (opn_int Try.underlying3)) enc base sp held m _ y1 h1
  have e1 : (cs.drop 1).take 1 = [W1] := (congrArg (fun n => (cs.drop 1).take n) c1).symm.trans e1
  obtain ⟨y2, h2⟩ := hf 2 _ rfl
  have c2 : Try.prog.cellsOf 25 = 1 := by kernel_rfl
  obtain ⟨b2, W2, e2, r2, o2, l2, _⟩ := (opn_slice (K := (kI .i64)) Try.underlying25 (by kernel_rfl) (by decide) (opn_int Try.underlying3)) enc base sp held m _ y2 h2
  have e2 : (cs.drop 2).take 1 = [W2] := (congrArg (fun n => (cs.drop 2).take n) c2).symm.trans e2
  have hn : cs.drop 3 = [] := List.drop_eq_nil_of_le (by rw [hl]; exact Nat.le_of_eq (by kernel_rfl))
  have hc : cs = (kI .u8).enc b0 ++ ([W1] ++ ([W2] ++ [])) := (fld_cons (o := 0) (n := 1) e0 (fld_cons (o := 1) (n := 1) e1 (fld_cons (o := 2) (n := 1) e2 hn)))
  refine ⟨⟨b0, b1, b2⟩, W1, W2, r1, r2, ?_, o0, ⟨o1, l1⟩, ⟨o2, l2⟩⟩
  rw [hc]
  simp [kA, kI, kB, kS, kT, cellsOf, Seg.cell, Kd.seg, k_api_Fate, k_api_Geometry, k_api_Tickets, segs_api_Fate, segs_api_Geometry, segs_api_Tickets]
end Go.Proofs.Ytklhbaghbmndeaa

/- Rows turned one by one. -/
set_option linter.unusedVariables false
set_option linter.unusedSimpArgs false
namespace Go.Proofs.Ytklhbaghbmndeaa.Pure
open Go Go.Xw
/-- Of the places from `lo` on the first `j`, each turned by `g`. -/
def upd {α : Type} (g : Nat → α → α) (lo j : Nat) (cs : List α) : List α := cs.mapIdx fun i c => if lo ≤ i ∧ i < lo + j then g i c else c
theorem upd_len {α : Type} (g : Nat → α → α) (lo j : Nat) (cs : List α) : (upd g lo j cs).length = cs.length := by simp [upd]
theorem upd_zero {α : Type} (g : Nat → α → α) (lo : Nat) (cs : List α) : upd g lo 0 cs = cs := by
  apply List.ext_getElem (by simp [upd])
  intro i h1 h2
  simp only [upd, List.getElem_mapIdx]
  rw [if_neg (by omega)]
theorem upd_get {α : Type} (g : Nat → α → α) (lo j : Nat) (cs : List α) (i : Nat) (h : i < (upd g lo j cs).length) : (upd g lo j cs)[i] = if lo ≤ i ∧ i < lo + j then g i (cs[i]'(by simpa [upd] using h)) else cs[i]'(by simpa [upd] using h) := by
  simp only [upd, List.getElem_mapIdx]
theorem upd_next {α : Type} (g : Nat → α → α) (lo j : Nat) (cs : List α) (h : lo + j < cs.length) : (upd g lo j cs)[lo + j]'(by rw [upd_len]; exact h) = cs[lo + j] := by
  rw [upd_get, if_neg (by omega)]
theorem upd_set {α : Type} (g : Nat → α → α) (lo j : Nat) (cs : List α) (h : lo + j < cs.length) : (upd g lo j cs).set (lo + j) (g (lo + j) cs[lo + j]) = upd g lo (j + 1) cs := by
  apply List.ext_getElem (by simp [upd])
  intro i h1 h2
  rw [List.getElem_set, upd_get g lo (j + 1)]
  by_cases e : lo + j = i
  · subst e
    rw [if_pos rfl, if_pos (by omega)]
  · rw [if_neg e, upd_get]
    by_cases c : lo ≤ i ∧ i < lo + j
    · rw [if_pos c, if_pos (by omega)]
    · rw [if_neg c, if_neg (by omega)]
theorem upd_same {α : Type} (g : Nat → α → α) (lo j : Nat) (cs : List α) (h : lo + j < cs.length) (e : g (lo + j) cs[lo + j] = cs[lo + j]) : upd g lo j cs = upd g lo (j + 1) cs := by
  apply List.ext_getElem (by simp [upd])
  intro i h1 h2
  rw [upd_get g lo j, upd_get g lo (j + 1)]
  by_cases e' : lo + j = i
  · subst e'
    rw [if_neg (by omega), if_pos (by omega), e]
  · by_cases c : lo ≤ i ∧ i < lo + j
    · rw [if_pos c, if_pos (by omega)]
    · rw [if_neg c, if_neg (by omega)]
theorem upd_all {α : Type} (g : Nat → α → α) (cs : List α) : upd g 0 cs.length cs = cs.mapIdx g := by
  apply List.ext_getElem (by simp [upd])
  intro i h1 h2
  rw [upd_get, if_pos ⟨by omega, by rw [upd_len] at h1; omega⟩, List.getElem_mapIdx]
theorem getD_set {α : Type} (cs : List α) (i k : Nat) (v d : α) (hi : i < cs.length) : (cs.set i v).getD k d = if i = k then v else cs.getD k d := by
  simp only [List.getD_eq_getElem?_getD, List.getElem?_set]
  by_cases h : i = k
  · subst h
    simp [hi]
  · simp [h]
theorem getD_of {α : Type} (cs : List α) (i : Nat) (d : α) (hi : i < cs.length) : cs.getD i d = cs[i] := by
  simp [List.getD_eq_getElem?_getD, List.getElem?_eq_getElem hi]
end Go.Proofs.Ytklhbaghbmndeaa.Pure

/- rickyard/crc.step: its model, and that the Go function computes it: written by gen.py. -/
set_option linter.unusedVariables false
namespace Go.Proofs.Ytklhbaghbmndeaa
open Go Go.Xw
def crc_step.f (fu : Nat) (a0 : Int) : Option Int := (if (decide ((bAnd .u32 a0 1) = 1)) = true then some ((bXor .u32 (shR .u32 a0 1) 2197175160)) else some ((shR .u32 a0 1)))
set_option maxRecDepth 100000 in
set_option maxHeartbeats 400000 in
theorem crc_step.ok (fu : Nat) (w : World) (a0 : Int) (r : Int) (h : crc_step.f fu a0 = some r) :
    Calls Try.prog 156 (([.int .u32 a0] : List Value).toArray) w (fun e w' => ∃ v, e = .returned v ∧ v = .int .u32 r ∧ Gr w w') := by
  unfold crc_step.f at h
  have fB : Gr w w := Fr.refl _ _
  refine calls_cw Try.func156 rfl Try.ntmps156 rfl ?_
  refine cw_seq ?_
  refine cw_region ?_
  refine ol_val (v := .int .u32 0) (by exact xr_assign rfl rfl) rfl rfl rfl ?_
  refine ol_nil ?_
  refine cw_seq ?_
  refine cw_seq ?_
  refine cw_region ?_
  refine ol_val (v := .int .u32 a0) (by exact xr_move rfl rfl) rfl rfl rfl ?_
  refine ol_val (v := .int .u32 (bAnd .u32 a0 1)) (by exact xr_and rfl rfl rfl) rfl rfl rfl ?_
  refine ol_val (v := .bool (decide ((bAnd .u32 a0 1) = 1))) (by exact xr_eqI rfl Try.underlying191 rfl rfl rfl) rfl rfl rfl ?_
  refine ol_nil ?_
  rcases is h with ⟨c1, h⟩ | ⟨c1, h⟩
  · refine cw_condT rfl c1 ?_
    refine cw_seq ?_
    refine cw_region ?_
    refine ol_val (v := .int .u32 a0) (by exact xr_move rfl rfl) rfl rfl rfl ?_
    refine ol_val (v := .int .u32 (shR .u32 a0 1)) (by exact xr_shr rfl rfl rfl (by decide)) rfl rfl rfl ?_
    refine ol_val (v := .int .u32 (bXor .u32 (shR .u32 a0 1) 2197175160)) (by exact xr_xor rfl rfl rfl) rfl rfl rfl ?_
    refine ol_val (v := .int .u32 (bXor .u32 (shR .u32 a0 1) 2197175160)) (by exact xr_assign rfl rfl) rfl rfl rfl ?_
    refine ol_nil ?_
    refine cw_ret ?_
    repeat (first | with_reducible refine thn_r ?_ | with_reducible refine blk_r ?_)
    obtain rfl := Option.some.inj h
    refine fin_ret1 Try.results156 rfl ?_
    exact ⟨_, rfl, rfl, fB⟩
  · refine cw_condF rfl c1 ?_
    refine cw_skip ?_
    refine cw_seq ?_
    refine cw_region ?_
    refine ol_val (v := .int .u32 a0) (by exact xr_move rfl rfl) rfl rfl rfl ?_
    refine ol_val (v := .int .u32 (shR .u32 a0 1)) (by exact xr_shr rfl rfl rfl (by decide)) rfl rfl rfl ?_
    refine ol_val (v := .int .u32 (shR .u32 a0 1)) (by exact xr_assign rfl rfl) rfl rfl rfl ?_
    refine ol_nil ?_
    refine cw_ret ?_
    repeat (first | with_reducible refine thn_r ?_ | with_reducible refine blk_r ?_)
    obtain rfl := Option.some.inj h
    refine fin_ret1 Try.results156 rfl ?_
    exact ⟨_, rfl, rfl, fB⟩
end Go.Proofs.Ytklhbaghbmndeaa

/- rickyard/crc.Table: its model, and that the Go function computes it: written by gen.py. -/
set_option linter.unusedVariables false
namespace Go.Proofs.Ytklhbaghbmndeaa
open Go Go.Xw
def crc_Table.s3 (fu : Nat) : (Int × Int) → Option (Sum Int (Int × Int)) := fun s22 => (if (decide (s22.2 < 4)) = true then ((crc_step.f fu s22.1 : Option Int).bind fun t30 => some (Sum.inr (t30, (IntKind.i64.wrap (s22.2 + 1))))) else some (Sum.inl (s22.1)))
def crc_Table.s2 (fu : Nat) : (Int × (Arr 16 Int)) → Option (Sum (Arr 16 Int) (Int × (Arr 16 Int))) := fun s14 => (if (decide (s14.1 < 16)) = true then ((loopM (crc_Table.s3 fu) fu ((IntKind.u32.wrap s14.1), 0)).bind fun e23 => (if 0 ≤ s14.1 ∧ s14.1 < 16 then some (Sum.inr ((IntKind.i64.wrap (s14.1 + 1)), (Arr.set s14.2 s14.1 e23))) else none)) else some (Sum.inl (s14.2)))
def crc_Table.f (fu : Nat) : Option (Arr 16 Int) := ((loopM (crc_Table.s2 fu) fu (0, (Arr.rep 16 (0 : Int)))).bind fun e15 => some (e15))
set_option maxRecDepth 100000 in
set_option maxHeartbeats 400000 in
theorem crc_Table.ok (fu : Nat) (w : World)  (r : (Arr 16 Int)) (h : crc_Table.f fu = some r) :
    Calls Try.prog 154 (([] : List Value).toArray) w (fun e w' => ∃ v, e = .returned v ∧ v = aggV [Kd.seg (kA 16 (kI .u32)) r] ∧ Gr w w') := by
  unfold crc_Table.f at h
  have fB : Gr w w := Fr.refl _ _
  refine calls_cw Try.func154 rfl Try.ntmps154 rfl ?_
  refine cw_seq ?_
  refine cw_region ?_
  refine ol_op (by exact opv_alloc (ss := [Kd.seg (kA 16 (kI .u32)) (Arr.rep 16 (0 : Int))]) rfl ze205 rfl) rfl rfl rfl ?_
  rintro _ w6 ⟨G1, rfl, b2, q3, z4⟩
  have z4 := Nat.le_trans fB.size z4
  have fB := fB.gr q3
  refine ol_nil ?_
  refine cw_seq ?_
  refine cw_region ?_
  refine ol_op (by exact opv_alloc (ss := [Kd.seg (kA 16 (kI .u32)) (Arr.rep 16 (0 : Int))]) rfl ze205 rfl) rfl rfl rfl ?_
  rintro _ w12 ⟨G7, rfl, b8, q9, z10⟩
  have n13 := b2.ne z10
  have z10 := Nat.le_trans fB.size z10
  have b2 := b2.gr q9
  have fB := fB.gr q9
  refine ol_nil ?_
  refine cw_seq ?_
  refine cw_seq ?_
  refine cw_region ?_
  refine ol_val (v := .int .i64 0) (by exact xr_move rfl rfl) rfl rfl rfl ?_
  refine ol_nil ?_
  obtain ⟨e15, l16, h17⟩ := bs h
  refine cw_mid (fun ρ' w' => ρ' 0 = .pointer (some ⟨G1, 0, none⟩) ∧ ρ' 1 = .pointer (some ⟨G7, 0, none⟩) ∧ Blk w' G1 205 [Kd.seg (kA 16 (kI .u32)) (Arr.rep 16 (0 : Int))] ∧ Blk w' G7 205 [Kd.seg (kA 16 (kI .u32)) e15] ∧ Gr w w') ?_ ?_
  · refine cw_block ?_
    refine cw_round (fun (s14 : Int × (Arr 16 Int)) ρ' w' => ρ' 0 = .pointer (some ⟨G1, 0, none⟩) ∧ ρ' 1 = .pointer (some ⟨G7, 0, none⟩) ∧ ρ' 4 = .int .i64 s14.1 ∧ Blk w' G1 205 [Kd.seg (kA 16 (kI .u32)) (Arr.rep 16 (0 : Int))] ∧ Blk w' G7 205 [Kd.seg (kA 16 (kI .u32)) s14.2] ∧ Gr w w') l16 ?_ ?_
    · skip
      exact ⟨rfl, rfl, rfl, b2, b8, fB⟩
    · rintro s14 x20 ρ18 w19 ⟨e0, e1, e4, b2, b8, fB⟩ h
      unfold crc_Table.s2 at h
      refine cw_seq ?_
      refine cw_region ?_
      refine ol_val (v := .bool (decide (s14.1 < 16))) (by exact xr_lss rfl e4 rfl) rfl rfl rfl ?_
      refine ol_nil ?_
      refine cw_seq ?_
      rcases is h with ⟨c21, h⟩ | ⟨c21, h⟩
      · refine cw_condT rfl c21 ?_
        refine cw_skip ?_
        refine cw_seq ?_
        refine cw_block ?_
        refine cw_seq ?_
        refine cw_region ?_
        refine ol_val (v := .int .i64 s14.1) (by exact xr_move rfl e4) rfl rfl rfl ?_
        refine ol_val (v := .int .i64 s14.1) (by exact xr_assign rfl rfl) rfl rfl rfl ?_
        refine ol_nil ?_
        refine cw_seq ?_
        refine cw_region ?_
        refine ol_val (v := .int .i64 s14.1) (by exact xr_move rfl rfl) rfl rfl rfl ?_
        refine ol_val (v := .int .u32 (IntKind.u32.wrap s14.1)) (by exact xr_conv rfl Try.underlying3 Try.underlying191 rfl) rfl rfl rfl ?_
        refine ol_val (v := .int .u32 (IntKind.u32.wrap s14.1)) (by exact xr_assign rfl rfl) rfl rfl rfl ?_
        refine ol_nil ?_
        refine cw_seq ?_
        refine cw_seq ?_
        refine cw_region ?_
        refine ol_val (v := .int .i64 0) (by exact xr_move rfl rfl) rfl rfl rfl ?_
        refine ol_nil ?_
        obtain ⟨e23, l24, h25⟩ := bs h
        refine cw_mid (fun ρ' w' => ρ' 0 = .pointer (some ⟨G1, 0, none⟩) ∧ ρ' 1 = .pointer (some ⟨G7, 0, none⟩) ∧ ρ' 2 = .int .i64 s14.1 ∧ ρ' 3 = .int .u32 e23 ∧ ρ' 4 = .int .i64 s14.1 ∧ Blk w' G1 205 [Kd.seg (kA 16 (kI .u32)) (Arr.rep 16 (0 : Int))] ∧ Blk w' G7 205 [Kd.seg (kA 16 (kI .u32)) s14.2] ∧ Gr w w') ?_ ?_
        · refine cw_block ?_
          refine cw_round (fun (s22 : Int × Int) ρ' w' => ρ' 0 = .pointer (some ⟨G1, 0, none⟩) ∧ ρ' 1 = .pointer (some ⟨G7, 0, none⟩) ∧ ρ' 2 = .int .i64 s14.1 ∧ ρ' 3 = .int .u32 s22.1 ∧ ρ' 4 = .int .i64 s14.1 ∧ ρ' 9 = .int .i64 s22.2 ∧ Blk w' G1 205 [Kd.seg (kA 16 (kI .u32)) (Arr.rep 16 (0 : Int))] ∧ Blk w' G7 205 [Kd.seg (kA 16 (kI .u32)) s14.2] ∧ Gr w w') l24 ?_ ?_
          · skip
            exact ⟨e0, e1, rfl, rfl, e4, rfl, b2, b8, fB⟩
          · rintro s22 x28 ρ26 w27 ⟨e0, e1, e2, e3, e4, e9, b2, b8, fB⟩ h
            unfold crc_Table.s3 at h
            refine cw_seq ?_
            refine cw_region ?_
            refine ol_val (v := .bool (decide (s22.2 < 4))) (by exact xr_lss rfl e9 rfl) rfl rfl rfl ?_
            refine ol_nil ?_
            refine cw_seq ?_
            rcases is h with ⟨c29, h⟩ | ⟨c29, h⟩
            · refine cw_condT rfl c29 ?_
              refine cw_skip ?_
              refine cw_seq ?_
              refine cw_block ?_
              refine cw_region ?_
              refine ol_val (v := .int .u32 s22.1) (by exact xr_move rfl e3) rfl rfl rfl ?_
              obtain ⟨t30, k31, h⟩ := bs h
              refine ol_op (by exact opv_call rfl cal156 (ac rfl an) (crc_step.ok fu _ s22.1 _ k31)) rfl rfl rfl ?_
              rintro _ w33 ⟨rfl, q32⟩
              have b2 := b2.gr q32
              have b8 := b8.gr q32
              have fB := fB.gr q32
              refine ol_val (v := .int .u32 t30) (by exact xr_assign rfl rfl) rfl rfl rfl ?_
              refine ol_nil ?_
              refine blk_i ?_
              refine cw_region ?_
              refine ol_val (v := .int .i64 (IntKind.i64.wrap (s22.2 + 1))) (by exact xr_add rfl e9 rfl) rfl rfl rfl ?_
              refine ol_val (v := .int .i64 (IntKind.i64.wrap (s22.2 + 1))) (by exact xr_move rfl rfl) rfl rfl rfl ?_
              refine ol_nil ?_
              obtain rfl := Option.some.inj h
              refine lp_in ?_
              exact ⟨e0, e1, e2, rfl, e4, rfl, b2, b8, fB⟩
            · refine cw_condF rfl c29 ?_
              refine cw_exit ?_
              repeat (first | with_reducible refine thn_e ?_ | with_reducible refine blk_e rfl ?_)
              obtain rfl := Option.some.inj h
              refine lp_exit ?_
              rintro rfl
              refine thn_x ?_
              exact ⟨e0, e1, e2, e3, e4, b2, b8, fB⟩
        · rintro ρ34 w35 ⟨e0, e1, e2, e3, e4, b2, b8, fB⟩
          have h := h25
          refine cw_region ?_
          refine ol_val (v := .int .i64 s14.1) (by exact xr_move rfl e2) rfl rfl rfl ?_
          refine ol_val (v := .int .u32 e23) (by exact xr_move rfl e3) rfl rfl rfl ?_
          obtain ⟨g36, h⟩ := gs h
          refine ol_val (v := .pointer (some ⟨G7, 0 + Int.toNat s14.1 * 1, none⟩)) (by exact xr_indexA (p := 0) (s := 1) rfl Try.underlying205 sz191 e1 rfl g36.1 g36.2) rfl rfl rfl ?_
          refine ol_op0 (by exact opv_store (ss' := [Kd.seg (kA 16 (kI .u32)) (Arr.set s14.2 s14.1 e23)]) (xs := cellsOf [Seg.cell (.int .u32 e23)]) rfl sz191 rfl rfl rfl (len_cellsOf _) (one_cellsOf _) b8 (Spl.seg_in _ 0 (Kd.seg (kA 16 (kI .u32)) (Arr.set s14.2 s14.1 e23)) rfl rfl (Spl.arr s14.2 s14.1 e23 g36.1 g36.2 (Spl.whole ((Kd.len _ _).trans (Kd.len _ _).symm))))) rfl rfl ?_
          rintro _ w38 ⟨b8, q37⟩
          have b2 := b2.wr q37 n13
          have fB := fB.wr q37 z10
          refine ol_nil ?_
          refine blk_i ?_
          refine cw_region ?_
          refine ol_val (v := .int .i64 (IntKind.i64.wrap (s14.1 + 1))) (by exact xr_add rfl e4 rfl) rfl rfl rfl ?_
          refine ol_val (v := .int .i64 (IntKind.i64.wrap (s14.1 + 1))) (by exact xr_move rfl rfl) rfl rfl rfl ?_
          refine ol_nil ?_
          obtain rfl := Option.some.inj h
          refine lp_in ?_
          exact ⟨e0, e1, rfl, b2, b8, fB⟩
      · refine cw_condF rfl c21 ?_
        refine cw_exit ?_
        repeat (first | with_reducible refine thn_e ?_ | with_reducible refine blk_e rfl ?_)
        obtain rfl := Option.some.inj h
        refine lp_exit ?_
        rintro rfl
        refine thn_x ?_
        exact ⟨e0, e1, b2, b8, fB⟩
  · rintro ρ39 w40 ⟨e0, e1, b2, b8, fB⟩
    have h := h17
    refine cw_seq ?_
    refine cw_region ?_
    refine ol_val (v := aggV [Kd.seg (kA 16 (kI .u32)) e15]) (by exact xr_loadS (ss := [Kd.seg (kA 16 (kI .u32)) e15]) rfl ag205 sz205 rfl e1 (b8.segs 0 1 rfl)) rfl rfl rfl ?_
    refine ol_op0 (by exact opv_store (ss' := [Kd.seg (kA 16 (kI .u32)) e15]) (xs := cellsOf [Kd.seg (kA 16 (kI .u32)) e15]) rfl sz205 e0 rfl rfl (len_cellsOf _) (one_cellsOf _) b2 (Spl.segs _ 0 1 [Kd.seg (kA 16 (kI .u32)) e15] rfl rfl)) rfl rfl ?_
    rintro _ w42 ⟨b2, q41⟩
    have fB := fB.wr q41 z4
    refine ol_nil ?_
    refine cw_ret ?_
    repeat (first | with_reducible refine thn_r ?_ | with_reducible refine blk_r ?_)
    obtain rfl := Option.some.inj h
    refine fin_cell Try.results154 e0 ag205 sz205 b2 (by rfl) ?_
    exact ⟨_, rfl, rfl, fB⟩
end Go.Proofs.Ytklhbaghbmndeaa

/- rickyard/crc.register: its model, and that the Go function computes it: written by gen.py. -/
set_option linter.unusedVariables false
namespace Go.Proofs.Ytklhbaghbmndeaa
open Go Go.Xw
def crc_register.s0 (fu : Nat) (a0 : Arr 16 Int) (a2 : List Int) : (Int × Int) → Option (Sum Int (Int × Int)) := fun s1 => (if (decide (s1.2 < (List.length a2 : Int))) = true then (if 0 ≤ s1.2 ∧ s1.2 < (List.length a2 : Int) then (if 0 ≤ (bAnd .u32 (bXor .u32 s1.1 (IntKind.u32.wrap (ix a2 s1.2))) 15) ∧ (bAnd .u32 (bXor .u32 s1.1 (IntKind.u32.wrap (ix a2 s1.2))) 15) < 16 then (if 0 ≤ (bAnd .u32 (bXor .u32 (shR .u32 (bXor .u32 s1.1 (IntKind.u32.wrap (ix a2 s1.2))) 4) (Arr.get a0 (bAnd .u32 (bXor .u32 s1.1 (IntKind.u32.wrap (ix a2 s1.2))) 15))) 15) ∧ (bAnd .u32 (bXor .u32 (shR .u32 (bXor .u32 s1.1 (IntKind.u32.wrap (ix a2 s1.2))) 4) (Arr.get a0 (bAnd .u32 (bXor .u32 s1.1 (IntKind.u32.wrap (ix a2 s1.2))) 15))) 15) < 16 then some (Sum.inr ((bXor .u32 (shR .u32 (bXor .u32 (shR .u32 (bXor .u32 s1.1 (IntKind.u32.wrap (ix a2 s1.2))) 4) (Arr.get a0 (bAnd .u32 (bXor .u32 s1.1 (IntKind.u32.wrap (ix a2 s1.2))) 15))) 4) (Arr.get a0 (bAnd .u32 (bXor .u32 (shR .u32 (bXor .u32 s1.1 (IntKind.u32.wrap (ix a2 s1.2))) 4) (Arr.get a0 (bAnd .u32 (bXor .u32 s1.1 (IntKind.u32.wrap (ix a2 s1.2))) 15))) 15))), (IntKind.i64.wrap (s1.2 + 1)))) else none) else none) else none) else some (Sum.inl (s1.1)))
def crc_register.f (fu : Nat) (a0 : Arr 16 Int) (a1 : Int) (a2 : List Int) : Option Int := ((loopM (crc_register.s0 fu a0 a2) fu (a1, 0)).bind fun e2 => some (e2))
set_option maxRecDepth 100000 in
set_option maxHeartbeats 400000 in
theorem crc_register.ok (fu : Nat) (w : World) (a0 : Arr 16 Int) (G_0 : Nat) (b_0 : Blk w G_0 205 [Kd.seg (kA 16 (kI .u32)) a0]) (a1 : Int) (a2 : List Int) (V2_0 : Value) (R2_0 : Rd (kI .u8) w V2_0 a2) (r : Int) (h : crc_register.f fu a0 a1 a2 = some r) :
    Calls Try.prog 155 (([.pointer (some ⟨G_0, 0, none⟩), .int .u32 a1, V2_0] : List Value).toArray) w (fun e w' => ∃ v, e = .returned v ∧ v = .int .u32 r ∧ Gr w w') := by
  unfold crc_register.f at h
  have fB : Gr w w := Fr.refl _ _
  refine calls_cw Try.func155 rfl Try.ntmps155 rfl ?_
  refine cw_seq ?_
  refine cw_region ?_
  refine ol_val (v := .int .u32 0) (by exact xr_assign rfl rfl) rfl rfl rfl ?_
  refine ol_nil ?_
  refine cw_seq ?_
  refine cw_seq ?_
  refine cw_region ?_
  refine ol_val (v := V2_0) (by exact xr_move rfl rfl) rfl rfl rfl ?_
  refine ol_val (v := .int .i64 (List.length a2 : Int)) (by exact xr_lenR rfl Try.underlying43 rfl (R2_0.gr fB)) rfl rfl rfl ?_
  refine ol_val (v := .int .i64 0) (by exact xr_move rfl rfl) rfl rfl rfl ?_
  refine ol_nil ?_
  obtain ⟨e2, l3, h4⟩ := bs h
  refine cw_mid (fun ρ' w' => ρ' 1 = .int .u32 e2 ∧ Blk w' G_0 205 [Kd.seg (kA 16 (kI .u32)) a0] ∧ Gr w w') ?_ ?_
  · refine cw_block ?_
    refine cw_round (fun (s1 : Int × Int) ρ' w' => ρ' 0 = .pointer (some ⟨G_0, 0, none⟩) ∧ ρ' 1 = .int .u32 s1.1 ∧ ρ' 9 = V2_0 ∧ ρ' 10 = .int .i64 (List.length a2 : Int) ∧ ρ' 11 = .int .i64 s1.2 ∧ Blk w' G_0 205 [Kd.seg (kA 16 (kI .u32)) a0] ∧ Gr w w') l3 ?_ ?_
    · skip
      exact ⟨rfl, rfl, rfl, rfl, rfl, b_0, fB⟩
    · rintro s1 x7 ρ5 w6 ⟨e0, e1, e9, e10, e11, b_0, fB⟩ h
      unfold crc_register.s0 at h
      refine cw_seq ?_
      refine cw_region ?_
      refine ol_val (v := .bool (decide (s1.2 < (List.length a2 : Int)))) (by exact xr_lss rfl e11 e10) rfl rfl rfl ?_
      refine ol_nil ?_
      refine cw_seq ?_
      rcases is h with ⟨c8, h⟩ | ⟨c8, h⟩
      · refine cw_condT rfl c8 ?_
        refine cw_skip ?_
        refine cw_seq ?_
        refine cw_block ?_
        refine cw_seq ?_
        refine cw_region ?_
        obtain ⟨g9, h⟩ := gs h
        refine ol_val (v := .pointer (some ⟨(sb V2_0), so V2_0 + Int.toNat s1.2 * 1, none⟩)) (by exact xr_indexR (K := (kI .u8)) (v := V2_0) rfl Try.underlying43 sz5 e9 (R2_0.gr fB) e11 g9.1 g9.2) rfl rfl rfl ?_
        refine ol_val (v := .int .u8 (ix a2 s1.2)) (by exact xr_load1 (v := .int .u8 (ix a2 s1.2)) rfl ag5 rfl ((R2_0.gr fB).elem g9.1 g9.2)) rfl rfl rfl ?_
        refine ol_val (v := .int .u8 (ix a2 s1.2)) (by exact xr_assign rfl rfl) rfl rfl rfl ?_
        refine ol_nil ?_
        refine cw_seq ?_
        refine cw_region ?_
        refine ol_val (v := .int .u32 s1.1) (by exact xr_move rfl e1) rfl rfl rfl ?_
        refine ol_val (v := .int .u8 (ix a2 s1.2)) (by exact xr_move rfl rfl) rfl rfl rfl ?_
        refine ol_val (v := .int .u32 (IntKind.u32.wrap (ix a2 s1.2))) (by exact xr_conv rfl Try.underlying5 Try.underlying191 rfl) rfl rfl rfl ?_
        refine ol_val (v := .int .u32 (bXor .u32 s1.1 (IntKind.u32.wrap (ix a2 s1.2)))) (by exact xr_xor rfl rfl rfl) rfl rfl rfl ?_
        refine ol_val (v := .int .u32 (bXor .u32 s1.1 (IntKind.u32.wrap (ix a2 s1.2)))) (by exact xr_assign rfl rfl) rfl rfl rfl ?_
        refine ol_nil ?_
        refine cw_seq ?_
        refine cw_region ?_
        refine ol_val (v := .int .u32 (bXor .u32 s1.1 (IntKind.u32.wrap (ix a2 s1.2)))) (by exact xr_move rfl rfl) rfl rfl rfl ?_
        refine ol_val (v := .int .u32 (shR .u32 (bXor .u32 s1.1 (IntKind.u32.wrap (ix a2 s1.2))) 4)) (by exact xr_shr rfl rfl rfl (by decide)) rfl rfl rfl ?_
        refine ol_val (v := .pointer (some ⟨G_0, 0, none⟩)) (by exact xr_move rfl e0) rfl rfl rfl ?_
        refine ol_val (v := .int .u32 (bXor .u32 s1.1 (IntKind.u32.wrap (ix a2 s1.2)))) (by exact xr_move rfl rfl) rfl rfl rfl ?_
        refine ol_val (v := .int .u32 (bAnd .u32 (bXor .u32 s1.1 (IntKind.u32.wrap (ix a2 s1.2))) 15)) (by exact xr_and rfl rfl rfl) rfl rfl rfl ?_
        refine ol_val (v := .pointer (some ⟨G_0, 0, none⟩)) (by exact xr_nilCheck rfl rfl) rfl rfl rfl ?_
        obtain ⟨g10, h⟩ := gs h
        refine ol_val (v := .pointer (some ⟨G_0, 0 + Int.toNat (bAnd .u32 (bXor .u32 s1.1 (IntKind.u32.wrap (ix a2 s1.2))) 15) * 1, none⟩)) (by exact xr_indexA (p := 0) (s := 1) rfl Try.underlying205 sz191 rfl rfl g10.1 g10.2) rfl rfl rfl ?_
        refine ol_val (v := .int .u32 (Arr.get a0 (bAnd .u32 (bXor .u32 s1.1 (IntKind.u32.wrap (ix a2 s1.2))) 15))) (by exact xr_load1 (v := .int .u32 (Arr.get a0 (bAnd .u32 (bXor .u32 s1.1 (IntKind.u32.wrap (ix a2 s1.2))) 15))) rfl ag191 rfl (At.arr (a := a0) (b_0.seg 0 rfl rfl) g10.1 g10.2)) rfl rfl rfl ?_
        refine ol_val (v := .int .u32 (bXor .u32 (shR .u32 (bXor .u32 s1.1 (IntKind.u32.wrap (ix a2 s1.2))) 4) (Arr.get a0 (bAnd .u32 (bXor .u32 s1.1 (IntKind.u32.wrap (ix a2 s1.2))) 15)))) (by exact xr_xor rfl rfl rfl) rfl rfl rfl ?_
        refine ol_val (v := .int .u32 (bXor .u32 (shR .u32 (bXor .u32 s1.1 (IntKind.u32.wrap (ix a2 s1.2))) 4) (Arr.get a0 (bAnd .u32 (bXor .u32 s1.1 (IntKind.u32.wrap (ix a2 s1.2))) 15)))) (by exact xr_assign rfl rfl) rfl rfl rfl ?_
        refine ol_nil ?_
        refine cw_region ?_
        refine ol_val (v := .int .u32 (bXor .u32 (shR .u32 (bXor .u32 s1.1 (IntKind.u32.wrap (ix a2 s1.2))) 4) (Arr.get a0 (bAnd .u32 (bXor .u32 s1.1 (IntKind.u32.wrap (ix a2 s1.2))) 15)))) (by exact xr_move rfl rfl) rfl rfl rfl ?_
        refine ol_val (v := .int .u32 (shR .u32 (bXor .u32 (shR .u32 (bXor .u32 s1.1 (IntKind.u32.wrap (ix a2 s1.2))) 4) (Arr.get a0 (bAnd .u32 (bXor .u32 s1.1 (IntKind.u32.wrap (ix a2 s1.2))) 15))) 4)) (by exact xr_shr rfl rfl rfl (by decide)) rfl rfl rfl ?_
        refine ol_val (v := .pointer (some ⟨G_0, 0, none⟩)) (by exact xr_move rfl e0) rfl rfl rfl ?_
        refine ol_val (v := .int .u32 (bXor .u32 (shR .u32 (bXor .u32 s1.1 (IntKind.u32.wrap (ix a2 s1.2))) 4) (Arr.get a0 (bAnd .u32 (bXor .u32 s1.1 (IntKind.u32.wrap (ix a2 s1.2))) 15)))) (by exact xr_move rfl rfl) rfl rfl rfl ?_
        refine ol_val (v := .int .u32 (bAnd .u32 (bXor .u32 (shR .u32 (bXor .u32 s1.1 (IntKind.u32.wrap (ix a2 s1.2))) 4) (Arr.get a0 (bAnd .u32 (bXor .u32 s1.1 (IntKind.u32.wrap (ix a2 s1.2))) 15))) 15)) (by exact xr_and rfl rfl rfl) rfl rfl rfl ?_
        refine ol_val (v := .pointer (some ⟨G_0, 0, none⟩)) (by exact xr_nilCheck rfl rfl) rfl rfl rfl ?_
        obtain ⟨g11, h⟩ := gs h
        refine ol_val (v := .pointer (some ⟨G_0, 0 + Int.toNat (bAnd .u32 (bXor .u32 (shR .u32 (bXor .u32 s1.1 (IntKind.u32.wrap (ix a2 s1.2))) 4) (Arr.get a0 (bAnd .u32 (bXor .u32 s1.1 (IntKind.u32.wrap (ix a2 s1.2))) 15))) 15) * 1, none⟩)) (by exact xr_indexA (p := 0) (s := 1) rfl Try.underlying205 sz191 rfl rfl g11.1 g11.2) rfl rfl rfl ?_
        refine ol_val (v := .int .u32 (Arr.get a0 (bAnd .u32 (bXor .u32 (shR .u32 (bXor .u32 s1.1 (IntKind.u32.wrap (ix a2 s1.2))) 4) (Arr.get a0 (bAnd .u32 (bXor .u32 s1.1 (IntKind.u32.wrap (ix a2 s1.2))) 15))) 15))) (by exact xr_load1 (v := .int .u32 (Arr.get a0 (bAnd .u32 (bXor .u32 (shR .u32 (bXor .u32 s1.1 (IntKind.u32.wrap (ix a2 s1.2))) 4) (Arr.get a0 (bAnd .u32 (bXor .u32 s1.1 (IntKind.u32.wrap (ix a2 s1.2))) 15))) 15))) rfl ag191 rfl (At.arr (a := a0) (b_0.seg 0 rfl rfl) g11.1 g11.2)) rfl rfl rfl ?_
        refine ol_val (v := .int .u32 (bXor .u32 (shR .u32 (bXor .u32 (shR .u32 (bXor .u32 s1.1 (IntKind.u32.wrap (ix a2 s1.2))) 4) (Arr.get a0 (bAnd .u32 (bXor .u32 s1.1 (IntKind.u32.wrap (ix a2 s1.2))) 15))) 4) (Arr.get a0 (bAnd .u32 (bXor .u32 (shR .u32 (bXor .u32 s1.1 (IntKind.u32.wrap (ix a2 s1.2))) 4) (Arr.get a0 (bAnd .u32 (bXor .u32 s1.1 (IntKind.u32.wrap (ix a2 s1.2))) 15))) 15)))) (by exact xr_xor rfl rfl rfl) rfl rfl rfl ?_
        refine ol_val (v := .int .u32 (bXor .u32 (shR .u32 (bXor .u32 (shR .u32 (bXor .u32 s1.1 (IntKind.u32.wrap (ix a2 s1.2))) 4) (Arr.get a0 (bAnd .u32 (bXor .u32 s1.1 (IntKind.u32.wrap (ix a2 s1.2))) 15))) 4) (Arr.get a0 (bAnd .u32 (bXor .u32 (shR .u32 (bXor .u32 s1.1 (IntKind.u32.wrap (ix a2 s1.2))) 4) (Arr.get a0 (bAnd .u32 (bXor .u32 s1.1 (IntKind.u32.wrap (ix a2 s1.2))) 15))) 15)))) (by exact xr_assign rfl rfl) rfl rfl rfl ?_
        refine ol_nil ?_
        refine blk_i ?_
        refine cw_region ?_
        refine ol_val (v := .int .i64 (IntKind.i64.wrap (s1.2 + 1))) (by exact xr_add rfl e11 rfl) rfl rfl rfl ?_
        refine ol_val (v := .int .i64 (IntKind.i64.wrap (s1.2 + 1))) (by exact xr_move rfl rfl) rfl rfl rfl ?_
        refine ol_nil ?_
        obtain rfl := Option.some.inj h
        refine lp_in ?_
        exact ⟨e0, rfl, e9, e10, rfl, b_0, fB⟩
      · refine cw_condF rfl c8 ?_
        refine cw_exit ?_
        repeat (first | with_reducible refine thn_e ?_ | with_reducible refine blk_e rfl ?_)
        obtain rfl := Option.some.inj h
        refine lp_exit ?_
        rintro rfl
        refine thn_x ?_
        exact ⟨e1, b_0, fB⟩
  · rintro ρ12 w13 ⟨e1, b_0, fB⟩
    have h := h4
    refine cw_seq ?_
    refine cw_region ?_
    refine ol_val (v := .int .u32 e2) (by exact xr_move rfl e1) rfl rfl rfl ?_
    refine ol_val (v := .int .u32 e2) (by exact xr_assign rfl rfl) rfl rfl rfl ?_
    refine ol_nil ?_
    refine cw_ret ?_
    repeat (first | with_reducible refine thn_r ?_ | with_reducible refine blk_r ?_)
    obtain rfl := Option.some.inj h
    refine fin_ret1 Try.results155 rfl ?_
    exact ⟨_, rfl, rfl, fB⟩
end Go.Proofs.Ytklhbaghbmndeaa

/- rickyard/crc.Sum: its model, and that the Go function computes it: written by gen.py. -/
set_option linter.unusedVariables false
namespace Go.Proofs.Ytklhbaghbmndeaa
open Go Go.Xw
def crc_Sum.s0 (fu : Nat) (a0 : List (List Int)) (t1 : (Arr 16 Int)) : (Int × Int) → Option (Sum Int (Int × Int)) := fun s13 => (if (decide (s13.2 < (List.length a0 : Int))) = true then (if 0 ≤ s13.2 ∧ s13.2 < (List.length a0 : Int) then ((crc_register.f fu t1 s13.1 (ix a0 s13.2) : Option Int).bind fun t23 => some (Sum.inr (t23, (IntKind.i64.wrap (s13.2 + 1))))) else none) else some (Sum.inl (s13.1)))
def crc_Sum.f (fu : Nat) (a0 : List (List Int)) : Option Int := ((crc_Table.f fu : Option (Arr 16 Int)).bind fun t1 => ((loopM (crc_Sum.s0 fu a0 t1) fu (4294967295, 0)).bind fun e14 => some ((bXor .u32 e14 4294967295))))
set_option maxRecDepth 100000 in
set_option maxHeartbeats 400000 in
theorem crc_Sum.ok (fu : Nat) (w : World) (a0 : List (List Int)) (V0_0 : Value) (R0_0 : Rds (kI .u8) w V0_0 a0) (r : Int) (h : crc_Sum.f fu a0 = some r) :
    Calls Try.prog 149 (([V0_0] : List Value).toArray) w (fun e w' => ∃ v, e = .returned v ∧ v = .int .u32 r ∧ Gr w w') := by
  unfold crc_Sum.f at h
  have fB : Gr w w := Fr.refl _ _
  refine calls_cw Try.func149 rfl Try.ntmps149 rfl ?_
  refine cw_seq ?_
  refine cw_region ?_
  refine ol_val (v := .int .u32 0) (by exact xr_assign rfl rfl) rfl rfl rfl ?_
  refine ol_nil ?_
  refine cw_seq ?_
  refine cw_region ?_
  obtain ⟨t1, k2, h⟩ := bs h
  refine ol_op (by exact opv_call rfl cal154 an (crc_Table.ok fu _ _ k2)) rfl rfl rfl ?_
  rintro _ w4 ⟨rfl, q3⟩
  have fB := fB.gr q3
  refine ol_op (by exact opv_alloc (ss := [Kd.seg (kA 16 (kI .u32)) (Arr.rep 16 (0 : Int))]) rfl ze205 rfl) rfl rfl rfl ?_
  rintro _ w10 ⟨G5, rfl, b6, q7, z8⟩
  have z8 := Nat.le_trans fB.size z8
  have fB := fB.gr q7
  refine ol_op0 (by exact opv_store (ss' := [Kd.seg (kA 16 (kI .u32)) t1]) (xs := cellsOf [Kd.seg (kA 16 (kI .u32)) t1]) rfl sz205 rfl rfl rfl (len_cellsOf _) (one_cellsOf _) b6 (Spl.segs _ 0 1 [Kd.seg (kA 16 (kI .u32)) t1] rfl rfl)) rfl rfl ?_
  rintro _ w12 ⟨b6, q11⟩
  have fB := fB.wr q11 z8
  refine ol_val (v := .int .u32 4294967295) (by exact xr_assign rfl rfl) rfl rfl rfl ?_
  refine ol_nil ?_
  refine cw_seq ?_
  refine cw_seq ?_
  refine cw_region ?_
  refine ol_val (v := V0_0) (by exact xr_move rfl rfl) rfl rfl rfl ?_
  refine ol_val (v := .int .i64 (List.length a0 : Int)) (by exact xr_lenRs rfl Try.underlying100 rfl (R0_0.gr fB)) rfl rfl rfl ?_
  refine ol_val (v := .int .i64 0) (by exact xr_move rfl rfl) rfl rfl rfl ?_
  refine ol_nil ?_
  obtain ⟨e14, l15, h16⟩ := bs h
  refine cw_mid (fun ρ' w' => ρ' 4 = .int .u32 e14 ∧ Gr w w') ?_ ?_
  · refine cw_block ?_
    refine cw_round (fun (s13 : Int × Int) ρ' w' => ρ' 3 = .pointer (some ⟨G5, 0, none⟩) ∧ ρ' 4 = .int .u32 s13.1 ∧ ρ' 8 = V0_0 ∧ ρ' 9 = .int .i64 (List.length a0 : Int) ∧ ρ' 10 = .int .i64 s13.2 ∧ Blk w' G5 205 [Kd.seg (kA 16 (kI .u32)) t1] ∧ Gr w w') l15 ?_ ?_
    · skip
      exact ⟨rfl, rfl, rfl, rfl, rfl, b6, fB⟩
    · rintro s13 x19 ρ17 w18 ⟨e3, e4, e8, e9, e10, b6, fB⟩ h
      unfold crc_Sum.s0 at h
      refine cw_seq ?_
      refine cw_region ?_
      refine ol_val (v := .bool (decide (s13.2 < (List.length a0 : Int)))) (by exact xr_lss rfl e10 e9) rfl rfl rfl ?_
      refine ol_nil ?_
      refine cw_seq ?_
      rcases is h with ⟨c20, h⟩ | ⟨c20, h⟩
      · refine cw_condT rfl c20 ?_
        refine cw_skip ?_
        refine cw_seq ?_
        refine cw_block ?_
        refine cw_seq ?_
        refine cw_region ?_
        obtain ⟨g21, h⟩ := gs h
        refine ol_val (v := .pointer (some ⟨(sb V0_0), so V0_0 + Int.toNat s13.2 * 1, none⟩)) (by exact xr_indexRs (v := V0_0) rfl Try.underlying100 sz43 e8 (R0_0.gr fB) e10 g21.1 g21.2) rfl rfl rfl ?_
        refine ol_val (v := inner w18 V0_0 s13.2) (by exact xr_load1 (v := inner w18 V0_0 s13.2) rfl ag43 rfl ((R0_0.gr fB).elem g21.1 g21.2).1) rfl rfl rfl ?_
        have r22 : Rd (kI .u8) w18 (inner w18 V0_0 s13.2) (ix a0 s13.2) := ((R0_0.gr fB).elem g21.1 g21.2).2
        refine ol_val (v := inner w18 V0_0 s13.2) (by exact xr_assign rfl rfl) rfl rfl rfl ?_
        refine ol_nil ?_
        refine cw_region ?_
        refine ol_val (v := .int .u32 s13.1) (by exact xr_move rfl e4) rfl rfl rfl ?_
        refine ol_val (v := inner w18 V0_0 s13.2) (by exact xr_move rfl rfl) rfl rfl rfl ?_
        obtain ⟨t23, k24, h⟩ := bs h
        refine ol_op (by exact opv_call rfl cal155 (ac e3 (ac rfl (ac rfl an))) (crc_register.ok fu _ t1 G5 b6 s13.1 (ix a0 s13.2) (inner w18 V0_0 s13.2) (r22) _ k24)) rfl rfl rfl ?_
        rintro _ w26 ⟨rfl, q25⟩
        have b6 := b6.gr q25
        have fB := fB.gr q25
        refine ol_val (v := .int .u32 t23) (by exact xr_assign rfl rfl) rfl rfl rfl ?_
        refine ol_nil ?_
        refine blk_i ?_
        refine cw_region ?_
        refine ol_val (v := .int .i64 (IntKind.i64.wrap (s13.2 + 1))) (by exact xr_add rfl e10 rfl) rfl rfl rfl ?_
        refine ol_val (v := .int .i64 (IntKind.i64.wrap (s13.2 + 1))) (by exact xr_move rfl rfl) rfl rfl rfl ?_
        refine ol_nil ?_
        obtain rfl := Option.some.inj h
        refine lp_in ?_
        exact ⟨e3, rfl, e8, e9, rfl, b6, fB⟩
      · refine cw_condF rfl c20 ?_
        refine cw_exit ?_
        repeat (first | with_reducible refine thn_e ?_ | with_reducible refine blk_e rfl ?_)
        obtain rfl := Option.some.inj h
        refine lp_exit ?_
        rintro rfl
        refine thn_x ?_
        exact ⟨e4, fB⟩
  · rintro ρ27 w28 ⟨e4, fB⟩
    have h := h16
    refine cw_seq ?_
    refine cw_region ?_
    refine ol_val (v := .int .u32 e14) (by exact xr_move rfl e4) rfl rfl rfl ?_
    refine ol_val (v := .int .u32 (bXor .u32 e14 4294967295)) (by exact xr_xor rfl rfl rfl) rfl rfl rfl ?_
    refine ol_val (v := .int .u32 (bXor .u32 e14 4294967295)) (by exact xr_assign rfl rfl) rfl rfl rfl ?_
    refine ol_nil ?_
    refine cw_ret ?_
    repeat (first | with_reducible refine thn_r ?_ | with_reducible refine blk_r ?_)
    obtain rfl := Option.some.inj h
    refine fin_ret1 Try.results149 rfl ?_
    exact ⟨_, rfl, rfl, fB⟩
end Go.Proofs.Ytklhbaghbmndeaa

/- rickyard/rickyardref02.Step: its model, and that the Go function computes it: written by gen.py. -/
set_option linter.unusedVariables false
namespace Go.Proofs.Ytklhbaghbmndeaa
open Go Go.Xw
def rickyardref02_Step.f (fu : Nat) (a0 : Int) : Option Int := (if (decide ((Int.tmod a0 2) = 1)) = true then some ((bXor .u32 (IntKind.u32.wrap (Int.tdiv a0 2)) 2197175160)) else some ((IntKind.u32.wrap (Int.tdiv a0 2))))
set_option maxRecDepth 100000 in
set_option maxHeartbeats 400000 in
theorem rickyardref02_Step.ok (fu : Nat) (w : World) (a0 : Int) (r : Int) (h : rickyardref02_Step.f fu a0 = some r) :
    Calls Try.prog 153 (([.int .u32 a0] : List Value).toArray) w (fun e w' => ∃ v, e = .returned v ∧ v = .int .u32 r ∧ Gr w w') := by
  unfold rickyardref02_Step.f at h
  have fB : Gr w w := Fr.refl _ _
  refine calls_cw Try.func153 rfl Try.ntmps153 rfl ?_
  refine cw_seq ?_
  refine cw_region ?_
  refine ol_val (v := .int .u32 0) (by exact xr_assign rfl rfl) rfl rfl rfl ?_
  refine ol_nil ?_
  refine cw_seq ?_
  refine cw_seq ?_
  refine cw_region ?_
  refine ol_val (v := .int .u32 a0) (by exact xr_move rfl rfl) rfl rfl rfl ?_
  refine ol_val (v := .int .u32 (Int.tmod a0 2)) (by exact xr_rem rfl rfl rfl (by decide)) rfl rfl rfl ?_
  refine ol_val (v := .bool (decide ((Int.tmod a0 2) = 1))) (by exact xr_eqI rfl Try.underlying191 rfl rfl rfl) rfl rfl rfl ?_
  refine ol_nil ?_
  rcases is h with ⟨c1, h⟩ | ⟨c1, h⟩
  · refine cw_condT rfl c1 ?_
    refine cw_seq ?_
    refine cw_region ?_
    refine ol_val (v := .int .u32 a0) (by exact xr_move rfl rfl) rfl rfl rfl ?_
    refine ol_val (v := .int .u32 (IntKind.u32.wrap (Int.tdiv a0 2))) (by exact xr_quo rfl rfl rfl (by decide)) rfl rfl rfl ?_
    refine ol_val (v := .int .u32 (bXor .u32 (IntKind.u32.wrap (Int.tdiv a0 2)) 2197175160)) (by exact xr_xor rfl rfl rfl) rfl rfl rfl ?_
    refine ol_val (v := .int .u32 (bXor .u32 (IntKind.u32.wrap (Int.tdiv a0 2)) 2197175160)) (by exact xr_assign rfl rfl) rfl rfl rfl ?_
    refine ol_nil ?_
    refine cw_ret ?_
    repeat (first | with_reducible refine thn_r ?_ | with_reducible refine blk_r ?_)
    obtain rfl := Option.some.inj h
    refine fin_ret1 Try.results153 rfl ?_
    exact ⟨_, rfl, rfl, fB⟩
  · refine cw_condF rfl c1 ?_
    refine cw_skip ?_
    refine cw_seq ?_
    refine cw_region ?_
    refine ol_val (v := .int .u32 a0) (by exact xr_move rfl rfl) rfl rfl rfl ?_
    refine ol_val (v := .int .u32 (IntKind.u32.wrap (Int.tdiv a0 2))) (by exact xr_quo rfl rfl rfl (by decide)) rfl rfl rfl ?_
    refine ol_val (v := .int .u32 (IntKind.u32.wrap (Int.tdiv a0 2))) (by exact xr_assign rfl rfl) rfl rfl rfl ?_
    refine ol_nil ?_
    refine cw_ret ?_
    repeat (first | with_reducible refine thn_r ?_ | with_reducible refine blk_r ?_)
    obtain rfl := Option.some.inj h
    refine fin_ret1 Try.results153 rfl ?_
    exact ⟨_, rfl, rfl, fB⟩
end Go.Proofs.Ytklhbaghbmndeaa

/- rickyard/rickyardref02.Steps: its model, and that the Go function computes it: written by gen.py. -/
set_option linter.unusedVariables false
namespace Go.Proofs.Ytklhbaghbmndeaa
open Go Go.Xw
def rickyardref02_Steps.s0 (fu : Nat) (a1 : Int) : (Int × Int) → Option (Sum Int (Int × Int)) := fun s1 => (if (decide (s1.2 < a1)) = true then ((rickyardref02_Step.f fu s1.1 : Option Int).bind fun t9 => some (Sum.inr (t9, (IntKind.i64.wrap (s1.2 + 1))))) else some (Sum.inl (s1.1)))
def rickyardref02_Steps.f (fu : Nat) (a0 : Int) (a1 : Int) : Option Int := ((loopM (rickyardref02_Steps.s0 fu a1) fu (a0, 0)).bind fun e2 => some (e2))
set_option maxRecDepth 100000 in
set_option maxHeartbeats 400000 in
theorem rickyardref02_Steps.ok (fu : Nat) (w : World) (a0 : Int) (a1 : Int) (r : Int) (h : rickyardref02_Steps.f fu a0 a1 = some r) :
    Calls Try.prog 148 (([.int .u32 a0, .int .i64 a1] : List Value).toArray) w (fun e w' => ∃ v, e = .returned v ∧ v = .int .u32 r ∧ Gr w w') := by
  unfold rickyardref02_Steps.f at h
  have fB : Gr w w := Fr.refl _ _
  refine calls_cw Try.func148 rfl Try.ntmps148 rfl ?_
  refine cw_seq ?_
  refine cw_region ?_
  refine ol_val (v := .int .u32 0) (by exact xr_assign rfl rfl) rfl rfl rfl ?_
  refine ol_nil ?_
  refine cw_seq ?_
  refine cw_seq ?_
  refine cw_region ?_
  refine ol_val (v := .int .i64 0) (by exact xr_assign rfl rfl) rfl rfl rfl ?_
  refine ol_nil ?_
  obtain ⟨e2, l3, h4⟩ := bs h
  refine cw_mid (fun ρ' w' => ρ' 0 = .int .u32 e2 ∧ Gr w w') ?_ ?_
  · refine cw_block ?_
    refine cw_round (fun (s1 : Int × Int) ρ' w' => ρ' 0 = .int .u32 s1.1 ∧ ρ' 1 = .int .i64 a1 ∧ ρ' 5 = .int .i64 s1.2 ∧ Gr w w') l3 ?_ ?_
    · skip
      exact ⟨rfl, rfl, rfl, fB⟩
    · rintro s1 x7 ρ5 w6 ⟨e0, e1, e5, fB⟩ h
      unfold rickyardref02_Steps.s0 at h
      refine cw_seq ?_
      refine cw_seq ?_
      refine cw_region ?_
      refine ol_val (v := .int .i64 s1.2) (by exact xr_move rfl e5) rfl rfl rfl ?_
      refine ol_val (v := .int .i64 a1) (by exact xr_move rfl e1) rfl rfl rfl ?_
      refine ol_val (v := .bool (decide (s1.2 < a1))) (by exact xr_lss rfl rfl rfl) rfl rfl rfl ?_
      refine ol_nil ?_
      rcases is h with ⟨c8, h⟩ | ⟨c8, h⟩
      · refine cw_condT rfl c8 ?_
        refine cw_skip ?_
        refine cw_seq ?_
        refine cw_block ?_
        refine cw_region ?_
        refine ol_val (v := .int .u32 s1.1) (by exact xr_move rfl e0) rfl rfl rfl ?_
        obtain ⟨t9, k10, h⟩ := bs h
        refine ol_op (by exact opv_call rfl cal153 (ac rfl an) (rickyardref02_Step.ok fu _ s1.1 _ k10)) rfl rfl rfl ?_
        rintro _ w12 ⟨rfl, q11⟩
        have fB := fB.gr q11
        refine ol_val (v := .int .u32 t9) (by exact xr_assign rfl rfl) rfl rfl rfl ?_
        refine ol_nil ?_
        refine blk_i ?_
        refine cw_region ?_
        refine ol_val (v := .int .i64 s1.2) (by exact xr_move rfl e5) rfl rfl rfl ?_
        refine ol_val (v := .int .i64 (IntKind.i64.wrap (s1.2 + 1))) (by exact xr_add rfl rfl rfl) rfl rfl rfl ?_
        refine ol_val (v := .int .i64 (IntKind.i64.wrap (s1.2 + 1))) (by exact xr_assign rfl rfl) rfl rfl rfl ?_
        refine ol_nil ?_
        obtain rfl := Option.some.inj h
        refine lp_in ?_
        exact ⟨rfl, e1, rfl, fB⟩
      · refine cw_condF rfl c8 ?_
        refine cw_exit ?_
        repeat (first | with_reducible refine thn_e ?_ | with_reducible refine blk_e rfl ?_)
        obtain rfl := Option.some.inj h
        refine lp_exit ?_
        rintro rfl
        refine thn_x ?_
        exact ⟨e0, fB⟩
  · rintro ρ13 w14 ⟨e0, fB⟩
    have h := h4
    refine cw_seq ?_
    refine cw_region ?_
    refine ol_val (v := .int .u32 e2) (by exact xr_move rfl e0) rfl rfl rfl ?_
    refine ol_val (v := .int .u32 e2) (by exact xr_assign rfl rfl) rfl rfl rfl ?_
    refine ol_nil ?_
    refine cw_ret ?_
    repeat (first | with_reducible refine thn_r ?_ | with_reducible refine blk_r ?_)
    obtain rfl := Option.some.inj h
    refine fin_ret1 Try.results148 rfl ?_
    exact ⟨_, rfl, rfl, fB⟩
end Go.Proofs.Ytklhbaghbmndeaa
