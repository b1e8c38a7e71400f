/- PmemCrash: texts merged, part 4 of 5. The last part proves that the law PmemCrash holds for every input. -/
import Derived.Test.YtklhbaghbmndeaaPkPmemCrash3
import Derived.ProofKit
import Derived.OpenShut
import Derived.ChangeOld
import Derived.Below
import Derived.SizedLaws
import Derived.WalkKit
/- rickyard/rickyardlaw05.PmemCrash: its model, and that the Go function computes it: written by gen.py. -/
set_option linter.unusedVariables false
namespace Go.Proofs.Ytklhbaghbmndeaa
open Go Go.Xw
def rickyardlaw05_PmemCrash.s0 (fu : Nat) (a0 : List S_rickyardlaw05_Act) : (Int × (List S_pmem_cell) × (List Int) × Int × Bool × Bool × Int × Int) → Option (Sum ((List S_pmem_cell) × (List Int) × Int × Bool × Bool × Int × Int) (Int × (List S_pmem_cell) × (List Int) × Int × Bool × Bool × Int × Int)) := fun s39 => (if (decide (s39.1 < (List.length a0 : Int))) = true then (if 0 ≤ s39.1 ∧ s39.1 < (List.length a0 : Int) then ((rickyardlaw05_Do.f fu (⟨s39.2.1, (⟨s39.2.2.1, s39.2.2.2.1⟩ : S_pmem_plan), s39.2.2.2.2.1, s39.2.2.2.2.2.1, s39.2.2.2.2.2.2.1, s39.2.2.2.2.2.2.2⟩ : S_pmem_Device) (ix a0 s39.1) : Option (Int × Int × S_pmem_Device)).bind fun t60 => some (Sum.inr ((IntKind.i64.wrap (s39.1 + 1)), t60.2.2.cells, t60.2.2.plan.list, t60.2.2.plan.at_, t60.2.2.off, t60.2.2.armed, t60.2.2.left, t60.2.2.steps))) else none) else some (Sum.inl (s39.2.1, s39.2.2.1, s39.2.2.2.1, s39.2.2.2.2.1, s39.2.2.2.2.2.1, s39.2.2.2.2.2.2.1, s39.2.2.2.2.2.2.2)))
def rickyardlaw05_PmemCrash.s1 (fu : Nat) (a1 : List Int) (t82 : (List S_api_Fate)) (t104 : (List Int)) : (Int × (List Int)) → Option (Sum (Sum Bool (List Int)) (Int × (List Int))) := fun s115 => (if (decide (s115.1 < (List.length t82 : Int))) = true then (if 0 ≤ s115.1 ∧ s115.1 < (List.length t82 : Int) then (((if (decide (s115.1 < (List.length a1 : Int))) = true then (if 0 ≤ s115.1 ∧ s115.1 < (List.length a1 : Int) then some ((ix a1 s115.1)) else none) else some (0)) : Option Int).bind fun x125 => (((if (decide (((ix t82 s115.1).At) < 0)) = true then some (true) else (if (decide (((ix t82 s115.1).At) ≥ 24)) = true then some (true) else (if (0 : Int) ≤ (IntKind.i64.wrap (8 * ((ix t82 s115.1).At))) ∧ (IntKind.i64.wrap (8 * ((ix t82 s115.1).At))) ≤ (IntKind.i64.wrap ((IntKind.i64.wrap (8 * ((ix t82 s115.1).At))) + 8)) ∧ (IntKind.i64.wrap ((IntKind.i64.wrap (8 * ((ix t82 s115.1).At))) + 8)) ≤ (List.length t104 : Int) then ((rickyardref01_Number.f fu (List.map toB (cut t104 (IntKind.i64.wrap (8 * ((ix t82 s115.1).At))) (IntKind.i64.wrap ((IntKind.i64.wrap (8 * ((ix t82 s115.1).At))) + 8)))) : Option Int).bind fun t144 => (if 0 ≤ s115.1 ∧ s115.1 < (List.length t82 : Int) then ((rickyardref05_Value.f fu (ix t82 s115.1) x125 : Option Int).bind fun t148 => some ((!decide (t144 = t148)))) else none)) else none))) : Option Bool).bind fun x132 => (if x132 = true then some (Sum.inl (Sum.inl (false))) else (if (0 : Int) ≤ (IntKind.i64.wrap (8 * ((ix t82 s115.1).At))) ∧ (IntKind.i64.wrap (8 * ((ix t82 s115.1).At))) ≤ (IntKind.i64.wrap ((IntKind.i64.wrap (8 * ((ix t82 s115.1).At))) + 8)) ∧ (IntKind.i64.wrap ((IntKind.i64.wrap (8 * ((ix t82 s115.1).At))) + 8)) ≤ (List.length s115.2 : Int) then (if (0 : Int) ≤ (IntKind.i64.wrap (8 * ((ix t82 s115.1).At))) ∧ (IntKind.i64.wrap (8 * ((ix t82 s115.1).At))) ≤ (IntKind.i64.wrap ((IntKind.i64.wrap (8 * ((ix t82 s115.1).At))) + 8)) ∧ (IntKind.i64.wrap ((IntKind.i64.wrap (8 * ((ix t82 s115.1).At))) + 8)) ≤ (List.length t104 : Int) then (if Int.toNat (IntKind.i64.wrap (8 * ((ix t82 s115.1).At))) ≤ Int.toNat (IntKind.i64.wrap ((IntKind.i64.wrap (8 * ((ix t82 s115.1).At))) + 8)) ∧ Int.toNat (IntKind.i64.wrap ((IntKind.i64.wrap (8 * ((ix t82 s115.1).At))) + 8)) ≤ List.length s115.2 then some (Sum.inr ((IntKind.i64.wrap (s115.1 + 1)), (splL s115.2 (Int.toNat (IntKind.i64.wrap (8 * ((ix t82 s115.1).At)))) (List.take (Int.toNat (IntKind.i64.wrap ((IntKind.i64.wrap (8 * ((ix t82 s115.1).At))) + 8)) - Int.toNat (IntKind.i64.wrap (8 * ((ix t82 s115.1).At)))) (cut t104 (IntKind.i64.wrap (8 * ((ix t82 s115.1).At))) (IntKind.i64.wrap ((IntKind.i64.wrap (8 * ((ix t82 s115.1).At))) + 8))))))) else none) else none) else none)))) else none) else some (Sum.inl (Sum.inr (s115.2))))
def rickyardlaw05_PmemCrash.f (fu : Nat) (a0 : List S_rickyardlaw05_Act) (a1 : List Int) : Option Bool := ((((rickyardlaw05_awake.f fu : Option Bool).bind fun t3 => (if (!t3) = true then some (true) else ((rickyardlaw05_Small.f fu a0 40 : Option Bool).bind fun t8 => (if (!t8) = true then some (true) else some ((decide ((List.length a1 : Int) > 60))))))) : Option Bool).bind fun x1 => (if x1 = true then ((rickyardlaw05_awake.f fu : Option Bool).bind fun t17 => some (t17)) else ((pmem_New.f fu 3 : Option ((Option S_pmem_Device) × Int)).bind fun t21 => (Option.elim t21.1 (some (false)) (fun m28 => ((loopM (rickyardlaw05_PmemCrash.s0 fu a0) fu (0, m28.cells, m28.plan.list, m28.plan.at_, m28.off, m28.armed, m28.left, m28.steps)).bind fun e40 => ((pmem_Device_Image.f fu (⟨e40.1, (⟨e40.2.1, e40.2.2.1⟩ : S_pmem_plan), e40.2.2.2.1, e40.2.2.2.2.1, e40.2.2.2.2.2.1, e40.2.2.2.2.2.2⟩ : S_pmem_Device) : Option (List Int)).bind fun t75 => ((pmem_Device_Fates.f fu (⟨e40.1, (⟨e40.2.1, e40.2.2.1⟩ : S_pmem_plan), e40.2.2.2.1, e40.2.2.2.2.1, e40.2.2.2.2.2.1, e40.2.2.2.2.2.2⟩ : S_pmem_Device) : Option (List S_api_Fate)).bind fun t82 => ((pmem_Device_Crash.f fu (⟨e40.1, (⟨e40.2.1, e40.2.2.1⟩ : S_pmem_plan), e40.2.2.2.1, e40.2.2.2.2.1, e40.2.2.2.2.2.1, e40.2.2.2.2.2.2⟩ : S_pmem_Device) a1 : Option S_pmem_Device).bind fun t89 => ((pmem_Device_Image.f fu t89 : Option (List Int)).bind fun t104 => (if (if (!decide ((List.length t75 : Int) = 192)) = true then true else (!decide ((List.length t104 : Int) = 192))) = true then some (false) else ((loopM (rickyardlaw05_PmemCrash.s1 fu a1 t82 t104) fu (0, t75)).bind fun e116 => match e116 with | Sum.inl p => some p | Sum.inr x119 => ((pmem_Device_Crash.f fu t89 [2, 2, 2] : Option S_pmem_Device).bind fun t186 => (((if (decide ((List.map toB x119) = (List.map toB t104))) = true then ((pmem_Device_Fates.f fu t186 : Option (List S_api_Fate)).bind fun t204 => (if (decide ((List.length t204 : Int) = 0)) = true then ((pmem_Device_Image.f fu t186 : Option (List Int)).bind fun t211 => (if (decide ((List.map toB t211) = (List.map toB t104))) = true then ((pmem_Device_View.f fu t186 : Option (List Int)).bind fun t218 => (if (decide ((List.map toB t218) = (List.map toB t104))) = true then ((pmem_Device_Up.f fu t186 : Option Bool).bind fun t225 => some (t225)) else some (false))) else some (false))) else some (false))) else some (false)) : Option Bool).bind fun x201 => some (x201)))))))))))))))
set_option maxRecDepth 100000 in
set_option maxHeartbeats 400000 in
theorem rickyardlaw05_PmemCrash.ok (fu : Nat) (w : World) (a0 : List S_rickyardlaw05_Act) (V0_0 : Value) (R0_0 : RdN 4 D_rickyardlaw05_Act w V0_0 a0) (a1 : List Int) (V1_0 : Value) (R1_0 : Rd (kI .i64) w V1_0 a1) (r : Bool) (h : rickyardlaw05_PmemCrash.f fu a0 a1 = some r) :
    Calls Try.prog 6 (([V0_0, V1_0] : List Value).toArray) w (fun e w' => ∃ v, e = .returned v ∧ v = .bool r ∧ Gr w w') := by
  unfold rickyardlaw05_PmemCrash.f at h
  have fB : Gr w w := Fr.refl _ _
  refine calls_cw Try.func6 rfl Try.ntmps6 rfl ?_
  refine cw_seq ?_
  refine cw_region ?_
  refine ol_val (v := .bool false) (by exact xr_assign rfl rfl) rfl rfl rfl ?_
  refine ol_nil ?_
  refine cw_seq ?_
  refine cw_seq ?_
  obtain ⟨x1, j2, h⟩ := bs h
  refine cw_mid (fun ρ' w' => ρ' 0 = V0_0 ∧ ρ' 1 = V1_0 ∧ ρ' 25 = .bool x1 ∧ Gr w w') ?_ ?_
  · skip
    refine cw_region ?_
    obtain ⟨t3, k4, j2⟩ := bs j2
    refine ol_op (by exact opv_call rfl cal24 an (rickyardlaw05_awake.ok fu _ _ k4)) rfl rfl rfl ?_
    rintro _ w6 ⟨rfl, q5⟩
    have fB := fB.gr q5
    refine ol_val (v := .bool (!t3)) (by exact xr_not rfl rfl) rfl rfl rfl ?_
    refine ol_val (v := .bool (!t3)) (by exact xr_move rfl rfl) rfl rfl rfl ?_
    rcases is j2 with ⟨c7, j2⟩ | ⟨c7, j2⟩
    · skip
      refine ol_gskip rfl rfl rfl rfl rfl c7 ?_
      refine ol_gskip rfl rfl rfl rfl rfl c7 ?_
      refine ol_gskip rfl rfl rfl rfl rfl c7 ?_
      refine ol_val (v := .bool true) (by exact xr_pickT rfl rfl c7 rfl) rfl rfl rfl ?_
      refine ol_val (v := .bool true) (by exact xr_move rfl rfl) rfl rfl rfl ?_
      refine ol_gskip rfl rfl rfl rfl rfl rfl ?_
      refine ol_gskip rfl rfl rfl rfl rfl rfl ?_
      refine ol_gskip rfl rfl rfl rfl rfl rfl ?_
      refine ol_val (v := .bool true) (by exact xr_pickT rfl rfl rfl rfl) rfl rfl rfl ?_
      refine ol_nil ?_
      obtain rfl := Option.some.inj j2
      refine thn_i ?_
      exact ⟨rfl, rfl, rfl, q5⟩
    · skip
      refine ol_gval (v := V0_0) (by exact xr_move rfl rfl) rfl rfl rfl rfl rfl c7 ?_
      obtain ⟨t8, k9, j2⟩ := bs j2
      refine ol_gop (by exact opv_call rfl cal25 (ac rfl (ac rfl an)) (rickyardlaw05_Small.ok fu _ a0 V0_0 (RdN.gr R0_0 D_rickyardlaw05_Act.gr fB) 40 _ k9)) rfl rfl rfl rfl rfl c7 ?_
      rintro _ w11 ⟨rfl, q10⟩
      have fB := fB.gr q10
      refine ol_gval (v := .bool (!t8)) (by exact xr_not rfl rfl) rfl rfl rfl rfl rfl c7 ?_
      refine ol_val (v := .bool (!t8)) (by exact xr_pickF rfl rfl c7 rfl) rfl rfl rfl ?_
      refine ol_val (v := .bool (!t8)) (by exact xr_move rfl rfl) rfl rfl rfl ?_
      rcases is j2 with ⟨c12, j2⟩ | ⟨c12, j2⟩
      · skip
        refine ol_gskip rfl rfl rfl rfl rfl c12 ?_
        refine ol_gskip rfl rfl rfl rfl rfl c12 ?_
        refine ol_gskip rfl rfl rfl rfl rfl c12 ?_
        refine ol_val (v := .bool true) (by exact xr_pickT rfl rfl c12 rfl) rfl rfl rfl ?_
        refine ol_nil ?_
        obtain rfl := Option.some.inj j2
        refine thn_i ?_
        exact ⟨rfl, rfl, rfl, (q5.gr q10)⟩
      · skip
        refine ol_gval (v := V1_0) (by exact xr_move rfl rfl) rfl rfl rfl rfl rfl c12 ?_
        refine ol_gval (v := .int .i64 (List.length a1 : Int)) (by exact xr_lenR rfl Try.underlying25 rfl (R1_0.gr fB)) rfl rfl rfl rfl rfl c12 ?_
        refine ol_gval (v := .bool (decide ((List.length a1 : Int) > 60))) (by exact xr_gtr rfl rfl rfl) rfl rfl rfl rfl rfl c12 ?_
        refine ol_val (v := .bool (decide ((List.length a1 : Int) > 60))) (by exact xr_pickF rfl rfl c12 rfl) rfl rfl rfl ?_
        refine ol_nil ?_
        obtain rfl := Option.some.inj j2
        refine thn_i ?_
        exact ⟨rfl, rfl, rfl, (q5.gr q10)⟩
  · skip
    rintro ρ13 w14 ⟨e0, e1, e25, q15⟩
    have fB := fB.gr q15
    rcases is h with ⟨c16, h⟩ | ⟨c16, h⟩
    · refine cw_condT e25 c16 ?_
      refine cw_seq ?_
      refine cw_region ?_
      obtain ⟨t17, k18, h⟩ := bs h
      refine ol_op (by exact opv_call rfl cal24 an (rickyardlaw05_awake.ok fu _ _ k18)) rfl rfl rfl ?_
      rintro _ w20 ⟨rfl, q19⟩
      have fB := fB.gr q19
      refine ol_val (v := .bool t17) (by exact xr_assign rfl rfl) rfl rfl rfl ?_
      refine ol_nil ?_
      refine cw_ret ?_
      repeat (first | with_reducible refine thn_r ?_ | with_reducible refine blk_r ?_)
      obtain rfl := Option.some.inj h
      refine fin_ret1 Try.results6 rfl ?_
      exact ⟨_, rfl, rfl, fB⟩
    · refine cw_condF e25 c16 ?_
      refine cw_skip ?_
      refine cw_seq ?_
      refine cw_region ?_
      obtain ⟨t21, k22, h⟩ := bs h
      refine ol_op (by exact opv_call rfl cal26 (ac rfl an) (pmem_New.ok fu _ 3 _ k22)) rfl rfl rfl ?_
      rintro _ w26 ⟨u23, p24, rfl, q25⟩
      rcases en h with ⟨e27, h⟩ | ⟨m28, e27, h⟩
      · obtain rfl := p24.1 e27
        have fB := fB.gr q25
        refine ol_val (v := .tuple #[.pointer none, .int .i64 t21.2]) (by exact xr_move rfl rfl) rfl rfl rfl ?_
        refine ol_val (v := .pointer none) (by exact xr_extract rfl rfl rfl) rfl rfl rfl ?_
        refine ol_val (v := .int .i64 t21.2) (by exact xr_extract rfl rfl rfl) rfl rfl rfl ?_
        refine ol_val (v := .pointer none) (by exact xr_assign rfl rfl) rfl rfl rfl ?_
        refine ol_val (v := .int .i64 t21.2) (by exact xr_assign rfl rfl) rfl rfl rfl ?_
        refine ol_nil ?_
        refine cw_seq ?_
        refine cw_seq ?_
        refine cw_region ?_
        refine ol_val (v := .pointer none) (by exact xr_move rfl rfl) rfl rfl rfl ?_
        refine ol_val (v := .bool true) (by exact xr_eqP (b := true) rfl Try.underlying30 rfl rfl (by simp) (by simp)) rfl rfl rfl ?_
        refine ol_nil ?_
        refine cw_condT rfl rfl ?_
        refine cw_seq ?_
        refine cw_region ?_
        refine ol_val (v := .bool false) (by exact xr_assign rfl rfl) rfl rfl rfl ?_
        refine ol_nil ?_
        refine cw_ret ?_
        repeat (first | with_reducible refine thn_r ?_ | with_reducible refine blk_r ?_)
        obtain rfl := Option.some.inj h
        refine fin_ret1 Try.results6 rfl ?_
        exact ⟨_, rfl, rfl, fB⟩
      · skip
        obtain ⟨G29, u33, u36, o34, o37, rfl, z30, b31⟩ := p24.2 _ e27
        have o34 := Own.base o34 fB.size
        have o37 := Own.base o37 fB.size
        have z30 := Nat.le_trans fB.size z30
        have fB := fB.gr q25
        refine ol_val (v := .tuple #[.pointer (some ⟨G29, 0, none⟩), .int .i64 t21.2]) (by exact xr_move rfl rfl) rfl rfl rfl ?_
        refine ol_val (v := .pointer (some ⟨G29, 0, none⟩)) (by exact xr_extract rfl rfl rfl) rfl rfl rfl ?_
        refine ol_val (v := .int .i64 t21.2) (by exact xr_extract rfl rfl rfl) rfl rfl rfl ?_
        refine ol_val (v := .pointer (some ⟨G29, 0, none⟩)) (by exact xr_assign rfl rfl) rfl rfl rfl ?_
        refine ol_val (v := .int .i64 t21.2) (by exact xr_assign rfl rfl) rfl rfl rfl ?_
        refine ol_nil ?_
        refine cw_seq ?_
        refine cw_seq ?_
        refine cw_region ?_
        refine ol_val (v := .pointer (some ⟨G29, 0, none⟩)) (by exact xr_move rfl rfl) rfl rfl rfl ?_
        refine ol_val (v := .bool false) (by exact xr_eqP (b := false) rfl Try.underlying30 rfl rfl (by simp) (by simp)) rfl rfl rfl ?_
        refine ol_nil ?_
        refine cw_condF rfl rfl ?_
        refine cw_skip ?_
        refine cw_seq ?_
        refine cw_seq ?_
        refine cw_region ?_
        refine ol_val (v := .int .i64 0) (by exact xr_assign rfl rfl) rfl rfl rfl ?_
        refine ol_nil ?_
        obtain ⟨e40, l41, h42⟩ := bs h
        refine cw_mid (fun ρ' w' => ∃ v43 : Value, ∃ v46 : Value, ∃ o44 : Own k_pmem_cell 142 w' w.heap.size v43 e40.1, ∃ o47 : Own (kI .i64) 3 w' w.heap.size v46 e40.2.1, ρ' 1 = V1_0 ∧ ρ' 5 = .pointer (some ⟨G29, 0, none⟩) ∧ Blk w' G29 139 [Seg.cell v43 o44.one, Seg.cell v46 o47.one, Seg.cell (.int .i64 e40.2.2.1), Seg.cell (.bool e40.2.2.2.1), Seg.cell (.bool e40.2.2.2.2.1), Seg.cell (.int .i64 e40.2.2.2.2.2.1), Seg.cell (.int .i64 e40.2.2.2.2.2.2)] ∧ Gr w w') ?_ ?_
        · refine cw_block ?_
          refine cw_round (fun (s39 : Int × (List S_pmem_cell) × (List Int) × Int × Bool × Bool × Int × Int) ρ' w' => ∃ v49 : Value, ∃ v52 : Value, ∃ o50 : Own k_pmem_cell 142 w' w.heap.size v49 s39.2.1, ∃ o53 : Own (kI .i64) 3 w' w.heap.size v52 s39.2.2.1, ρ' 0 = V0_0 ∧ ρ' 1 = V1_0 ∧ ρ' 5 = .pointer (some ⟨G29, 0, none⟩) ∧ ρ' 7 = .int .i64 s39.1 ∧ Blk w' G29 139 [Seg.cell v49 o50.one, Seg.cell v52 o53.one, Seg.cell (.int .i64 s39.2.2.2.1), Seg.cell (.bool s39.2.2.2.2.1), Seg.cell (.bool s39.2.2.2.2.2.1), Seg.cell (.int .i64 s39.2.2.2.2.2.2.1), Seg.cell (.int .i64 s39.2.2.2.2.2.2.2)] ∧ Gr w w') l41 ?_ ?_
          · skip
            exact ⟨u33, u36, o34, o37, e0, e1, rfl, rfl, b31, fB⟩
          · rintro s39 x57 ρ55 w56 ⟨v49, v52, o50, o53, e0, e1, e5, e7, b31, fB⟩ h
            unfold rickyardlaw05_PmemCrash.s0 at h
            refine cw_seq ?_
            refine cw_seq ?_
            refine cw_region ?_
            refine ol_val (v := .int .i64 s39.1) (by exact xr_move rfl e7) rfl rfl rfl ?_
            refine ol_val (v := V0_0) (by exact xr_move rfl e0) rfl rfl rfl ?_
            refine ol_val (v := .int .i64 (List.length a0 : Int)) (by exact xr_lenN rfl Try.underlying24 rfl (RdN.gr R0_0 D_rickyardlaw05_Act.gr fB)) rfl rfl rfl ?_
            refine ol_val (v := .bool (decide (s39.1 < (List.length a0 : Int)))) (by exact xr_lss rfl rfl rfl) rfl rfl rfl ?_
            refine ol_nil ?_
            rcases is h with ⟨c58, h⟩ | ⟨c58, h⟩
            · refine cw_condT rfl c58 ?_
              refine cw_skip ?_
              refine cw_seq ?_
              refine cw_block ?_
              refine cw_region ?_
              refine ol_val (v := .pointer (some ⟨G29, 0, none⟩)) (by exact xr_move rfl e5) rfl rfl rfl ?_
              refine ol_val (v := V0_0) (by exact xr_move rfl e0) rfl rfl rfl ?_
              refine ol_val (v := .int .i64 s39.1) (by exact xr_move rfl e7) rfl rfl rfl ?_
              obtain ⟨g59, h⟩ := gs h
              refine ol_val (v := .pointer (some ⟨(sb V0_0), so V0_0 + Int.toNat s39.1 * 4, none⟩)) (by exact xr_indexN (v := V0_0) rfl Try.underlying24 sz39 rfl (RdN.gr R0_0 D_rickyardlaw05_Act.gr fB) rfl g59.1 g59.2) rfl rfl rfl ?_
              refine ol_val (v := aggV [Seg.cell (.int .i64 ((ix a0 s39.1).Kind)), Seg.cell (.int .i64 ((ix a0 s39.1).At)), Seg.cell (.int .u64 ((ix a0 s39.1).W)), Seg.cell (cellAt w (sb V0_0) (so V0_0 + Int.toNat s39.1 * 4 + 3)) (N_rickyardlaw05_Act R0_0 g59.1 g59.2).2.one]) (by exact xr_loadS (ss := [Seg.cell (.int .i64 ((ix a0 s39.1).Kind)), Seg.cell (.int .i64 ((ix a0 s39.1).At)), Seg.cell (.int .u64 ((ix a0 s39.1).W)), Seg.cell (cellAt w (sb V0_0) (so V0_0 + Int.toNat s39.1 * 4 + 3)) (N_rickyardlaw05_Act R0_0 g59.1 g59.2).2.one]) rfl ag39 sz39 rfl rfl (At.gr (N_rickyardlaw05_Act R0_0 g59.1 g59.2).1 fB)) rfl rfl rfl ?_
              obtain ⟨t60, k61, h⟩ := bs h
              have c71 : ∀ k, (k = G29 ∨ some k = Value.ownBlock v49 ∨ some k = Value.ownBlock v52) → w.heap.size ≤ k := (cv_or (cv_eq z30) (cv_or (cv_own o50.geO) (cv_own o53.geO)))
              refine ol_op (by exact opv_call rfl cal31 (ac rfl (ac rfl an)) (rickyardlaw05_Do.ok fu _ (⟨s39.2.1, (⟨s39.2.2.1, s39.2.2.2.1⟩ : S_pmem_plan), s39.2.2.2.2.1, s39.2.2.2.2.2.1, s39.2.2.2.2.2.2.1, s39.2.2.2.2.2.2.2⟩ : S_pmem_Device) G29 v49 (Own.base o50 (Nat.zero_le _)) v52 (Own.base o53 (Nat.zero_le _)) b31 (ix a0 s39.1) (cellAt w (sb V0_0) (so V0_0 + Int.toNat s39.1 * 4 + 3)) ((N_rickyardlaw05_Act R0_0 g59.1 g59.2).2.gr fB) (OffR.new (N_rickyardlaw05_Act R0_0 g59.1 g59.2).2 z30 rfl) (OffRV.call (N_rickyardlaw05_Act R0_0 g59.1 g59.2).2 o50 rfl) (OffRV.call (N_rickyardlaw05_Act R0_0 g59.1 g59.2).2 o53 rfl) _ k61)) rfl rfl rfl ?_
              rintro _ w72 ⟨u63, u67, o64, m65, o68, m69, rfl, b31, q62⟩
              have o64 := Own.rebase o64 (fun g hg => (m65 g hg).elim (fun x => Nat.le_trans fB.size x) (c71 g))
              have o68 := Own.rebase o68 (fun g hg => (m69 g hg).elim (fun x => Nat.le_trans fB.size x) (c71 g))
              have fB := fB.call q62 (fun k h => .inl (c71 k h))
              refine ol_nil ?_
              refine blk_i ?_
              refine cw_region ?_
              refine ol_val (v := .int .i64 s39.1) (by exact xr_move rfl e7) rfl rfl rfl ?_
              refine ol_val (v := .int .i64 (IntKind.i64.wrap (s39.1 + 1))) (by exact xr_add rfl rfl rfl) rfl rfl rfl ?_
              refine ol_val (v := .int .i64 (IntKind.i64.wrap (s39.1 + 1))) (by exact xr_assign rfl rfl) rfl rfl rfl ?_
              refine ol_nil ?_
              obtain rfl := Option.some.inj h
              refine lp_in ?_
              exact ⟨u63, u67, o64, o68, e0, e1, e5, rfl, b31, fB⟩
            · refine cw_condF rfl c58 ?_
              refine cw_exit ?_
              repeat (first | with_reducible refine thn_e ?_ | with_reducible refine blk_e rfl ?_)
              obtain rfl := Option.some.inj h
              refine lp_exit ?_
              rintro rfl
              refine thn_x ?_
              exact ⟨v49, v52, o50, o53, e1, e5, b31, fB⟩
        · rintro ρ73 w74 ⟨v43, v46, o44, o47, e1, e5, b31, fB⟩
          have h := h42
          refine cw_seq ?_
          refine cw_region ?_
          refine ol_val (v := .pointer (some ⟨G29, 0, none⟩)) (by exact xr_move rfl e5) rfl rfl rfl ?_
          obtain ⟨t75, k76, h⟩ := bs h
          refine ol_op (by exact opv_call rfl cal33 (ac rfl an) (pmem_Device_Image.ok fu _ (⟨e40.1, (⟨e40.2.1, e40.2.2.1⟩ : S_pmem_plan), e40.2.2.2.1, e40.2.2.2.2.1, e40.2.2.2.2.2.1, e40.2.2.2.2.2.2⟩ : S_pmem_Device) G29 v43 (o44.rd) v46 (o47.rd) b31 _ k76)) rfl rfl rfl ?_
          rintro u77 w81 ⟨_, o78, rfl, q80⟩
          have o78 := Own.base o78 fB.size
          have b31 := b31.gr q80
          have o44 := o44.gr q80
          have o47 := o47.gr q80
          have fB := fB.gr q80
          refine ol_val (v := .pointer (some ⟨G29, 0, none⟩)) (by exact xr_move rfl e5) rfl rfl rfl ?_
          obtain ⟨t82, k83, h⟩ := bs h
          refine ol_op (by exact opv_call rfl cal40 (ac rfl an) (pmem_Device_Fates.ok fu _ (⟨e40.1, (⟨e40.2.1, e40.2.2.1⟩ : S_pmem_plan), e40.2.2.2.1, e40.2.2.2.2.1, e40.2.2.2.2.2.1, e40.2.2.2.2.2.2⟩ : S_pmem_Device) G29 v43 (o44.rd) v46 (o47.rd) b31 _ k83)) rfl rfl rfl ?_
          rintro u84 w88 ⟨_, o85, rfl, q87⟩
          have o85 := Own.base o85 fB.size
          have b31 := b31.gr q87
          have o44 := o44.gr q87
          have o47 := o47.gr q87
          have o78 := o78.gr q87
          have fB := fB.gr q87
          refine ol_val (v := u77) (by exact xr_assign rfl rfl) rfl rfl rfl ?_
          refine ol_val (v := u84) (by exact xr_assign rfl rfl) rfl rfl rfl ?_
          refine ol_nil ?_
          refine cw_seq ?_
          refine cw_region ?_
          refine ol_val (v := .pointer (some ⟨G29, 0, none⟩)) (by exact xr_move rfl e5) rfl rfl rfl ?_
          refine ol_val (v := V1_0) (by exact xr_move rfl e1) rfl rfl rfl ?_
          obtain ⟨t89, k90, h⟩ := bs h
          have f100 := (vo_or (vo_eq (off_ty b31 o78 (by decide))) (vo_or (vo_own (OffV.ty o78 o44 (by decide))) (vo_own (OffV.ty o78 o47 (by decide)))))
          have f101 := (vo_or (vo_eq (off_ty b31 o85 (by decide))) (vo_or (vo_own (OffV.ty o85 o44 (by decide))) (vo_own (OffV.ty o85 o47 (by decide)))))
          have c102 : ∀ k, (k = G29 ∨ some k = Value.ownBlock v43 ∨ some k = Value.ownBlock v46) → w.heap.size ≤ k := (cv_or (cv_eq z30) (cv_or (cv_own o44.geO) (cv_own o47.geO)))
          refine ol_op (by exact opv_call rfl cal32 (ac rfl (ac rfl an)) (pmem_Device_Crash.ok fu _ (⟨e40.1, (⟨e40.2.1, e40.2.2.1⟩ : S_pmem_plan), e40.2.2.2.1, e40.2.2.2.2.1, e40.2.2.2.2.2.1, e40.2.2.2.2.2.2⟩ : S_pmem_Device) G29 v43 (Own.base o44 (Nat.zero_le _)) v46 (Own.base o47 (Nat.zero_le _)) b31 a1 V1_0 (R1_0.gr fB) (OffR.new R1_0 z30 rfl) (OffRV.call R1_0 o44 rfl) (OffRV.call R1_0 o47 rfl) _ k90)) rfl rfl rfl ?_
          rintro _ w103 ⟨u92, u96, o93, m94, o97, m98, rfl, b31, q91⟩
          have o93 := Own.rebase o93 (fun g hg => (m94 g hg).elim (fun x => Nat.le_trans fB.size x) (c102 g))
          have o97 := Own.rebase o97 (fun g hg => (m98 g hg).elim (fun x => Nat.le_trans fB.size x) (c102 g))
          have o78 := o78.fr q91 f100
          have o85 := o85.fr q91 f101
          have fB := fB.call q91 (fun k h => .inl (c102 k h))
          refine ol_nil ?_
          refine cw_seq ?_
          refine cw_region ?_
          refine ol_val (v := .pointer (some ⟨G29, 0, none⟩)) (by exact xr_move rfl e5) rfl rfl rfl ?_
          obtain ⟨t104, k105, h⟩ := bs h
          refine ol_op (by exact opv_call rfl cal33 (ac rfl an) (pmem_Device_Image.ok fu _ t89 G29 u92 (o93.rd) u96 (o97.rd) b31 _ k105)) rfl rfl rfl ?_
          rintro u106 w110 ⟨_, o107, rfl, q109⟩
          have a111 := OffV.call o78 o107
          have o107 := Own.base o107 fB.size
          have b31 := b31.gr q109
          have o78 := o78.gr q109
          have o85 := o85.gr q109
          have o93 := o93.gr q109
          have o97 := o97.gr q109
          have fB := fB.gr q109
          refine ol_val (v := u106) (by exact xr_assign rfl rfl) rfl rfl rfl ?_
          refine ol_nil ?_
          refine cw_seq ?_
          refine cw_seq ?_
          refine cw_mid (fun ρ' w' => ρ' 1 = V1_0 ∧ ρ' 5 = .pointer (some ⟨G29, 0, none⟩) ∧ ρ' 8 = u77 ∧ ρ' 9 = u84 ∧ ρ' 10 = u106 ∧ ρ' 61 = .bool (if (!decide ((List.length t75 : Int) = 192)) = true then true else (!decide ((List.length t104 : Int) = 192))) ∧ w110 = w') ?_ ?_
          · skip
            refine cw_region ?_
            refine ol_val (v := u77) (by exact xr_move rfl rfl) rfl rfl rfl ?_
            refine ol_val (v := .int .i64 (List.length t75 : Int)) (by exact xr_lenR rfl Try.underlying43 rfl o78.rd) rfl rfl rfl ?_
            refine ol_val (v := .bool (!decide ((List.length t75 : Int) = 192))) (by exact xr_neI rfl Try.underlying3 rfl rfl rfl) rfl rfl rfl ?_
            refine ol_val (v := .bool (!decide ((List.length t75 : Int) = 192))) (by exact xr_move rfl rfl) rfl rfl rfl ?_
            rcases bt (!decide ((List.length t75 : Int) = 192)) with c112 | c112
            · skip
              refine ol_gskip rfl rfl rfl rfl rfl c112 ?_
              refine ol_gskip rfl rfl rfl rfl rfl c112 ?_
              refine ol_gskip rfl rfl rfl rfl rfl c112 ?_
              refine ol_val (v := .bool true) (by exact xr_pickT rfl rfl c112 rfl) rfl rfl rfl ?_
              refine ol_nil ?_
              refine thn_i ?_
              exact ⟨e1, e5, rfl, rfl, rfl, (rfl).trans (congrArg (fun z => (.bool z : Value)) (show true = (if (!decide ((List.length t75 : Int) = 192)) = true then true else (!decide ((List.length t104 : Int) = 192))) from by rw [ite_t c112])), rfl⟩
            · skip
              refine ol_gval (v := u106) (by exact xr_move rfl rfl) rfl rfl rfl rfl rfl c112 ?_
              refine ol_gval (v := .int .i64 (List.length t104 : Int)) (by exact xr_lenR rfl Try.underlying43 rfl o107.rd) rfl rfl rfl rfl rfl c112 ?_
              refine ol_gval (v := .bool (!decide ((List.length t104 : Int) = 192))) (by exact xr_neI rfl Try.underlying3 rfl rfl rfl) rfl rfl rfl rfl rfl c112 ?_
              refine ol_val (v := .bool (!decide ((List.length t104 : Int) = 192))) (by exact xr_pickF rfl rfl c112 rfl) rfl rfl rfl ?_
              refine ol_nil ?_
              refine thn_i ?_
              exact ⟨e1, e5, rfl, rfl, rfl, (rfl).trans (congrArg (fun z => (.bool z : Value)) (show (!decide ((List.length t104 : Int) = 192)) = (if (!decide ((List.length t75 : Int) = 192)) = true then true else (!decide ((List.length t104 : Int) = 192))) from by rw [ite_f c112])), rfl⟩
          · skip
            rintro ρ113 _ ⟨e1, e5, e8, e9, e10, e61, rfl⟩
            rcases is h with ⟨c114, h⟩ | ⟨c114, h⟩
            · refine cw_condT e61 c114 ?_
              refine cw_seq ?_
              refine cw_region ?_
              refine ol_val (v := .bool false) (by exact xr_assign rfl rfl) rfl rfl rfl ?_
              refine ol_nil ?_
              refine cw_ret ?_
              repeat (first | with_reducible refine thn_r ?_ | with_reducible refine blk_r ?_)
              obtain rfl := Option.some.inj h
              refine fin_ret1 Try.results6 rfl ?_
              exact ⟨_, rfl, rfl, fB⟩
            · refine cw_condF e61 c114 ?_
              refine cw_skip ?_
              refine cw_seq ?_
              refine cw_seq ?_
              refine cw_region ?_
              refine ol_val (v := .int .i64 0) (by exact xr_assign rfl rfl) rfl rfl rfl ?_
              refine ol_nil ?_
              obtain ⟨e116, l117, h118⟩ := bs h
              refine cw_mid (fun ρ' w' => ∃ x119, e116 = Sum.inr x119 ∧ ∃ o78 : Own (kI .u8) 5 w' w.heap.size u77 x119, ∃ o93 : Own k_pmem_cell 142 w' w.heap.size u92 t89.cells, ∃ o97 : Own (kI .i64) 3 w' w.heap.size u96 t89.plan.list, ∃ o107 : Own (kI .u8) 5 w' w.heap.size u106 t104, ρ' 5 = .pointer (some ⟨G29, 0, none⟩) ∧ ρ' 8 = u77 ∧ ρ' 10 = u106 ∧ Blk w' G29 139 [Seg.cell u92 o93.one, Seg.cell u96 o97.one, Seg.cell (.int .i64 t89.plan.at_), Seg.cell (.bool t89.off), Seg.cell (.bool t89.armed), Seg.cell (.int .i64 t89.left), Seg.cell (.int .i64 t89.steps)] ∧ Gr w w') ?_ ?_
              · refine cw_block ?_
                refine cw_round (fun (s115 : Int × (List Int)) ρ' w' => ∃ o78 : Own (kI .u8) 5 w' w.heap.size u77 s115.2, ∃ o85 : Own k_api_Fate 55 w' w.heap.size u84 t82, ∃ o93 : Own k_pmem_cell 142 w' w.heap.size u92 t89.cells, ∃ o97 : Own (kI .i64) 3 w' w.heap.size u96 t89.plan.list, ∃ o107 : Own (kI .u8) 5 w' w.heap.size u106 t104, ρ' 1 = V1_0 ∧ ρ' 5 = .pointer (some ⟨G29, 0, none⟩) ∧ ρ' 8 = u77 ∧ ρ' 9 = u84 ∧ ρ' 10 = u106 ∧ ρ' 11 = .int .i64 s115.1 ∧ Blk w' G29 139 [Seg.cell u92 o93.one, Seg.cell u96 o97.one, Seg.cell (.int .i64 t89.plan.at_), Seg.cell (.bool t89.off), Seg.cell (.bool t89.armed), Seg.cell (.int .i64 t89.left), Seg.cell (.int .i64 t89.steps)] ∧ Gr w w') l117 ?_ ?_
                · skip
                  exact ⟨o78, o85, o93, o97, o107, e1, e5, e8, e9, e10, rfl, b31, fB⟩
                · rintro s115 x122 ρ120 w121 ⟨o78, o85, o93, o97, o107, e1, e5, e8, e9, e10, e11, b31, fB⟩ h
                  unfold rickyardlaw05_PmemCrash.s1 at h
                  refine cw_seq ?_
                  refine cw_seq ?_
                  refine cw_region ?_
                  refine ol_val (v := .int .i64 s115.1) (by exact xr_move rfl e11) rfl rfl rfl ?_
                  refine ol_val (v := u84) (by exact xr_move rfl e9) rfl rfl rfl ?_
                  refine ol_val (v := .int .i64 (List.length t82 : Int)) (by exact xr_lenR rfl Try.underlying52 rfl o85.rd) rfl rfl rfl ?_
                  refine ol_val (v := .bool (decide (s115.1 < (List.length t82 : Int)))) (by exact xr_lss rfl rfl rfl) rfl rfl rfl ?_
                  refine ol_nil ?_
                  rcases is h with ⟨c123, h⟩ | ⟨c123, h⟩
                  · refine cw_condT rfl c123 ?_
                    refine cw_skip ?_
                    refine cw_seq ?_
                    refine cw_block ?_
                    refine cw_seq ?_
                    refine cw_region ?_
                    refine ol_val (v := u84) (by exact xr_move rfl e9) rfl rfl rfl ?_
                    refine ol_val (v := .int .i64 s115.1) (by exact xr_move rfl e11) rfl rfl rfl ?_
                    obtain ⟨g124, h⟩ := gs h
                    refine ol_val (v := .pointer (some ⟨(sb u84), so u84 + Int.toNat s115.1 * 5, none⟩)) (by exact xr_indexR (K := k_api_Fate) (v := u84) rfl Try.underlying52 sz55 rfl o85.rd rfl g124.1 g124.2) rfl rfl rfl ?_
                    refine ol_val (v := .pointer (some ⟨(sb u84), so u84 + Int.toNat s115.1 * 5 + 0, none⟩)) (by exact xr_fieldAddr (p := so u84 + Int.toNat s115.1 * 5) (q := 0) rfl fl55_0 rfl) rfl rfl rfl ?_
                    refine ol_val (v := .int .i64 ((ix t82 s115.1).At)) (by exact xr_load1 (v := .int .i64 ((ix t82 s115.1).At)) rfl ag3 rfl (At.segs (ss := segs_api_Fate (ix t82 s115.1)) (o85.rd.elem g124.1 g124.2) 0 1 rfl)) rfl rfl rfl ?_
                    refine ol_val (v := .int .i64 ((ix t82 s115.1).At)) (by exact xr_assign rfl rfl) rfl rfl rfl ?_
                    refine ol_val (v := .int .i64 0) (by exact xr_assign rfl rfl) rfl rfl rfl ?_
                    refine ol_nil ?_
                    refine cw_seq ?_
                    refine cw_seq ?_
                    refine cw_region ?_
                    refine ol_val (v := .int .i64 s115.1) (by exact xr_move rfl e11) rfl rfl rfl ?_
                    refine ol_val (v := V1_0) (by exact xr_move rfl e1) rfl rfl rfl ?_
                    refine ol_val (v := .int .i64 (List.length a1 : Int)) (by exact xr_lenR rfl Try.underlying25 rfl (R1_0.gr fB)) rfl rfl rfl ?_
                    refine ol_val (v := .bool (decide (s115.1 < (List.length a1 : Int)))) (by exact xr_lss rfl rfl rfl) rfl rfl rfl ?_
                    refine ol_nil ?_
                    obtain ⟨x125, j126, h127⟩ := bs h
                    refine cw_mid (fun ρ' w' => ∃ o78 : Own (kI .u8) 5 w' w.heap.size u77 s115.2, ∃ o85 : Own k_api_Fate 55 w' w.heap.size u84 t82, ∃ o93 : Own k_pmem_cell 142 w' w.heap.size u92 t89.cells, ∃ o97 : Own (kI .i64) 3 w' w.heap.size u96 t89.plan.list, ∃ o107 : Own (kI .u8) 5 w' w.heap.size u106 t104, ρ' 1 = V1_0 ∧ ρ' 5 = .pointer (some ⟨G29, 0, none⟩) ∧ ρ' 8 = u77 ∧ ρ' 9 = u84 ∧ ρ' 10 = u106 ∧ ρ' 11 = .int .i64 s115.1 ∧ ρ' 12 = .int .i64 ((ix t82 s115.1).At) ∧ ρ' 13 = .int .i64 x125 ∧ Blk w' G29 139 [Seg.cell u92 o93.one, Seg.cell u96 o97.one, Seg.cell (.int .i64 t89.plan.at_), Seg.cell (.bool t89.off), Seg.cell (.bool t89.armed), Seg.cell (.int .i64 t89.left), Seg.cell (.int .i64 t89.steps)] ∧ Gr w w') ?_ ?_
                    · have h := j126
                      rcases is h with ⟨c128, h⟩ | ⟨c128, h⟩
                      · refine cw_condT rfl c128 ?_
                        refine cw_region ?_
                        refine ol_val (v := V1_0) (by exact xr_move rfl e1) rfl rfl rfl ?_
                        refine ol_val (v := .int .i64 s115.1) (by exact xr_move rfl e11) rfl rfl rfl ?_
                        obtain ⟨g129, h⟩ := gs h
                        refine ol_val (v := .pointer (some ⟨(sb V1_0), so V1_0 + Int.toNat s115.1 * 1, none⟩)) (by exact xr_indexR (K := (kI .i64)) (v := V1_0) rfl Try.underlying25 sz3 rfl (R1_0.gr fB) rfl g129.1 g129.2) rfl rfl rfl ?_
                        refine ol_val (v := .int .i64 (ix a1 s115.1)) (by exact xr_load1 (v := .int .i64 (ix a1 s115.1)) rfl ag3 rfl ((R1_0.gr fB).elem g129.1 g129.2)) rfl rfl rfl ?_
                        refine ol_val (v := .int .i64 (ix a1 s115.1)) (by exact xr_assign rfl rfl) rfl rfl rfl ?_
                        refine ol_nil ?_
                        obtain rfl := Option.some.inj h
                        refine thn_i ?_
                        exact ⟨o78, o85, o93, o97, o107, e1, e5, e8, e9, e10, e11, rfl, rfl, b31, fB⟩
                      · refine cw_condF rfl c128 ?_
                        refine cw_skip ?_
                        obtain rfl := Option.some.inj h
                        refine thn_i ?_
                        exact ⟨o78, o85, o93, o97, o107, e1, e5, e8, e9, e10, e11, rfl, rfl, b31, fB⟩
                    · rintro ρ130 w131 ⟨o78, o85, o93, o97, o107, e1, e5, e8, e9, e10, e11, e12, e13, b31, fB⟩
                      have h := h127
                      refine cw_seq ?_
                      refine cw_seq ?_
                      obtain ⟨x132, j133, h⟩ := bs h
                      refine cw_mid (fun ρ' w' => ρ' 1 = V1_0 ∧ ρ' 5 = .pointer (some ⟨G29, 0, none⟩) ∧ ρ' 8 = u77 ∧ ρ' 9 = u84 ∧ ρ' 10 = u106 ∧ ρ' 11 = .int .i64 s115.1 ∧ ρ' 12 = .int .i64 ((ix t82 s115.1).At) ∧ ρ' 104 = .bool x132 ∧ Gr w131 w') ?_ ?_
                      · skip
                        rcases is j133 with ⟨c134, j133⟩ | ⟨c134, j133⟩
                        · skip
                          refine cw_drawL 23 [fun vz wz => vz = (.int .i64 ((ix t82 s115.1).At) : Value), fun vz wz => vz = (.bool (decide (((ix t82 s115.1).At) < 0)) : Value), fun vz wz => vz = (.bool (decide (((ix t82 s115.1).At) < 0)) : Value), fun vz _ => vz = undef, fun vz _ => vz = undef, fun vz wz => vz = (.bool true : Value), fun vz wz => vz = (.bool true : Value), fun vz _ => vz = undef, fun vz _ => vz = undef, fun vz _ => vz = undef, fun vz _ => vz = undef, fun vz _ => vz = undef, fun vz _ => vz = undef, fun vz _ => vz = undef, fun vz _ => vz = undef, fun vz _ => vz = undef, fun vz _ => vz = undef, fun vz _ => vz = undef, fun vz _ => vz = undef, fun vz _ => vz = undef, fun vz _ => vz = undef, fun vz _ => vz = undef, fun vz _ => vz = undef] mo rfl ⟨fun _ _ _ h _ => h, fun _ _ _ h _ => h, fun _ _ _ h _ => h, fun _ _ _ h _ => h, fun _ _ _ h _ => h, fun _ _ _ h _ => h, fun _ _ _ h _ => h, fun _ _ _ h _ => h, fun _ _ _ h _ => h, fun _ _ _ h _ => h, fun _ _ _ h _ => h, fun _ _ _ h _ => h, fun _ _ _ h _ => h, fun _ _ _ h _ => h, fun _ _ _ h _ => h, fun _ _ _ h _ => h, fun _ _ _ h _ => h, fun _ _ _ h _ => h, fun _ _ _ h _ => h, fun _ _ _ h _ => h, fun _ _ _ h _ => h, fun _ _ _ h _ => h, fun _ _ _ h _ => h, trivial⟩ ?_ ?_
                          · refine ⟨?_, ?_, ?_, ?_, ?_, ?_, ?_, ?_, ?_, ?_, ?_, ?_, ?_, ?_, ?_, ?_, ?_, ?_, ?_, ?_, ?_, ?_, ?_, trivial⟩
                            · intro ρz wz hz hk hd
                              exact sk_val (v := .int .i64 ((ix t82 s115.1).At)) (by exact xr_move rfl ((hk 12 rfl).trans e12)) rfl rfl
                            · intro ρz wz hz hk hd
                              have d81 := hd 0 rfl 81 rfl
                              exact sk_val (v := .bool (decide (((ix t82 s115.1).At) < 0))) (by exact xr_lss rfl d81 rfl) rfl rfl
                            · intro ρz wz hz hk hd
                              have d82 := hd 1 rfl 82 rfl
                              exact sk_val (v := .bool (decide (((ix t82 s115.1).At) < 0))) (by exact xr_move rfl d82) rfl rfl
                            · intro ρz wz hz hk hd
                              have d83 := hd 2 rfl 83 rfl
                              exact sk_skip rfl rfl d83 c134 rfl
                            · intro ρz wz hz hk hd
                              have d83 := hd 2 rfl 83 rfl
                              exact sk_skip rfl rfl d83 c134 rfl
                            · intro ρz wz hz hk hd
                              have d83 := hd 2 rfl 83 rfl
                              exact sk_val (v := .bool true) (by exact xr_pickT rfl d83 c134 rfl) rfl rfl
                            · intro ρz wz hz hk hd
                              have d86 := hd 5 rfl 86 rfl
                              exact sk_val (v := .bool true) (by exact xr_move rfl d86) rfl rfl
                            · intro ρz wz hz hk hd
                              have d87 := hd 6 rfl 87 rfl
                              exact sk_skip rfl rfl d87 rfl rfl
                            · intro ρz wz hz hk hd
                              have d87 := hd 6 rfl 87 rfl
                              exact sk_skip rfl rfl d87 rfl rfl
                            · intro ρz wz hz hk hd
                              have d87 := hd 6 rfl 87 rfl
                              exact sk_skip rfl rfl d87 rfl rfl
                            · intro ρz wz hz hk hd
                              have d87 := hd 6 rfl 87 rfl
                              exact sk_skip rfl rfl d87 rfl rfl
                            · intro ρz wz hz hk hd
                              have d87 := hd 6 rfl 87 rfl
                              exact sk_skip rfl rfl d87 rfl rfl
                            · intro ρz wz hz hk hd
                              have d87 := hd 6 rfl 87 rfl
                              exact sk_skip rfl rfl d87 rfl rfl
                            · intro ρz wz hz hk hd
                              have d87 := hd 6 rfl 87 rfl
                              exact sk_skip rfl rfl d87 rfl rfl
                            · intro ρz wz hz hk hd
                              have d87 := hd 6 rfl 87 rfl
                              exact sk_skip rfl rfl d87 rfl rfl
                            · intro ρz wz hz hk hd
                              have d87 := hd 6 rfl 87 rfl
                              exact sk_skip rfl rfl d87 rfl rfl
                            · intro ρz wz hz hk hd
                              have d87 := hd 6 rfl 87 rfl
                              exact sk_skip rfl rfl d87 rfl rfl
                            · intro ρz wz hz hk hd
                              have d87 := hd 6 rfl 87 rfl
                              exact sk_skip rfl rfl d87 rfl rfl
                            · intro ρz wz hz hk hd
                              have d87 := hd 6 rfl 87 rfl
                              exact sk_skip rfl rfl d87 rfl rfl
                            · intro ρz wz hz hk hd
                              have d87 := hd 6 rfl 87 rfl
                              exact sk_skip rfl rfl d87 rfl rfl
                            · intro ρz wz hz hk hd
                              have d87 := hd 6 rfl 87 rfl
                              exact sk_skip rfl rfl d87 rfl rfl
                            · intro ρz wz hz hk hd
                              have d87 := hd 6 rfl 87 rfl
                              exact sk_skip rfl rfl d87 rfl rfl
                            · intro ρz wz hz hk hd
                              have d87 := hd 6 rfl 87 rfl
                              exact sk_skip rfl rfl d87 rfl rfl
                          · intro ρ135 w136 q137 hk hd
                            have e1 := (hk 1 rfl).trans e1
                            have e5 := (hk 5 rfl).trans e5
                            have e8 := (hk 8 rfl).trans e8
                            have e9 := (hk 9 rfl).trans e9
                            have e10 := (hk 10 rfl).trans e10
                            have e11 := (hk 11 rfl).trans e11
                            have e12 := (hk 12 rfl).trans e12
                            have e87 := hd 6 rfl 87 rfl
                            have b31 := b31.gr q137
                            have o78 := o78.gr q137
                            have o85 := o85.gr q137
                            have o93 := o93.gr q137
                            have o97 := o97.gr q137
                            have o107 := o107.gr q137
                            have fB := fB.gr q137
                            refine ol_val (v := .bool true) (by exact xr_pickT rfl e87 rfl rfl) rfl rfl rfl ?_
                            refine ol_nil ?_
                            obtain rfl := Option.some.inj j133
                            refine thn_i ?_
                            exact ⟨e1, e5, e8, e9, e10, e11, e12, rfl, q137⟩
                        · skip
                          rcases is j133 with ⟨c138, j133⟩ | ⟨c138, j133⟩
                          · skip
                            refine cw_drawL 23 [fun vz wz => vz = (.int .i64 ((ix t82 s115.1).At) : Value), fun vz wz => vz = (.bool (decide (((ix t82 s115.1).At) < 0)) : Value), fun vz wz => vz = (.bool (decide (((ix t82 s115.1).At) < 0)) : Value), fun vz wz => vz = (.int .i64 ((ix t82 s115.1).At) : Value), fun vz wz => vz = (.bool (decide (((ix t82 s115.1).At) ≥ 24)) : Value), fun vz wz => vz = (.bool (decide (((ix t82 s115.1).At) ≥ 24)) : Value), fun vz wz => vz = (.bool (decide (((ix t82 s115.1).At) ≥ 24)) : Value), fun vz _ => vz = undef, fun vz _ => vz = undef, fun vz _ => vz = undef, fun vz _ => vz = undef, fun vz _ => vz = undef, fun vz _ => vz = undef, fun vz _ => vz = undef, fun vz _ => vz = undef, fun vz _ => vz = undef, fun vz _ => vz = undef, fun vz _ => vz = undef, fun vz _ => vz = undef, fun vz _ => vz = undef, fun vz _ => vz = undef, fun vz _ => vz = undef, fun vz _ => vz = undef] mo rfl ⟨fun _ _ _ h _ => h, fun _ _ _ h _ => h, fun _ _ _ h _ => h, fun _ _ _ h _ => h, fun _ _ _ h _ => h, fun _ _ _ h _ => h, fun _ _ _ h _ => h, fun _ _ _ h _ => h, fun _ _ _ h _ => h, fun _ _ _ h _ => h, fun _ _ _ h _ => h, fun _ _ _ h _ => h, fun _ _ _ h _ => h, fun _ _ _ h _ => h, fun _ _ _ h _ => h, fun _ _ _ h _ => h, fun _ _ _ h _ => h, fun _ _ _ h _ => h, fun _ _ _ h _ => h, fun _ _ _ h _ => h, fun _ _ _ h _ => h, fun _ _ _ h _ => h, fun _ _ _ h _ => h, trivial⟩ ?_ ?_
                            · refine ⟨?_, ?_, ?_, ?_, ?_, ?_, ?_, ?_, ?_, ?_, ?_, ?_, ?_, ?_, ?_, ?_, ?_, ?_, ?_, ?_, ?_, ?_, ?_, trivial⟩
                              · intro ρz wz hz hk hd
                                exact sk_val (v := .int .i64 ((ix t82 s115.1).At)) (by exact xr_move rfl ((hk 12 rfl).trans e12)) rfl rfl
                              · intro ρz wz hz hk hd
                                have d81 := hd 0 rfl 81 rfl
                                exact sk_val (v := .bool (decide (((ix t82 s115.1).At) < 0))) (by exact xr_lss rfl d81 rfl) rfl rfl
                              · intro ρz wz hz hk hd
                                have d82 := hd 1 rfl 82 rfl
                                exact sk_val (v := .bool (decide (((ix t82 s115.1).At) < 0))) (by exact xr_move rfl d82) rfl rfl
                              · intro ρz wz hz hk hd
                                have d83 := hd 2 rfl 83 rfl
                                exact sk_gval (v := .int .i64 ((ix t82 s115.1).At)) (by exact xr_move rfl ((hk 12 rfl).trans e12)) rfl rfl d83 c134 rfl
                              · intro ρz wz hz hk hd
                                have d84 := hd 3 rfl 84 rfl
                                have d83 := hd 2 rfl 83 rfl
                                exact sk_gval (v := .bool (decide (((ix t82 s115.1).At) ≥ 24))) (by exact xr_geq rfl d84 rfl) rfl rfl d83 c134 rfl
                              · intro ρz wz hz hk hd
                                have d83 := hd 2 rfl 83 rfl
                                have d85 := hd 4 rfl 85 rfl
                                exact sk_val (v := .bool (decide (((ix t82 s115.1).At) ≥ 24))) (by exact xr_pickF rfl d83 c134 d85) rfl rfl
                              · intro ρz wz hz hk hd
                                have d86 := hd 5 rfl 86 rfl
                                exact sk_val (v := .bool (decide (((ix t82 s115.1).At) ≥ 24))) (by exact xr_move rfl d86) rfl rfl
                              · intro ρz wz hz hk hd
                                have d87 := hd 6 rfl 87 rfl
                                exact sk_skip rfl rfl d87 c138 rfl
                              · intro ρz wz hz hk hd
                                have d87 := hd 6 rfl 87 rfl
                                exact sk_skip rfl rfl d87 c138 rfl
                              · intro ρz wz hz hk hd
                                have d87 := hd 6 rfl 87 rfl
                                exact sk_skip rfl rfl d87 c138 rfl
                              · intro ρz wz hz hk hd
                                have d87 := hd 6 rfl 87 rfl
                                exact sk_skip rfl rfl d87 c138 rfl
                              · intro ρz wz hz hk hd
                                have d87 := hd 6 rfl 87 rfl
                                exact sk_skip rfl rfl d87 c138 rfl
                              · intro ρz wz hz hk hd
                                have d87 := hd 6 rfl 87 rfl
                                exact sk_skip rfl rfl d87 c138 rfl
                              · intro ρz wz hz hk hd
                                have d87 := hd 6 rfl 87 rfl
                                exact sk_skip rfl rfl d87 c138 rfl
                              · intro ρz wz hz hk hd
                                have d87 := hd 6 rfl 87 rfl
                                exact sk_skip rfl rfl d87 c138 rfl
                              · intro ρz wz hz hk hd
                                have d87 := hd 6 rfl 87 rfl
                                exact sk_skip rfl rfl d87 c138 rfl
                              · intro ρz wz hz hk hd
                                have d87 := hd 6 rfl 87 rfl
                                exact sk_skip rfl rfl d87 c138 rfl
                              · intro ρz wz hz hk hd
                                have d87 := hd 6 rfl 87 rfl
                                exact sk_skip rfl rfl d87 c138 rfl
                              · intro ρz wz hz hk hd
                                have d87 := hd 6 rfl 87 rfl
                                exact sk_skip rfl rfl d87 c138 rfl
                              · intro ρz wz hz hk hd
                                have d87 := hd 6 rfl 87 rfl
                                exact sk_skip rfl rfl d87 c138 rfl
                              · intro ρz wz hz hk hd
                                have d87 := hd 6 rfl 87 rfl
                                exact sk_skip rfl rfl d87 c138 rfl
                              · intro ρz wz hz hk hd
                                have d87 := hd 6 rfl 87 rfl
                                exact sk_skip rfl rfl d87 c138 rfl
                              · intro ρz wz hz hk hd
                                have d87 := hd 6 rfl 87 rfl
                                exact sk_skip rfl rfl d87 c138 rfl
                            · intro ρ139 w140 q141 hk hd
                              have e1 := (hk 1 rfl).trans e1
                              have e5 := (hk 5 rfl).trans e5
                              have e8 := (hk 8 rfl).trans e8
                              have e9 := (hk 9 rfl).trans e9
                              have e10 := (hk 10 rfl).trans e10
                              have e11 := (hk 11 rfl).trans e11
                              have e12 := (hk 12 rfl).trans e12
                              have e84 := hd 3 rfl 84 rfl
                              have e85 := hd 4 rfl 85 rfl
                              have e87 := hd 6 rfl 87 rfl
                              have b31 := b31.gr q141
                              have o78 := o78.gr q141
                              have o85 := o85.gr q141
                              have o93 := o93.gr q141
                              have o97 := o97.gr q141
                              have o107 := o107.gr q141
                              have fB := fB.gr q141
                              refine ol_val (v := .bool true) (by exact xr_pickT rfl e87 c138 rfl) rfl rfl rfl ?_
                              refine ol_nil ?_
                              obtain rfl := Option.some.inj j133
                              refine thn_i ?_
                              exact ⟨e1, e5, e8, e9, e10, e11, e12, rfl, q141⟩
                          · skip
                            obtain ⟨g143, j133⟩ := gs j133
                            obtain ⟨t144, k145, j133⟩ := bs j133
                            obtain ⟨g147, j133⟩ := gs j133
                            obtain ⟨t148, k149, j133⟩ := bs j133
                            refine cw_drawL 23 [fun vz wz => vz = (.int .i64 ((ix t82 s115.1).At) : Value), fun vz wz => vz = (.bool (decide (((ix t82 s115.1).At) < 0)) : Value), fun vz wz => vz = (.bool (decide (((ix t82 s115.1).At) < 0)) : Value), fun vz wz => vz = (.int .i64 ((ix t82 s115.1).At) : Value), fun vz wz => vz = (.bool (decide (((ix t82 s115.1).At) ≥ 24)) : Value), fun vz wz => vz = (.bool (decide (((ix t82 s115.1).At) ≥ 24)) : Value), fun vz wz => vz = (.bool (decide (((ix t82 s115.1).At) ≥ 24)) : Value), fun vz wz => vz = (u106 : Value), fun vz wz => vz = (.int .i64 ((ix t82 s115.1).At) : Value), fun vz wz => vz = (.int .i64 (IntKind.i64.wrap (8 * ((ix t82 s115.1).At))) : Value), fun vz wz => vz = (.int .i64 ((ix t82 s115.1).At) : Value), fun vz wz => vz = (.int .i64 (IntKind.i64.wrap (8 * ((ix t82 s115.1).At))) : Value), fun vz wz => vz = (.int .i64 (IntKind.i64.wrap ((IntKind.i64.wrap (8 * ((ix t82 s115.1).At))) + 8)) : Value), fun vz wz => ∃ r142 : Rd (kI .u8) wz (subv 1 u106 (Int.toNat (IntKind.i64.wrap (8 * ((ix t82 s115.1).At)))) (Int.toNat (IntKind.i64.wrap ((IntKind.i64.wrap (8 * ((ix t82 s115.1).At))) + 8)))) (cut t104 (IntKind.i64.wrap (8 * ((ix t82 s115.1).At))) (IntKind.i64.wrap ((IntKind.i64.wrap (8 * ((ix t82 s115.1).At))) + 8))), vz = (subv 1 u106 (Int.toNat (IntKind.i64.wrap (8 * ((ix t82 s115.1).At)))) (Int.toNat (IntKind.i64.wrap ((IntKind.i64.wrap (8 * ((ix t82 s115.1).At))) + 8))) : Value), fun vz wz => vz = (sv (List.map toB (cut t104 (IntKind.i64.wrap (8 * ((ix t82 s115.1).At))) (IntKind.i64.wrap ((IntKind.i64.wrap (8 * ((ix t82 s115.1).At))) + 8)))) : Value), fun vz wz => vz = (.int .u64 t144 : Value), fun vz wz => vz = (u84 : Value), fun vz wz => vz = (.int .i64 s115.1 : Value), fun vz wz => vz = (.pointer (some ⟨(sb u84), so u84 + Int.toNat s115.1 * 5, none⟩) : Value), fun vz wz => vz = (aggV [Seg.cell (.int .i64 ((ix t82 s115.1).At)), Seg.cell (.int .u64 ((ix t82 s115.1).Lasts)), Seg.cell (.bool ((ix t82 s115.1).Flushed)), Seg.cell (.int .u64 ((ix t82 s115.1).Sent)), Seg.cell (.int .u64 ((ix t82 s115.1).Stored))] : Value), fun vz wz => vz = (.int .i64 x125 : Value), fun vz wz => vz = (.int .u64 t148 : Value), fun vz wz => vz = (.bool (!decide (t144 = t148)) : Value)] mo rfl ⟨fun _ _ _ h _ => h, fun _ _ _ h _ => h, fun _ _ _ h _ => h, fun _ _ _ h _ => h, fun _ _ _ h _ => h, fun _ _ _ h _ => h, fun _ _ _ h _ => h, fun _ _ _ h _ => h, fun _ _ _ h _ => h, fun _ _ _ h _ => h, fun _ _ _ h _ => h, fun _ _ _ h _ => h, fun _ _ _ h _ => h, fun _ _ _ ⟨r142, h⟩ q => ⟨r142.gr q, h⟩, fun _ _ _ h _ => h, fun _ _ _ h _ => h, fun _ _ _ h _ => h, fun _ _ _ h _ => h, fun _ _ _ h _ => h, fun _ _ _ h _ => h, fun _ _ _ h _ => h, fun _ _ _ h _ => h, fun _ _ _ h _ => h, trivial⟩ ?_ ?_
                            · refine ⟨?_, ?_, ?_, ?_, ?_, ?_, ?_, ?_, ?_, ?_, ?_, ?_, ?_, ?_, ?_, ?_, ?_, ?_, ?_, ?_, ?_, ?_, ?_, trivial⟩
                              · intro ρz wz hz hk hd
                                exact sk_val (v := .int .i64 ((ix t82 s115.1).At)) (by exact xr_move rfl ((hk 12 rfl).trans e12)) rfl rfl
                              · intro ρz wz hz hk hd
                                have d81 := hd 0 rfl 81 rfl
                                exact sk_val (v := .bool (decide (((ix t82 s115.1).At) < 0))) (by exact xr_lss rfl d81 rfl) rfl rfl
                              · intro ρz wz hz hk hd
                                have d82 := hd 1 rfl 82 rfl
                                exact sk_val (v := .bool (decide (((ix t82 s115.1).At) < 0))) (by exact xr_move rfl d82) rfl rfl
                              · intro ρz wz hz hk hd
                                have d83 := hd 2 rfl 83 rfl
                                exact sk_gval (v := .int .i64 ((ix t82 s115.1).At)) (by exact xr_move rfl ((hk 12 rfl).trans e12)) rfl rfl d83 c134 rfl
                              · intro ρz wz hz hk hd
                                have d84 := hd 3 rfl 84 rfl
                                have d83 := hd 2 rfl 83 rfl
                                exact sk_gval (v := .bool (decide (((ix t82 s115.1).At) ≥ 24))) (by exact xr_geq rfl d84 rfl) rfl rfl d83 c134 rfl
                              · intro ρz wz hz hk hd
                                have d83 := hd 2 rfl 83 rfl
                                have d85 := hd 4 rfl 85 rfl
                                exact sk_val (v := .bool (decide (((ix t82 s115.1).At) ≥ 24))) (by exact xr_pickF rfl d83 c134 d85) rfl rfl
                              · intro ρz wz hz hk hd
                                have d86 := hd 5 rfl 86 rfl
                                exact sk_val (v := .bool (decide (((ix t82 s115.1).At) ≥ 24))) (by exact xr_move rfl d86) rfl rfl
                              · intro ρz wz hz hk hd
                                have d87 := hd 6 rfl 87 rfl
                                exact sk_gval (v := u106) (by exact xr_move rfl ((hk 10 rfl).trans e10)) rfl rfl d87 c138 rfl
                              · intro ρz wz hz hk hd
                                have d87 := hd 6 rfl 87 rfl
                                exact sk_gval (v := .int .i64 ((ix t82 s115.1).At)) (by exact xr_move rfl ((hk 12 rfl).trans e12)) rfl rfl d87 c138 rfl
                              · intro ρz wz hz hk hd
                                have d89 := hd 8 rfl 89 rfl
                                have d87 := hd 6 rfl 87 rfl
                                exact sk_gval (v := .int .i64 (IntKind.i64.wrap (8 * ((ix t82 s115.1).At)))) (by exact xr_mul rfl rfl d89) rfl rfl d87 c138 rfl
                              · intro ρz wz hz hk hd
                                have d87 := hd 6 rfl 87 rfl
                                exact sk_gval (v := .int .i64 ((ix t82 s115.1).At)) (by exact xr_move rfl ((hk 12 rfl).trans e12)) rfl rfl d87 c138 rfl
                              · intro ρz wz hz hk hd
                                have d91 := hd 10 rfl 91 rfl
                                have d87 := hd 6 rfl 87 rfl
                                exact sk_gval (v := .int .i64 (IntKind.i64.wrap (8 * ((ix t82 s115.1).At)))) (by exact xr_mul rfl rfl d91) rfl rfl d87 c138 rfl
                              · intro ρz wz hz hk hd
                                have d92 := hd 11 rfl 92 rfl
                                have d87 := hd 6 rfl 87 rfl
                                exact sk_gval (by exact xr_add rfl d92 rfl) rfl rfl d87 c138 rfl
                              · intro ρz wz hz hk hd
                                have d88 := hd 7 rfl 88 rfl
                                have d90 := hd 9 rfl 90 rfl
                                have d93 := hd 12 rfl 93 rfl
                                have d87 := hd 6 rfl 87 rfl
                                exact sk_gval (by exact xr_slice_lh (K := (kI .u8)) (v := u106) rfl Try.underlying43 sz5 d88 (o107.gr hz).rd d90 d93 g143.1 g143.2.1 g143.2.2) rfl rfl d87 c138 ⟨(o107.gr hz).rd.cut (lo := (IntKind.i64.wrap (8 * ((ix t82 s115.1).At)))) (hi := (IntKind.i64.wrap ((IntKind.i64.wrap (8 * ((ix t82 s115.1).At))) + 8))) g143.1 g143.2.1 g143.2.2, rfl⟩
                              · intro ρz wz hz hk hd
                                obtain ⟨r142, d94⟩ := hd 13 rfl 94 rfl
                                have d87 := hd 6 rfl 87 rfl
                                exact sk_gval (by exact xr_toStr rfl Try.underlying43 Try.underlying5 Try.underlying9 d94 r142) rfl rfl d87 c138 rfl
                              · intro ρz wz hz hk hd
                                have d95 := hd 14 rfl 95 rfl
                                have d87 := hd 6 rfl 87 rfl
                                refine sk_gop (by exact opv_call rfl cal41 (ac d95 an) (rickyardref01_Number.ok fu _ (List.map toB (cut t104 (IntKind.i64.wrap (8 * ((ix t82 s115.1).At))) (IntKind.i64.wrap ((IntKind.i64.wrap (8 * ((ix t82 s115.1).At))) + 8)))) _ k145)) rfl rfl d87 c138 ?_
                                rintro _ wy ⟨rfl, q146⟩
                                exact ⟨rfl, q146⟩
                              · intro ρz wz hz hk hd
                                have d87 := hd 6 rfl 87 rfl
                                exact sk_gval (v := u84) (by exact xr_move rfl ((hk 9 rfl).trans e9)) rfl rfl d87 c138 rfl
                              · intro ρz wz hz hk hd
                                have d87 := hd 6 rfl 87 rfl
                                exact sk_gval (v := .int .i64 s115.1) (by exact xr_move rfl ((hk 11 rfl).trans e11)) rfl rfl d87 c138 rfl
                              · intro ρz wz hz hk hd
                                have d97 := hd 16 rfl 97 rfl
                                have d98 := hd 17 rfl 98 rfl
                                have d87 := hd 6 rfl 87 rfl
                                exact sk_gval (by exact xr_indexR (K := k_api_Fate) (v := u84) rfl Try.underlying52 sz55 d97 (o85.gr hz).rd d98 g147.1 g147.2) rfl rfl d87 c138 rfl
                              · intro ρz wz hz hk hd
                                have d99 := hd 18 rfl 99 rfl
                                have d87 := hd 6 rfl 87 rfl
                                exact sk_gval (by exact xr_loadS (ss := [Seg.cell (.int .i64 ((ix t82 s115.1).At)), Seg.cell (.int .u64 ((ix t82 s115.1).Lasts)), Seg.cell (.bool ((ix t82 s115.1).Flushed)), Seg.cell (.int .u64 ((ix t82 s115.1).Sent)), Seg.cell (.int .u64 ((ix t82 s115.1).Stored))]) rfl ag55 sz55 rfl d99 ((o85.gr hz).rd.elem g147.1 g147.2)) rfl rfl d87 c138 rfl
                              · intro ρz wz hz hk hd
                                have d87 := hd 6 rfl 87 rfl
                                exact sk_gval (v := .int .i64 x125) (by exact xr_move rfl ((hk 13 rfl).trans e13)) rfl rfl d87 c138 rfl
                              · intro ρz wz hz hk hd
                                have d100 := hd 19 rfl 100 rfl
                                have d101 := hd 20 rfl 101 rfl
                                have d87 := hd 6 rfl 87 rfl
                                refine sk_gop (by exact opv_call rfl cal42 (ac d100 (ac d101 an)) (rickyardref05_Value.ok fu _ (ix t82 s115.1) x125 _ k149)) rfl rfl d87 c138 ?_
                                rintro _ wy ⟨rfl, q150⟩
                                exact ⟨rfl, q150⟩
                              · intro ρz wz hz hk hd
                                have d96 := hd 15 rfl 96 rfl
                                have d102 := hd 21 rfl 102 rfl
                                have d87 := hd 6 rfl 87 rfl
                                exact sk_gval (v := .bool (!decide (t144 = t148))) (by exact xr_neI rfl Try.underlying22 rfl d96 d102) rfl rfl d87 c138 rfl
                            · intro ρ151 w152 q153 hk hd
                              have e1 := (hk 1 rfl).trans e1
                              have e5 := (hk 5 rfl).trans e5
                              have e8 := (hk 8 rfl).trans e8
                              have e9 := (hk 9 rfl).trans e9
                              have e10 := (hk 10 rfl).trans e10
                              have e11 := (hk 11 rfl).trans e11
                              have e12 := (hk 12 rfl).trans e12
                              have e84 := hd 3 rfl 84 rfl
                              have e85 := hd 4 rfl 85 rfl
                              have e87 := hd 6 rfl 87 rfl
                              have e88 := hd 7 rfl 88 rfl
                              have e89 := hd 8 rfl 89 rfl
                              have e90 := hd 9 rfl 90 rfl
                              have e91 := hd 10 rfl 91 rfl
                              have e92 := hd 11 rfl 92 rfl
                              have e93 := hd 12 rfl 93 rfl
                              obtain ⟨r154, e94⟩ := hd 13 rfl 94 rfl
                              have e95 := hd 14 rfl 95 rfl
                              have e96 := hd 15 rfl 96 rfl
                              have e97 := hd 16 rfl 97 rfl
                              have e98 := hd 17 rfl 98 rfl
                              have e99 := hd 18 rfl 99 rfl
                              have e100 := hd 19 rfl 100 rfl
                              have e101 := hd 20 rfl 101 rfl
                              have e102 := hd 21 rfl 102 rfl
                              have e103 := hd 22 rfl 103 rfl
                              have b31 := b31.gr q153
                              have o78 := o78.gr q153
                              have o85 := o85.gr q153
                              have o93 := o93.gr q153
                              have o97 := o97.gr q153
                              have o107 := o107.gr q153
                              have fB := fB.gr q153
                              refine ol_val (v := .bool (!decide (t144 = t148))) (by exact xr_pickF rfl e87 c138 e103) rfl rfl rfl ?_
                              refine ol_nil ?_
                              obtain rfl := Option.some.inj j133
                              refine thn_i ?_
                              exact ⟨e1, e5, e8, e9, e10, e11, e12, rfl, q153⟩
                      · skip
                        rintro ρ155 w156 ⟨e1, e5, e8, e9, e10, e11, e12, e104, q157⟩
                        have b31 := b31.gr q157
                        have o78 := o78.gr q157
                        have o85 := o85.gr q157
                        have o93 := o93.gr q157
                        have o97 := o97.gr q157
                        have o107 := o107.gr q157
                        have fB := fB.gr q157
                        rcases is h with ⟨c158, h⟩ | ⟨c158, h⟩
                        · refine cw_condT e104 c158 ?_
                          refine cw_seq ?_
                          refine cw_region ?_
                          refine ol_val (v := .bool false) (by exact xr_assign rfl rfl) rfl rfl rfl ?_
                          refine ol_nil ?_
                          refine cw_ret ?_
                          repeat (first | with_reducible refine thn_r ?_ | with_reducible refine blk_r ?_)
                          obtain rfl := Option.some.inj h
                          refine lp_ret ?_
                          rintro rfl
                          repeat (first | with_reducible refine thn_r ?_ | with_reducible refine blk_r ?_)
                          have h := h118
                          obtain rfl := Option.some.inj h
                          refine fin_ret1 Try.results6 rfl ?_
                          exact ⟨_, rfl, rfl, fB⟩
                        · refine cw_condF e104 c158 ?_
                          refine cw_skip ?_
                          obtain ⟨g160, h⟩ := gs h
                          obtain ⟨g162, h⟩ := gs h
                          refine cw_drawL 14 [fun vz wz => vz = (u77 : Value), fun vz wz => vz = (.int .i64 ((ix t82 s115.1).At) : Value), fun vz wz => vz = (.int .i64 (IntKind.i64.wrap (8 * ((ix t82 s115.1).At))) : Value), fun vz wz => vz = (.int .i64 ((ix t82 s115.1).At) : Value), fun vz wz => vz = (.int .i64 (IntKind.i64.wrap (8 * ((ix t82 s115.1).At))) : Value), fun vz wz => vz = (.int .i64 (IntKind.i64.wrap ((IntKind.i64.wrap (8 * ((ix t82 s115.1).At))) + 8)) : Value), fun vz wz => ∃ r159 : Rd (kI .u8) wz (subv 1 u77 (Int.toNat (IntKind.i64.wrap (8 * ((ix t82 s115.1).At)))) (Int.toNat (IntKind.i64.wrap ((IntKind.i64.wrap (8 * ((ix t82 s115.1).At))) + 8)))) (cut s115.2 (IntKind.i64.wrap (8 * ((ix t82 s115.1).At))) (IntKind.i64.wrap ((IntKind.i64.wrap (8 * ((ix t82 s115.1).At))) + 8))), vz = (subv 1 u77 (Int.toNat (IntKind.i64.wrap (8 * ((ix t82 s115.1).At)))) (Int.toNat (IntKind.i64.wrap ((IntKind.i64.wrap (8 * ((ix t82 s115.1).At))) + 8))) : Value), fun vz wz => vz = (u106 : Value), fun vz wz => vz = (.int .i64 ((ix t82 s115.1).At) : Value), fun vz wz => vz = (.int .i64 (IntKind.i64.wrap (8 * ((ix t82 s115.1).At))) : Value), fun vz wz => vz = (.int .i64 ((ix t82 s115.1).At) : Value), fun vz wz => vz = (.int .i64 (IntKind.i64.wrap (8 * ((ix t82 s115.1).At))) : Value), fun vz wz => vz = (.int .i64 (IntKind.i64.wrap ((IntKind.i64.wrap (8 * ((ix t82 s115.1).At))) + 8)) : Value), fun vz wz => ∃ r161 : Rd (kI .u8) wz (subv 1 u106 (Int.toNat (IntKind.i64.wrap (8 * ((ix t82 s115.1).At)))) (Int.toNat (IntKind.i64.wrap ((IntKind.i64.wrap (8 * ((ix t82 s115.1).At))) + 8)))) (cut t104 (IntKind.i64.wrap (8 * ((ix t82 s115.1).At))) (IntKind.i64.wrap ((IntKind.i64.wrap (8 * ((ix t82 s115.1).At))) + 8))), vz = (subv 1 u106 (Int.toNat (IntKind.i64.wrap (8 * ((ix t82 s115.1).At)))) (Int.toNat (IntKind.i64.wrap ((IntKind.i64.wrap (8 * ((ix t82 s115.1).At))) + 8))) : Value)] mo rfl ⟨fun _ _ _ h _ => h, fun _ _ _ h _ => h, fun _ _ _ h _ => h, fun _ _ _ h _ => h, fun _ _ _ h _ => h, fun _ _ _ h _ => h, fun _ _ _ ⟨r159, h⟩ q => ⟨r159.gr q, h⟩, fun _ _ _ h _ => h, fun _ _ _ h _ => h, fun _ _ _ h _ => h, fun _ _ _ h _ => h, fun _ _ _ h _ => h, fun _ _ _ h _ => h, fun _ _ _ ⟨r161, h⟩ q => ⟨r161.gr q, h⟩, trivial⟩ ?_ ?_
                          · refine ⟨?_, ?_, ?_, ?_, ?_, ?_, ?_, ?_, ?_, ?_, ?_, ?_, ?_, ?_, trivial⟩
                            · intro ρz wz hz hk hd
                              exact sk_val (v := u77) (by exact xr_move rfl ((hk 8 rfl).trans e8)) rfl rfl
                            · intro ρz wz hz hk hd
                              exact sk_val (v := .int .i64 ((ix t82 s115.1).At)) (by exact xr_move rfl ((hk 12 rfl).trans e12)) rfl rfl
                            · intro ρz wz hz hk hd
                              have d106 := hd 1 rfl 106 rfl
                              exact sk_val (v := .int .i64 (IntKind.i64.wrap (8 * ((ix t82 s115.1).At)))) (by exact xr_mul rfl rfl d106) rfl rfl
                            · intro ρz wz hz hk hd
                              exact sk_val (v := .int .i64 ((ix t82 s115.1).At)) (by exact xr_move rfl ((hk 12 rfl).trans e12)) rfl rfl
                            · intro ρz wz hz hk hd
                              have d108 := hd 3 rfl 108 rfl
                              exact sk_val (v := .int .i64 (IntKind.i64.wrap (8 * ((ix t82 s115.1).At)))) (by exact xr_mul rfl rfl d108) rfl rfl
                            · intro ρz wz hz hk hd
                              have d109 := hd 4 rfl 109 rfl
                              exact sk_val (by exact xr_add rfl d109 rfl) rfl rfl
                            · intro ρz wz hz hk hd
                              have d105 := hd 0 rfl 105 rfl
                              have d107 := hd 2 rfl 107 rfl
                              have d110 := hd 5 rfl 110 rfl
                              exact sk_val (by exact xr_slice_lh (K := (kI .u8)) (v := u77) rfl Try.underlying43 sz5 d105 (o78.gr hz).rd d107 d110 g160.1 g160.2.1 g160.2.2) rfl ⟨(o78.gr hz).rd.cut (lo := (IntKind.i64.wrap (8 * ((ix t82 s115.1).At)))) (hi := (IntKind.i64.wrap ((IntKind.i64.wrap (8 * ((ix t82 s115.1).At))) + 8))) g160.1 g160.2.1 g160.2.2, rfl⟩
                            · intro ρz wz hz hk hd
                              exact sk_val (v := u106) (by exact xr_move rfl ((hk 10 rfl).trans e10)) rfl rfl
                            · intro ρz wz hz hk hd
                              exact sk_val (v := .int .i64 ((ix t82 s115.1).At)) (by exact xr_move rfl ((hk 12 rfl).trans e12)) rfl rfl
                            · intro ρz wz hz hk hd
                              have d113 := hd 8 rfl 113 rfl
                              exact sk_val (v := .int .i64 (IntKind.i64.wrap (8 * ((ix t82 s115.1).At)))) (by exact xr_mul rfl rfl d113) rfl rfl
                            · intro ρz wz hz hk hd
                              exact sk_val (v := .int .i64 ((ix t82 s115.1).At)) (by exact xr_move rfl ((hk 12 rfl).trans e12)) rfl rfl
                            · intro ρz wz hz hk hd
                              have d115 := hd 10 rfl 115 rfl
                              exact sk_val (v := .int .i64 (IntKind.i64.wrap (8 * ((ix t82 s115.1).At)))) (by exact xr_mul rfl rfl d115) rfl rfl
                            · intro ρz wz hz hk hd
                              have d116 := hd 11 rfl 116 rfl
                              exact sk_val (by exact xr_add rfl d116 rfl) rfl rfl
                            · intro ρz wz hz hk hd
                              have d112 := hd 7 rfl 112 rfl
                              have d114 := hd 9 rfl 114 rfl
                              have d117 := hd 12 rfl 117 rfl
                              exact sk_val (by exact xr_slice_lh (K := (kI .u8)) (v := u106) rfl Try.underlying43 sz5 d112 (o107.gr hz).rd d114 d117 g162.1 g162.2.1 g162.2.2) rfl ⟨(o107.gr hz).rd.cut (lo := (IntKind.i64.wrap (8 * ((ix t82 s115.1).At)))) (hi := (IntKind.i64.wrap ((IntKind.i64.wrap (8 * ((ix t82 s115.1).At))) + 8))) g162.1 g162.2.1 g162.2.2, rfl⟩
                          · intro ρ163 w164 q165 hk hd
                            have e1 := (hk 1 rfl).trans e1
                            have e5 := (hk 5 rfl).trans e5
                            have e8 := (hk 8 rfl).trans e8
                            have e9 := (hk 9 rfl).trans e9
                            have e10 := (hk 10 rfl).trans e10
                            have e11 := (hk 11 rfl).trans e11
                            obtain ⟨r166, e111⟩ := hd 6 rfl 111 rfl
                            obtain ⟨r167, e118⟩ := hd 13 rfl 118 rfl
                            have b31 := b31.gr q165
                            have o78 := o78.gr q165
                            have o85 := o85.gr q165
                            have o93 := o93.gr q165
                            have o97 := o97.gr q165
                            have o107 := o107.gr q165
                            have fB := fB.gr q165
                            obtain ⟨g169, h⟩ := gs h
                            have f170 := off_ty b31 o78 (by decide)
                            have f171 := OffV.ty o85 o78 (by decide)
                            have f172 := OffV.ty o93 o78 (by decide)
                            have f173 := OffV.ty o97 o78 (by decide)
                            have f174 := a111.symm
                            have f175 := o78.geO
                            refine ol_op (by exact opv_copyCut rfl Try.underlying43 sz5 rfl e111 rfl e118 o78 g169.1 g169.2 r167) rfl rfl rfl ?_
                            rintro _ w176 ⟨rfl, o78, q168⟩
                            have b31 := b31.wrO q168 f170
                            have o85 := o85.wrV q168 f171
                            have o93 := o93.wrV q168 f172
                            have o97 := o97.wrV q168 f173
                            have o107 := o107.wrV q168 f174
                            have fB := fB.wrO q168 f175
                            refine ol_nil ?_
                            refine blk_i ?_
                            refine cw_region ?_
                            refine ol_val (v := .int .i64 s115.1) (by exact xr_move rfl e11) rfl rfl rfl ?_
                            refine ol_val (v := .int .i64 (IntKind.i64.wrap (s115.1 + 1))) (by exact xr_add rfl rfl rfl) rfl rfl rfl ?_
                            refine ol_val (v := .int .i64 (IntKind.i64.wrap (s115.1 + 1))) (by exact xr_assign rfl rfl) rfl rfl rfl ?_
                            refine ol_nil ?_
                            obtain rfl := Option.some.inj h
                            refine lp_in ?_
                            exact ⟨o78, o85, o93, o97, o107, e1, e5, e8, e9, e10, rfl, b31, fB⟩
                  · refine cw_condF rfl c123 ?_
                    refine cw_exit ?_
                    repeat (first | with_reducible refine thn_e ?_ | with_reducible refine blk_e rfl ?_)
                    obtain rfl := Option.some.inj h
                    refine lp_exit ?_
                    rintro rfl
                    refine thn_x ?_
                    exact ⟨_, rfl, o78, o93, o97, o107, e5, e8, e10, b31, fB⟩
              · rintro ρ177 w178 ⟨x119, rfl, o78, o93, o97, o107, e5, e8, e10, b31, fB⟩
                have h := h118
                refine cw_seq ?_
                refine cw_region ?_
                refine ol_val (v := .pointer (some ⟨G29, 0, none⟩)) (by exact xr_move rfl e5) rfl rfl rfl ?_
                refine ol_op (by exact opv_buildSlice (K := (kI .i64)) (xs := [2, 2, 2]) (vals := [.int .i64 2, .int .i64 2, .int .i64 2]) rfl Try.underlying25 el3 rfl rfl ⟨rfl, rfl, ⟨rfl, rfl, ⟨rfl, rfl, trivial⟩⟩⟩ rfl rfl rfl fB.size) rfl rfl rfl ?_
                rintro v179 w184 ⟨o181, q180, z182⟩
                have a185 := OffV.new o97 z182
                have b31 := b31.gr q180
                have o78 := o78.gr q180
                have o93 := o93.gr q180
                have o97 := o97.gr q180
                have o107 := o107.gr q180
                have fB := fB.gr q180
                obtain ⟨t186, k187, h⟩ := bs h
                have f197 := (vo_or (vo_eq (off_ty b31 o78 (by decide))) (vo_or (vo_own (OffV.ty o78 o93 (by decide))) (vo_own (OffV.ty o78 o97 (by decide)))))
                have f198 := (vo_or (vo_eq (off_ty b31 o107 (by decide))) (vo_or (vo_own (OffV.ty o107 o93 (by decide))) (vo_own (OffV.ty o107 o97 (by decide)))))
                have c199 : ∀ k, (k = G29 ∨ some k = Value.ownBlock u92 ∨ some k = Value.ownBlock u96) → w.heap.size ≤ k := (cv_or (cv_eq z30) (cv_or (cv_own o93.geO) (cv_own o97.geO)))
                refine ol_op (by exact opv_call rfl cal32 (ac rfl (ac rfl an)) (pmem_Device_Crash.ok fu _ t89 G29 u92 (Own.base o93 (Nat.zero_le _)) u96 (Own.base o97 (Nat.zero_le _)) b31 [2, 2, 2] v179 (o181.rd) (OffR.own o181 (off_ty b31 o181 (by decide))) (OffRV.own o181 (OffV.ty o181 o93 (by decide))) (OffRV.own o181 a185.symm) _ k187)) rfl rfl rfl ?_
                rintro _ w200 ⟨u189, u193, o190, m191, o194, m195, rfl, b31, q188⟩
                have o190 := Own.rebase o190 (fun g hg => (m191 g hg).elim (fun x => Nat.le_trans fB.size x) (c199 g))
                have o194 := Own.rebase o194 (fun g hg => (m195 g hg).elim (fun x => Nat.le_trans fB.size x) (c199 g))
                have o78 := o78.fr q188 f197
                have o107 := o107.fr q188 f198
                have fB := fB.call q188 (fun k h => .inl (c199 k h))
                refine ol_nil ?_
                refine cw_seq ?_
                obtain ⟨x201, j202, h⟩ := bs h
                refine cw_mid (fun ρ' w' => ρ' 4 = .bool x201 ∧ Gr w200 w') ?_ ?_
                · skip
                  rcases is j202 with ⟨c203, j202⟩ | ⟨c203, j202⟩
                  · skip
                    obtain ⟨t204, k205, j202⟩ := bs j202
                    rcases is j202 with ⟨c210, j202⟩ | ⟨c210, j202⟩
                    · skip
                      obtain ⟨t211, k212, j202⟩ := bs j202
                      rcases is j202 with ⟨c217, j202⟩ | ⟨c217, j202⟩
                      · skip
                        obtain ⟨t218, k219, j202⟩ := bs j202
                        rcases is j202 with ⟨c224, j202⟩ | ⟨c224, j202⟩
                        · skip
                          obtain ⟨t225, k226, j202⟩ := bs j202
                          refine cw_drawL 30 [fun vz wz => vz = (u77 : Value), fun vz wz => vz = (sv (List.map toB x119) : Value), fun vz wz => vz = (u106 : Value), fun vz wz => vz = (sv (List.map toB t104) : Value), fun vz wz => vz = (.bool (decide ((List.map toB x119) = (List.map toB t104))) : Value), fun vz wz => vz = (.bool (decide ((List.map toB x119) = (List.map toB t104))) : Value), fun vz wz => vz = (.pointer (some ⟨G29, 0, none⟩) : Value), fun vz wz => ∃ u206 : Value, ∃ o207 : Own k_api_Fate 55 wz w.heap.size u206 t204, vz = (u206 : Value), fun vz wz => vz = (.int .i64 (List.length t204 : Int) : Value), fun vz wz => vz = (.bool (decide ((List.length t204 : Int) = 0)) : Value), fun vz wz => vz = (.bool (decide ((List.length t204 : Int) = 0)) : Value), fun vz wz => vz = (.bool (decide ((List.length t204 : Int) = 0)) : Value), fun vz wz => vz = (.pointer (some ⟨G29, 0, none⟩) : Value), fun vz wz => ∃ u213 : Value, ∃ o214 : Own (kI .u8) 5 wz w.heap.size u213 t211, vz = (u213 : Value), fun vz wz => vz = (sv (List.map toB t211) : Value), fun vz wz => vz = (u106 : Value), fun vz wz => vz = (sv (List.map toB t104) : Value), fun vz wz => vz = (.bool (decide ((List.map toB t211) = (List.map toB t104))) : Value), fun vz wz => vz = (.bool (decide ((List.map toB t211) = (List.map toB t104))) : Value), fun vz wz => vz = (.bool (decide ((List.map toB t211) = (List.map toB t104))) : Value), fun vz wz => vz = (.pointer (some ⟨G29, 0, none⟩) : Value), fun vz wz => ∃ u220 : Value, ∃ o221 : Own (kI .u8) 5 wz w.heap.size u220 t218, vz = (u220 : Value), fun vz wz => vz = (sv (List.map toB t218) : Value), fun vz wz => vz = (u106 : Value), fun vz wz => vz = (sv (List.map toB t104) : Value), fun vz wz => vz = (.bool (decide ((List.map toB t218) = (List.map toB t104))) : Value), fun vz wz => vz = (.bool (decide ((List.map toB t218) = (List.map toB t104))) : Value), fun vz wz => vz = (.bool (decide ((List.map toB t218) = (List.map toB t104))) : Value), fun vz wz => vz = (.pointer (some ⟨G29, 0, none⟩) : Value), fun vz wz => vz = (.bool t225 : Value)] mo rfl ⟨fun _ _ _ h _ => h, fun _ _ _ h _ => h, fun _ _ _ h _ => h, fun _ _ _ h _ => h, fun _ _ _ h _ => h, fun _ _ _ h _ => h, fun _ _ _ h _ => h, fun _ _ _ ⟨u206, o207, h⟩ q => ⟨u206, o207.gr q, h⟩, fun _ _ _ h _ => h, fun _ _ _ h _ => h, fun _ _ _ h _ => h, fun _ _ _ h _ => h, fun _ _ _ h _ => h, fun _ _ _ ⟨u213, o214, h⟩ q => ⟨u213, o214.gr q, h⟩, fun _ _ _ h _ => h, fun _ _ _ h _ => h, fun _ _ _ h _ => h, fun _ _ _ h _ => h, fun _ _ _ h _ => h, fun _ _ _ h _ => h, fun _ _ _ h _ => h, fun _ _ _ ⟨u220, o221, h⟩ q => ⟨u220, o221.gr q, h⟩, fun _ _ _ h _ => h, fun _ _ _ h _ => h, fun _ _ _ h _ => h, fun _ _ _ h _ => h, fun _ _ _ h _ => h, fun _ _ _ h _ => h, fun _ _ _ h _ => h, fun _ _ _ h _ => h, trivial⟩ ?_ ?_
                          · refine ⟨?_, ?_, ?_, ?_, ?_, ?_, ?_, ?_, ?_, ?_, ?_, ?_, ?_, ?_, ?_, ?_, ?_, ?_, ?_, ?_, ?_, ?_, ?_, ?_, ?_, ?_, ?_, ?_, ?_, ?_, trivial⟩
                            · intro ρz wz hz hk hd
                              exact sk_val (v := u77) (by exact xr_move rfl ((hk 8 rfl).trans e8)) rfl rfl
                            · intro ρz wz hz hk hd
                              have d123 := hd 0 rfl 123 rfl
                              exact sk_val (v := sv (List.map toB x119)) (by exact xr_toStr rfl Try.underlying43 Try.underlying5 Try.underlying9 d123 (o78.gr hz).rd) rfl rfl
                            · intro ρz wz hz hk hd
                              exact sk_val (v := u106) (by exact xr_move rfl ((hk 10 rfl).trans e10)) rfl rfl
                            · intro ρz wz hz hk hd
                              have d125 := hd 2 rfl 125 rfl
                              exact sk_val (v := sv (List.map toB t104)) (by exact xr_toStr rfl Try.underlying43 Try.underlying5 Try.underlying9 d125 (o107.gr hz).rd) rfl rfl
                            · intro ρz wz hz hk hd
                              have d124 := hd 1 rfl 124 rfl
                              have d126 := hd 3 rfl 126 rfl
                              exact sk_val (v := .bool (decide ((List.map toB x119) = (List.map toB t104)))) (by exact xr_eqStr rfl Try.underlying9 d124 d126) rfl rfl
                            · intro ρz wz hz hk hd
                              have d127 := hd 4 rfl 127 rfl
                              exact sk_val (v := .bool (decide ((List.map toB x119) = (List.map toB t104)))) (by exact xr_move rfl d127) rfl rfl
                            · intro ρz wz hz hk hd
                              have d128 := hd 5 rfl 128 rfl
                              exact sk_gval (v := .pointer (some ⟨G29, 0, none⟩)) (by exact xr_move rfl ((hk 5 rfl).trans e5)) rfl rfl d128 c203 rfl
                            · intro ρz wz hz hk hd
                              have d129 := hd 6 rfl 129 rfl
                              have d128 := hd 5 rfl 128 rfl
                              refine sk_gop (by exact opv_call rfl cal40 (ac d129 an) (pmem_Device_Fates.ok fu _ t186 G29 u189 (o190.gr hz).rd u193 (o194.gr hz).rd (b31.gr hz) _ k205)) rfl rfl d128 c203 ?_
                              rintro u206 wy ⟨_, o207, rfl, q209⟩
                              exact ⟨⟨u206, Own.base o207 ((Nat.le_trans fB.size hz.size)), rfl⟩, q209⟩
                            · intro ρz wz hz hk hd
                              obtain ⟨u206, o207, d130⟩ := hd 7 rfl 130 rfl
                              have d128 := hd 5 rfl 128 rfl
                              exact sk_gval (v := .int .i64 (List.length t204 : Int)) (by exact xr_lenR rfl Try.underlying52 d130 o207.rd) rfl rfl d128 c203 rfl
                            · intro ρz wz hz hk hd
                              have d131 := hd 8 rfl 131 rfl
                              have d128 := hd 5 rfl 128 rfl
                              exact sk_gval (v := .bool (decide ((List.length t204 : Int) = 0))) (by exact xr_eqI rfl Try.underlying3 rfl d131 rfl) rfl rfl d128 c203 rfl
                            · intro ρz wz hz hk hd
                              have d128 := hd 5 rfl 128 rfl
                              have d132 := hd 9 rfl 132 rfl
                              exact sk_val (v := .bool (decide ((List.length t204 : Int) = 0))) (by exact xr_pickT rfl d128 c203 d132) rfl rfl
                            · intro ρz wz hz hk hd
                              have d133 := hd 10 rfl 133 rfl
                              exact sk_val (v := .bool (decide ((List.length t204 : Int) = 0))) (by exact xr_move rfl d133) rfl rfl
                            · intro ρz wz hz hk hd
                              have d134 := hd 11 rfl 134 rfl
                              exact sk_gval (v := .pointer (some ⟨G29, 0, none⟩)) (by exact xr_move rfl ((hk 5 rfl).trans e5)) rfl rfl d134 c210 rfl
                            · intro ρz wz hz hk hd
                              have d135 := hd 12 rfl 135 rfl
                              have d134 := hd 11 rfl 134 rfl
                              refine sk_gop (by exact opv_call rfl cal33 (ac d135 an) (pmem_Device_Image.ok fu _ t186 G29 u189 (o190.gr hz).rd u193 (o194.gr hz).rd (b31.gr hz) _ k212)) rfl rfl d134 c210 ?_
                              rintro u213 wy ⟨_, o214, rfl, q216⟩
                              exact ⟨⟨u213, Own.base o214 ((Nat.le_trans fB.size hz.size)), rfl⟩, q216⟩
                            · intro ρz wz hz hk hd
                              obtain ⟨u213, o214, d136⟩ := hd 13 rfl 136 rfl
                              have d134 := hd 11 rfl 134 rfl
                              exact sk_gval (v := sv (List.map toB t211)) (by exact xr_toStr rfl Try.underlying43 Try.underlying5 Try.underlying9 d136 o214.rd) rfl rfl d134 c210 rfl
                            · intro ρz wz hz hk hd
                              have d134 := hd 11 rfl 134 rfl
                              exact sk_gval (v := u106) (by exact xr_move rfl ((hk 10 rfl).trans e10)) rfl rfl d134 c210 rfl
                            · intro ρz wz hz hk hd
                              have d138 := hd 15 rfl 138 rfl
                              have d134 := hd 11 rfl 134 rfl
                              exact sk_gval (v := sv (List.map toB t104)) (by exact xr_toStr rfl Try.underlying43 Try.underlying5 Try.underlying9 d138 (o107.gr hz).rd) rfl rfl d134 c210 rfl
                            · intro ρz wz hz hk hd
                              have d137 := hd 14 rfl 137 rfl
                              have d139 := hd 16 rfl 139 rfl
                              have d134 := hd 11 rfl 134 rfl
                              exact sk_gval (v := .bool (decide ((List.map toB t211) = (List.map toB t104)))) (by exact xr_eqStr rfl Try.underlying9 d137 d139) rfl rfl d134 c210 rfl
                            · intro ρz wz hz hk hd
                              have d134 := hd 11 rfl 134 rfl
                              have d140 := hd 17 rfl 140 rfl
                              exact sk_val (v := .bool (decide ((List.map toB t211) = (List.map toB t104)))) (by exact xr_pickT rfl d134 c210 d140) rfl rfl
                            · intro ρz wz hz hk hd
                              have d141 := hd 18 rfl 141 rfl
                              exact sk_val (v := .bool (decide ((List.map toB t211) = (List.map toB t104)))) (by exact xr_move rfl d141) rfl rfl
                            · intro ρz wz hz hk hd
                              have d142 := hd 19 rfl 142 rfl
                              exact sk_gval (v := .pointer (some ⟨G29, 0, none⟩)) (by exact xr_move rfl ((hk 5 rfl).trans e5)) rfl rfl d142 c217 rfl
                            · intro ρz wz hz hk hd
                              have d143 := hd 20 rfl 143 rfl
                              have d142 := hd 19 rfl 142 rfl
                              refine sk_gop (by exact opv_call rfl cal36 (ac d143 an) (pmem_Device_View.ok fu _ t186 G29 u189 (o190.gr hz).rd u193 (o194.gr hz).rd (b31.gr hz) _ k219)) rfl rfl d142 c217 ?_
                              rintro u220 wy ⟨_, o221, rfl, q223⟩
                              exact ⟨⟨u220, Own.base o221 ((Nat.le_trans fB.size hz.size)), rfl⟩, q223⟩
                            · intro ρz wz hz hk hd
                              obtain ⟨u220, o221, d144⟩ := hd 21 rfl 144 rfl
                              have d142 := hd 19 rfl 142 rfl
                              exact sk_gval (v := sv (List.map toB t218)) (by exact xr_toStr rfl Try.underlying43 Try.underlying5 Try.underlying9 d144 o221.rd) rfl rfl d142 c217 rfl
                            · intro ρz wz hz hk hd
                              have d142 := hd 19 rfl 142 rfl
                              exact sk_gval (v := u106) (by exact xr_move rfl ((hk 10 rfl).trans e10)) rfl rfl d142 c217 rfl
                            · intro ρz wz hz hk hd
                              have d146 := hd 23 rfl 146 rfl
                              have d142 := hd 19 rfl 142 rfl
                              exact sk_gval (v := sv (List.map toB t104)) (by exact xr_toStr rfl Try.underlying43 Try.underlying5 Try.underlying9 d146 (o107.gr hz).rd) rfl rfl d142 c217 rfl
                            · intro ρz wz hz hk hd
                              have d145 := hd 22 rfl 145 rfl
                              have d147 := hd 24 rfl 147 rfl
                              have d142 := hd 19 rfl 142 rfl
                              exact sk_gval (v := .bool (decide ((List.map toB t218) = (List.map toB t104)))) (by exact xr_eqStr rfl Try.underlying9 d145 d147) rfl rfl d142 c217 rfl
                            · intro ρz wz hz hk hd
                              have d142 := hd 19 rfl 142 rfl
                              have d148 := hd 25 rfl 148 rfl
                              exact sk_val (v := .bool (decide ((List.map toB t218) = (List.map toB t104)))) (by exact xr_pickT rfl d142 c217 d148) rfl rfl
                            · intro ρz wz hz hk hd
                              have d149 := hd 26 rfl 149 rfl
                              exact sk_val (v := .bool (decide ((List.map toB t218) = (List.map toB t104)))) (by exact xr_move rfl d149) rfl rfl
                            · intro ρz wz hz hk hd
                              have d150 := hd 27 rfl 150 rfl
                              exact sk_gval (v := .pointer (some ⟨G29, 0, none⟩)) (by exact xr_move rfl ((hk 5 rfl).trans e5)) rfl rfl d150 c224 rfl
                            · intro ρz wz hz hk hd
                              have d151 := hd 28 rfl 151 rfl
                              have d150 := hd 27 rfl 150 rfl
                              refine sk_gop (by exact opv_call rfl cal39 (ac d151 an) (pmem_Device_Up.ok fu _ t186 G29 u189 (o190.gr hz).rd u193 (o194.gr hz).rd (b31.gr hz) _ k226)) rfl rfl d150 c224 ?_
                              rintro _ wy ⟨rfl, q227⟩
                              exact ⟨rfl, q227⟩
                          · intro ρ228 w229 q230 hk hd
                            have e150 := hd 27 rfl 150 rfl
                            have e152 := hd 29 rfl 152 rfl
                            have fB := fB.gr q230
                            refine ol_val (v := .bool t225) (by exact xr_pickT rfl e150 c224 e152) rfl rfl rfl ?_
                            refine ol_val (v := .bool t225) (by exact xr_assign rfl rfl) rfl rfl rfl ?_
                            refine ol_nil ?_
                            obtain rfl := Option.some.inj j202
                            refine thn_i ?_
                            exact ⟨rfl, q230⟩
                        · skip
                          refine cw_drawL 30 [fun vz wz => vz = (u77 : Value), fun vz wz => vz = (sv (List.map toB x119) : Value), fun vz wz => vz = (u106 : Value), fun vz wz => vz = (sv (List.map toB t104) : Value), fun vz wz => vz = (.bool (decide ((List.map toB x119) = (List.map toB t104))) : Value), fun vz wz => vz = (.bool (decide ((List.map toB x119) = (List.map toB t104))) : Value), fun vz wz => vz = (.pointer (some ⟨G29, 0, none⟩) : Value), fun vz wz => ∃ u206 : Value, ∃ o207 : Own k_api_Fate 55 wz w.heap.size u206 t204, vz = (u206 : Value), fun vz wz => vz = (.int .i64 (List.length t204 : Int) : Value), fun vz wz => vz = (.bool (decide ((List.length t204 : Int) = 0)) : Value), fun vz wz => vz = (.bool (decide ((List.length t204 : Int) = 0)) : Value), fun vz wz => vz = (.bool (decide ((List.length t204 : Int) = 0)) : Value), fun vz wz => vz = (.pointer (some ⟨G29, 0, none⟩) : Value), fun vz wz => ∃ u213 : Value, ∃ o214 : Own (kI .u8) 5 wz w.heap.size u213 t211, vz = (u213 : Value), fun vz wz => vz = (sv (List.map toB t211) : Value), fun vz wz => vz = (u106 : Value), fun vz wz => vz = (sv (List.map toB t104) : Value), fun vz wz => vz = (.bool (decide ((List.map toB t211) = (List.map toB t104))) : Value), fun vz wz => vz = (.bool (decide ((List.map toB t211) = (List.map toB t104))) : Value), fun vz wz => vz = (.bool (decide ((List.map toB t211) = (List.map toB t104))) : Value), fun vz wz => vz = (.pointer (some ⟨G29, 0, none⟩) : Value), fun vz wz => ∃ u220 : Value, ∃ o221 : Own (kI .u8) 5 wz w.heap.size u220 t218, vz = (u220 : Value), fun vz wz => vz = (sv (List.map toB t218) : Value), fun vz wz => vz = (u106 : Value), fun vz wz => vz = (sv (List.map toB t104) : Value), fun vz wz => vz = (.bool (decide ((List.map toB t218) = (List.map toB t104))) : Value), fun vz wz => vz = (.bool (decide ((List.map toB t218) = (List.map toB t104))) : Value), fun vz wz => vz = (.bool (decide ((List.map toB t218) = (List.map toB t104))) : Value), fun vz _ => vz = undef, fun vz _ => vz = undef] mo rfl ⟨fun _ _ _ h _ => h, fun _ _ _ h _ => h, fun _ _ _ h _ => h, fun _ _ _ h _ => h, fun _ _ _ h _ => h, fun _ _ _ h _ => h, fun _ _ _ h _ => h, fun _ _ _ ⟨u206, o207, h⟩ q => ⟨u206, o207.gr q, h⟩, fun _ _ _ h _ => h, fun _ _ _ h _ => h, fun _ _ _ h _ => h, fun _ _ _ h _ => h, fun _ _ _ h _ => h, fun _ _ _ ⟨u213, o214, h⟩ q => ⟨u213, o214.gr q, h⟩, fun _ _ _ h _ => h, fun _ _ _ h _ => h, fun _ _ _ h _ => h, fun _ _ _ h _ => h, fun _ _ _ h _ => h, fun _ _ _ h _ => h, fun _ _ _ h _ => h, fun _ _ _ ⟨u220, o221, h⟩ q => ⟨u220, o221.gr q, h⟩, fun _ _ _ h _ => h, fun _ _ _ h _ => h, fun _ _ _ h _ => h, fun _ _ _ h _ => h, fun _ _ _ h _ => h, fun _ _ _ h _ => h, fun _ _ _ h _ => h, fun _ _ _ h _ => h, trivial⟩ ?_ ?_
                          · refine ⟨?_, ?_, ?_, ?_, ?_, ?_, ?_, ?_, ?_, ?_, ?_, ?_, ?_, ?_, ?_, ?_, ?_, ?_, ?_, ?_, ?_, ?_, ?_, ?_, ?_, ?_, ?_, ?_, ?_, ?_, trivial⟩
                            · intro ρz wz hz hk hd
                              exact sk_val (v := u77) (by exact xr_move rfl ((hk 8 rfl).trans e8)) rfl rfl
                            · intro ρz wz hz hk hd
                              have d123 := hd 0 rfl 123 rfl
                              exact sk_val (v := sv (List.map toB x119)) (by exact xr_toStr rfl Try.underlying43 Try.underlying5 Try.underlying9 d123 (o78.gr hz).rd) rfl rfl
                            · intro ρz wz hz hk hd
                              exact sk_val (v := u106) (by exact xr_move rfl ((hk 10 rfl).trans e10)) rfl rfl
                            · intro ρz wz hz hk hd
                              have d125 := hd 2 rfl 125 rfl
                              exact sk_val (v := sv (List.map toB t104)) (by exact xr_toStr rfl Try.underlying43 Try.underlying5 Try.underlying9 d125 (o107.gr hz).rd) rfl rfl
                            · intro ρz wz hz hk hd
                              have d124 := hd 1 rfl 124 rfl
                              have d126 := hd 3 rfl 126 rfl
                              exact sk_val (v := .bool (decide ((List.map toB x119) = (List.map toB t104)))) (by exact xr_eqStr rfl Try.underlying9 d124 d126) rfl rfl
                            · intro ρz wz hz hk hd
                              have d127 := hd 4 rfl 127 rfl
                              exact sk_val (v := .bool (decide ((List.map toB x119) = (List.map toB t104)))) (by exact xr_move rfl d127) rfl rfl
                            · intro ρz wz hz hk hd
                              have d128 := hd 5 rfl 128 rfl
                              exact sk_gval (v := .pointer (some ⟨G29, 0, none⟩)) (by exact xr_move rfl ((hk 5 rfl).trans e5)) rfl rfl d128 c203 rfl
                            · intro ρz wz hz hk hd
                              have d129 := hd 6 rfl 129 rfl
                              have d128 := hd 5 rfl 128 rfl
                              refine sk_gop (by exact opv_call rfl cal40 (ac d129 an) (pmem_Device_Fates.ok fu _ t186 G29 u189 (o190.gr hz).rd u193 (o194.gr hz).rd (b31.gr hz) _ k205)) rfl rfl d128 c203 ?_
                              rintro u206 wy ⟨_, o207, rfl, q209⟩
                              exact ⟨⟨u206, Own.base o207 ((Nat.le_trans fB.size hz.size)), rfl⟩, q209⟩
                            · intro ρz wz hz hk hd
                              obtain ⟨u206, o207, d130⟩ := hd 7 rfl 130 rfl
                              have d128 := hd 5 rfl 128 rfl
                              exact sk_gval (v := .int .i64 (List.length t204 : Int)) (by exact xr_lenR rfl Try.underlying52 d130 o207.rd) rfl rfl d128 c203 rfl
                            · intro ρz wz hz hk hd
                              have d131 := hd 8 rfl 131 rfl
                              have d128 := hd 5 rfl 128 rfl
                              exact sk_gval (v := .bool (decide ((List.length t204 : Int) = 0))) (by exact xr_eqI rfl Try.underlying3 rfl d131 rfl) rfl rfl d128 c203 rfl
                            · intro ρz wz hz hk hd
                              have d128 := hd 5 rfl 128 rfl
                              have d132 := hd 9 rfl 132 rfl
                              exact sk_val (v := .bool (decide ((List.length t204 : Int) = 0))) (by exact xr_pickT rfl d128 c203 d132) rfl rfl
                            · intro ρz wz hz hk hd
                              have d133 := hd 10 rfl 133 rfl
                              exact sk_val (v := .bool (decide ((List.length t204 : Int) = 0))) (by exact xr_move rfl d133) rfl rfl
                            · intro ρz wz hz hk hd
                              have d134 := hd 11 rfl 134 rfl
                              exact sk_gval (v := .pointer (some ⟨G29, 0, none⟩)) (by exact xr_move rfl ((hk 5 rfl).trans e5)) rfl rfl d134 c210 rfl
                            · intro ρz wz hz hk hd
                              have d135 := hd 12 rfl 135 rfl
                              have d134 := hd 11 rfl 134 rfl
                              refine sk_gop (by exact opv_call rfl cal33 (ac d135 an) (pmem_Device_Image.ok fu _ t186 G29 u189 (o190.gr hz).rd u193 (o194.gr hz).rd (b31.gr hz) _ k212)) rfl rfl d134 c210 ?_
                              rintro u213 wy ⟨_, o214, rfl, q216⟩
                              exact ⟨⟨u213, Own.base o214 ((Nat.le_trans fB.size hz.size)), rfl⟩, q216⟩
                            · intro ρz wz hz hk hd
                              obtain ⟨u213, o214, d136⟩ := hd 13 rfl 136 rfl
                              have d134 := hd 11 rfl 134 rfl
                              exact sk_gval (v := sv (List.map toB t211)) (by exact xr_toStr rfl Try.underlying43 Try.underlying5 Try.underlying9 d136 o214.rd) rfl rfl d134 c210 rfl
                            · intro ρz wz hz hk hd
                              have d134 := hd 11 rfl 134 rfl
                              exact sk_gval (v := u106) (by exact xr_move rfl ((hk 10 rfl).trans e10)) rfl rfl d134 c210 rfl
                            · intro ρz wz hz hk hd
                              have d138 := hd 15 rfl 138 rfl
                              have d134 := hd 11 rfl 134 rfl
                              exact sk_gval (v := sv (List.map toB t104)) (by exact xr_toStr rfl Try.underlying43 Try.underlying5 Try.underlying9 d138 (o107.gr hz).rd) rfl rfl d134 c210 rfl
                            · intro ρz wz hz hk hd
                              have d137 := hd 14 rfl 137 rfl
                              have d139 := hd 16 rfl 139 rfl
                              have d134 := hd 11 rfl 134 rfl
                              exact sk_gval (v := .bool (decide ((List.map toB t211) = (List.map toB t104)))) (by exact xr_eqStr rfl Try.underlying9 d137 d139) rfl rfl d134 c210 rfl
                            · intro ρz wz hz hk hd
                              have d134 := hd 11 rfl 134 rfl
                              have d140 := hd 17 rfl 140 rfl
                              exact sk_val (v := .bool (decide ((List.map toB t211) = (List.map toB t104)))) (by exact xr_pickT rfl d134 c210 d140) rfl rfl
                            · intro ρz wz hz hk hd
                              have d141 := hd 18 rfl 141 rfl
                              exact sk_val (v := .bool (decide ((List.map toB t211) = (List.map toB t104)))) (by exact xr_move rfl d141) rfl rfl
                            · intro ρz wz hz hk hd
                              have d142 := hd 19 rfl 142 rfl
                              exact sk_gval (v := .pointer (some ⟨G29, 0, none⟩)) (by exact xr_move rfl ((hk 5 rfl).trans e5)) rfl rfl d142 c217 rfl
                            · intro ρz wz hz hk hd
                              have d143 := hd 20 rfl 143 rfl
                              have d142 := hd 19 rfl 142 rfl
                              refine sk_gop (by exact opv_call rfl cal36 (ac d143 an) (pmem_Device_View.ok fu _ t186 G29 u189 (o190.gr hz).rd u193 (o194.gr hz).rd (b31.gr hz) _ k219)) rfl rfl d142 c217 ?_
                              rintro u220 wy ⟨_, o221, rfl, q223⟩
                              exact ⟨⟨u220, Own.base o221 ((Nat.le_trans fB.size hz.size)), rfl⟩, q223⟩
                            · intro ρz wz hz hk hd
                              obtain ⟨u220, o221, d144⟩ := hd 21 rfl 144 rfl
                              have d142 := hd 19 rfl 142 rfl
                              exact sk_gval (v := sv (List.map toB t218)) (by exact xr_toStr rfl Try.underlying43 Try.underlying5 Try.underlying9 d144 o221.rd) rfl rfl d142 c217 rfl
                            · intro ρz wz hz hk hd
                              have d142 := hd 19 rfl 142 rfl
                              exact sk_gval (v := u106) (by exact xr_move rfl ((hk 10 rfl).trans e10)) rfl rfl d142 c217 rfl
                            · intro ρz wz hz hk hd
                              have d146 := hd 23 rfl 146 rfl
                              have d142 := hd 19 rfl 142 rfl
                              exact sk_gval (v := sv (List.map toB t104)) (by exact xr_toStr rfl Try.underlying43 Try.underlying5 Try.underlying9 d146 (o107.gr hz).rd) rfl rfl d142 c217 rfl
                            · intro ρz wz hz hk hd
                              have d145 := hd 22 rfl 145 rfl
                              have d147 := hd 24 rfl 147 rfl
                              have d142 := hd 19 rfl 142 rfl
                              exact sk_gval (v := .bool (decide ((List.map toB t218) = (List.map toB t104)))) (by exact xr_eqStr rfl Try.underlying9 d145 d147) rfl rfl d142 c217 rfl
                            · intro ρz wz hz hk hd
                              have d142 := hd 19 rfl 142 rfl
                              have d148 := hd 25 rfl 148 rfl
                              exact sk_val (v := .bool (decide ((List.map toB t218) = (List.map toB t104)))) (by exact xr_pickT rfl d142 c217 d148) rfl rfl
                            · intro ρz wz hz hk hd
                              have d149 := hd 26 rfl 149 rfl
                              exact sk_val (v := .bool (decide ((List.map toB t218) = (List.map toB t104)))) (by exact xr_move rfl d149) rfl rfl
                            · intro ρz wz hz hk hd
                              have d150 := hd 27 rfl 150 rfl
                              exact sk_skip rfl rfl d150 c224 rfl
                            · intro ρz wz hz hk hd
                              have d150 := hd 27 rfl 150 rfl
                              exact sk_skip rfl rfl d150 c224 rfl
                          · intro ρ231 w232 q233 hk hd
                            have e150 := hd 27 rfl 150 rfl
                            have fB := fB.gr q233
                            refine ol_val (v := .bool false) (by exact xr_pickF rfl e150 c224 rfl) rfl rfl rfl ?_
                            refine ol_val (v := .bool false) (by exact xr_assign rfl rfl) rfl rfl rfl ?_
                            refine ol_nil ?_
                            obtain rfl := Option.some.inj j202
                            refine thn_i ?_
                            exact ⟨rfl, q233⟩
                      · skip
                        refine cw_drawL 30 [fun vz wz => vz = (u77 : Value), fun vz wz => vz = (sv (List.map toB x119) : Value), fun vz wz => vz = (u106 : Value), fun vz wz => vz = (sv (List.map toB t104) : Value), fun vz wz => vz = (.bool (decide ((List.map toB x119) = (List.map toB t104))) : Value), fun vz wz => vz = (.bool (decide ((List.map toB x119) = (List.map toB t104))) : Value), fun vz wz => vz = (.pointer (some ⟨G29, 0, none⟩) : Value), fun vz wz => ∃ u206 : Value, ∃ o207 : Own k_api_Fate 55 wz w.heap.size u206 t204, vz = (u206 : Value), fun vz wz => vz = (.int .i64 (List.length t204 : Int) : Value), fun vz wz => vz = (.bool (decide ((List.length t204 : Int) = 0)) : Value), fun vz wz => vz = (.bool (decide ((List.length t204 : Int) = 0)) : Value), fun vz wz => vz = (.bool (decide ((List.length t204 : Int) = 0)) : Value), fun vz wz => vz = (.pointer (some ⟨G29, 0, none⟩) : Value), fun vz wz => ∃ u213 : Value, ∃ o214 : Own (kI .u8) 5 wz w.heap.size u213 t211, vz = (u213 : Value), fun vz wz => vz = (sv (List.map toB t211) : Value), fun vz wz => vz = (u106 : Value), fun vz wz => vz = (sv (List.map toB t104) : Value), fun vz wz => vz = (.bool (decide ((List.map toB t211) = (List.map toB t104))) : Value), fun vz wz => vz = (.bool (decide ((List.map toB t211) = (List.map toB t104))) : Value), fun vz wz => vz = (.bool (decide ((List.map toB t211) = (List.map toB t104))) : Value), fun vz _ => vz = undef, fun vz _ => vz = undef, fun vz _ => vz = undef, fun vz _ => vz = undef, fun vz _ => vz = undef, fun vz _ => vz = undef, fun vz wz => vz = (.bool false : Value), fun vz wz => vz = (.bool false : Value), fun vz _ => vz = undef, fun vz _ => vz = undef] mo rfl ⟨fun _ _ _ h _ => h, fun _ _ _ h _ => h, fun _ _ _ h _ => h, fun _ _ _ h _ => h, fun _ _ _ h _ => h, fun _ _ _ h _ => h, fun _ _ _ h _ => h, fun _ _ _ ⟨u206, o207, h⟩ q => ⟨u206, o207.gr q, h⟩, fun _ _ _ h _ => h, fun _ _ _ h _ => h, fun _ _ _ h _ => h, fun _ _ _ h _ => h, fun _ _ _ h _ => h, fun _ _ _ ⟨u213, o214, h⟩ q => ⟨u213, o214.gr q, h⟩, fun _ _ _ h _ => h, fun _ _ _ h _ => h, fun _ _ _ h _ => h, fun _ _ _ h _ => h, fun _ _ _ h _ => h, fun _ _ _ h _ => h, fun _ _ _ h _ => h, fun _ _ _ h _ => h, fun _ _ _ h _ => h, fun _ _ _ h _ => h, fun _ _ _ h _ => h, fun _ _ _ h _ => h, fun _ _ _ h _ => h, fun _ _ _ h _ => h, fun _ _ _ h _ => h, fun _ _ _ h _ => h, trivial⟩ ?_ ?_
                        · refine ⟨?_, ?_, ?_, ?_, ?_, ?_, ?_, ?_, ?_, ?_, ?_, ?_, ?_, ?_, ?_, ?_, ?_, ?_, ?_, ?_, ?_, ?_, ?_, ?_, ?_, ?_, ?_, ?_, ?_, ?_, trivial⟩
                          · intro ρz wz hz hk hd
                            exact sk_val (v := u77) (by exact xr_move rfl ((hk 8 rfl).trans e8)) rfl rfl
                          · intro ρz wz hz hk hd
                            have d123 := hd 0 rfl 123 rfl
                            exact sk_val (v := sv (List.map toB x119)) (by exact xr_toStr rfl Try.underlying43 Try.underlying5 Try.underlying9 d123 (o78.gr hz).rd) rfl rfl
                          · intro ρz wz hz hk hd
                            exact sk_val (v := u106) (by exact xr_move rfl ((hk 10 rfl).trans e10)) rfl rfl
                          · intro ρz wz hz hk hd
                            have d125 := hd 2 rfl 125 rfl
                            exact sk_val (v := sv (List.map toB t104)) (by exact xr_toStr rfl Try.underlying43 Try.underlying5 Try.underlying9 d125 (o107.gr hz).rd) rfl rfl
                          · intro ρz wz hz hk hd
                            have d124 := hd 1 rfl 124 rfl
                            have d126 := hd 3 rfl 126 rfl
                            exact sk_val (v := .bool (decide ((List.map toB x119) = (List.map toB t104)))) (by exact xr_eqStr rfl Try.underlying9 d124 d126) rfl rfl
                          · intro ρz wz hz hk hd
                            have d127 := hd 4 rfl 127 rfl
                            exact sk_val (v := .bool (decide ((List.map toB x119) = (List.map toB t104)))) (by exact xr_move rfl d127) rfl rfl
                          · intro ρz wz hz hk hd
                            have d128 := hd 5 rfl 128 rfl
                            exact sk_gval (v := .pointer (some ⟨G29, 0, none⟩)) (by exact xr_move rfl ((hk 5 rfl).trans e5)) rfl rfl d128 c203 rfl
                          · intro ρz wz hz hk hd
                            have d129 := hd 6 rfl 129 rfl
                            have d128 := hd 5 rfl 128 rfl
                            refine sk_gop (by exact opv_call rfl cal40 (ac d129 an) (pmem_Device_Fates.ok fu _ t186 G29 u189 (o190.gr hz).rd u193 (o194.gr hz).rd (b31.gr hz) _ k205)) rfl rfl d128 c203 ?_
                            rintro u206 wy ⟨_, o207, rfl, q209⟩
                            exact ⟨⟨u206, Own.base o207 ((Nat.le_trans fB.size hz.size)), rfl⟩, q209⟩
                          · intro ρz wz hz hk hd
                            obtain ⟨u206, o207, d130⟩ := hd 7 rfl 130 rfl
                            have d128 := hd 5 rfl 128 rfl
                            exact sk_gval (v := .int .i64 (List.length t204 : Int)) (by exact xr_lenR rfl Try.underlying52 d130 o207.rd) rfl rfl d128 c203 rfl
                          · intro ρz wz hz hk hd
                            have d131 := hd 8 rfl 131 rfl
                            have d128 := hd 5 rfl 128 rfl
                            exact sk_gval (v := .bool (decide ((List.length t204 : Int) = 0))) (by exact xr_eqI rfl Try.underlying3 rfl d131 rfl) rfl rfl d128 c203 rfl
                          · intro ρz wz hz hk hd
                            have d128 := hd 5 rfl 128 rfl
                            have d132 := hd 9 rfl 132 rfl
                            exact sk_val (v := .bool (decide ((List.length t204 : Int) = 0))) (by exact xr_pickT rfl d128 c203 d132) rfl rfl
                          · intro ρz wz hz hk hd
                            have d133 := hd 10 rfl 133 rfl
                            exact sk_val (v := .bool (decide ((List.length t204 : Int) = 0))) (by exact xr_move rfl d133) rfl rfl
                          · intro ρz wz hz hk hd
                            have d134 := hd 11 rfl 134 rfl
                            exact sk_gval (v := .pointer (some ⟨G29, 0, none⟩)) (by exact xr_move rfl ((hk 5 rfl).trans e5)) rfl rfl d134 c210 rfl
                          · intro ρz wz hz hk hd
                            have d135 := hd 12 rfl 135 rfl
                            have d134 := hd 11 rfl 134 rfl
                            refine sk_gop (by exact opv_call rfl cal33 (ac d135 an) (pmem_Device_Image.ok fu _ t186 G29 u189 (o190.gr hz).rd u193 (o194.gr hz).rd (b31.gr hz) _ k212)) rfl rfl d134 c210 ?_
                            rintro u213 wy ⟨_, o214, rfl, q216⟩
                            exact ⟨⟨u213, Own.base o214 ((Nat.le_trans fB.size hz.size)), rfl⟩, q216⟩
                          · intro ρz wz hz hk hd
                            obtain ⟨u213, o214, d136⟩ := hd 13 rfl 136 rfl
                            have d134 := hd 11 rfl 134 rfl
                            exact sk_gval (v := sv (List.map toB t211)) (by exact xr_toStr rfl Try.underlying43 Try.underlying5 Try.underlying9 d136 o214.rd) rfl rfl d134 c210 rfl
                          · intro ρz wz hz hk hd
                            have d134 := hd 11 rfl 134 rfl
                            exact sk_gval (v := u106) (by exact xr_move rfl ((hk 10 rfl).trans e10)) rfl rfl d134 c210 rfl
                          · intro ρz wz hz hk hd
                            have d138 := hd 15 rfl 138 rfl
                            have d134 := hd 11 rfl 134 rfl
                            exact sk_gval (v := sv (List.map toB t104)) (by exact xr_toStr rfl Try.underlying43 Try.underlying5 Try.underlying9 d138 (o107.gr hz).rd) rfl rfl d134 c210 rfl
                          · intro ρz wz hz hk hd
                            have d137 := hd 14 rfl 137 rfl
                            have d139 := hd 16 rfl 139 rfl
                            have d134 := hd 11 rfl 134 rfl
                            exact sk_gval (v := .bool (decide ((List.map toB t211) = (List.map toB t104)))) (by exact xr_eqStr rfl Try.underlying9 d137 d139) rfl rfl d134 c210 rfl
                          · intro ρz wz hz hk hd
                            have d134 := hd 11 rfl 134 rfl
                            have d140 := hd 17 rfl 140 rfl
                            exact sk_val (v := .bool (decide ((List.map toB t211) = (List.map toB t104)))) (by exact xr_pickT rfl d134 c210 d140) rfl rfl
                          · intro ρz wz hz hk hd
                            have d141 := hd 18 rfl 141 rfl
                            exact sk_val (v := .bool (decide ((List.map toB t211) = (List.map toB t104)))) (by exact xr_move rfl d141) rfl rfl
                          · intro ρz wz hz hk hd
                            have d142 := hd 19 rfl 142 rfl
                            exact sk_skip rfl rfl d142 c217 rfl
                          · intro ρz wz hz hk hd
                            have d142 := hd 19 rfl 142 rfl
                            exact sk_skip rfl rfl d142 c217 rfl
                          · intro ρz wz hz hk hd
                            have d142 := hd 19 rfl 142 rfl
                            exact sk_skip rfl rfl d142 c217 rfl
                          · intro ρz wz hz hk hd
                            have d142 := hd 19 rfl 142 rfl
                            exact sk_skip rfl rfl d142 c217 rfl
                          · intro ρz wz hz hk hd
                            have d142 := hd 19 rfl 142 rfl
                            exact sk_skip rfl rfl d142 c217 rfl
                          · intro ρz wz hz hk hd
                            have d142 := hd 19 rfl 142 rfl
                            exact sk_skip rfl rfl d142 c217 rfl
                          · intro ρz wz hz hk hd
                            have d142 := hd 19 rfl 142 rfl
                            exact sk_val (v := .bool false) (by exact xr_pickF rfl d142 c217 rfl) rfl rfl
                          · intro ρz wz hz hk hd
                            have d149 := hd 26 rfl 149 rfl
                            exact sk_val (v := .bool false) (by exact xr_move rfl d149) rfl rfl
                          · intro ρz wz hz hk hd
                            have d150 := hd 27 rfl 150 rfl
                            exact sk_skip rfl rfl d150 rfl rfl
                          · intro ρz wz hz hk hd
                            have d150 := hd 27 rfl 150 rfl
                            exact sk_skip rfl rfl d150 rfl rfl
                        · intro ρ234 w235 q236 hk hd
                          have e150 := hd 27 rfl 150 rfl
                          have fB := fB.gr q236
                          refine ol_val (v := .bool false) (by exact xr_pickF rfl e150 rfl rfl) rfl rfl rfl ?_
                          refine ol_val (v := .bool false) (by exact xr_assign rfl rfl) rfl rfl rfl ?_
                          refine ol_nil ?_
                          obtain rfl := Option.some.inj j202
                          refine thn_i ?_
                          exact ⟨rfl, q236⟩
                    · skip
                      refine cw_drawL 30 [fun vz wz => vz = (u77 : Value), fun vz wz => vz = (sv (List.map toB x119) : Value), fun vz wz => vz = (u106 : Value), fun vz wz => vz = (sv (List.map toB t104) : Value), fun vz wz => vz = (.bool (decide ((List.map toB x119) = (List.map toB t104))) : Value), fun vz wz => vz = (.bool (decide ((List.map toB x119) = (List.map toB t104))) : Value), fun vz wz => vz = (.pointer (some ⟨G29, 0, none⟩) : Value), fun vz wz => ∃ u206 : Value, ∃ o207 : Own k_api_Fate 55 wz w.heap.size u206 t204, vz = (u206 : Value), fun vz wz => vz = (.int .i64 (List.length t204 : Int) : Value), fun vz wz => vz = (.bool (decide ((List.length t204 : Int) = 0)) : Value), fun vz wz => vz = (.bool (decide ((List.length t204 : Int) = 0)) : Value), fun vz wz => vz = (.bool (decide ((List.length t204 : Int) = 0)) : Value), fun vz _ => vz = undef, fun vz _ => vz = undef, fun vz _ => vz = undef, fun vz _ => vz = undef, fun vz _ => vz = undef, fun vz _ => vz = undef, fun vz wz => vz = (.bool false : Value), fun vz wz => vz = (.bool false : Value), fun vz _ => vz = undef, fun vz _ => vz = undef, fun vz _ => vz = undef, fun vz _ => vz = undef, fun vz _ => vz = undef, fun vz _ => vz = undef, fun vz wz => vz = (.bool false : Value), fun vz wz => vz = (.bool false : Value), fun vz _ => vz = undef, fun vz _ => vz = undef] mo rfl ⟨fun _ _ _ h _ => h, fun _ _ _ h _ => h, fun _ _ _ h _ => h, fun _ _ _ h _ => h, fun _ _ _ h _ => h, fun _ _ _ h _ => h, fun _ _ _ h _ => h, fun _ _ _ ⟨u206, o207, h⟩ q => ⟨u206, o207.gr q, h⟩, fun _ _ _ h _ => h, fun _ _ _ h _ => h, fun _ _ _ h _ => h, fun _ _ _ h _ => h, fun _ _ _ h _ => h, fun _ _ _ h _ => h, fun _ _ _ h _ => h, fun _ _ _ h _ => h, fun _ _ _ h _ => h, fun _ _ _ h _ => h, fun _ _ _ h _ => h, fun _ _ _ h _ => h, fun _ _ _ h _ => h, fun _ _ _ h _ => h, fun _ _ _ h _ => h, fun _ _ _ h _ => h, fun _ _ _ h _ => h, fun _ _ _ h _ => h, fun _ _ _ h _ => h, fun _ _ _ h _ => h, fun _ _ _ h _ => h, fun _ _ _ h _ => h, trivial⟩ ?_ ?_
                      · refine ⟨?_, ?_, ?_, ?_, ?_, ?_, ?_, ?_, ?_, ?_, ?_, ?_, ?_, ?_, ?_, ?_, ?_, ?_, ?_, ?_, ?_, ?_, ?_, ?_, ?_, ?_, ?_, ?_, ?_, ?_, trivial⟩
                        · intro ρz wz hz hk hd
                          exact sk_val (v := u77) (by exact xr_move rfl ((hk 8 rfl).trans e8)) rfl rfl
                        · intro ρz wz hz hk hd
                          have d123 := hd 0 rfl 123 rfl
                          exact sk_val (v := sv (List.map toB x119)) (by exact xr_toStr rfl Try.underlying43 Try.underlying5 Try.underlying9 d123 (o78.gr hz).rd) rfl rfl
                        · intro ρz wz hz hk hd
                          exact sk_val (v := u106) (by exact xr_move rfl ((hk 10 rfl).trans e10)) rfl rfl
                        · intro ρz wz hz hk hd
                          have d125 := hd 2 rfl 125 rfl
                          exact sk_val (v := sv (List.map toB t104)) (by exact xr_toStr rfl Try.underlying43 Try.underlying5 Try.underlying9 d125 (o107.gr hz).rd) rfl rfl
                        · intro ρz wz hz hk hd
                          have d124 := hd 1 rfl 124 rfl
                          have d126 := hd 3 rfl 126 rfl
                          exact sk_val (v := .bool (decide ((List.map toB x119) = (List.map toB t104)))) (by exact xr_eqStr rfl Try.underlying9 d124 d126) rfl rfl
                        · intro ρz wz hz hk hd
                          have d127 := hd 4 rfl 127 rfl
                          exact sk_val (v := .bool (decide ((List.map toB x119) = (List.map toB t104)))) (by exact xr_move rfl d127) rfl rfl
                        · intro ρz wz hz hk hd
                          have d128 := hd 5 rfl 128 rfl
                          exact sk_gval (v := .pointer (some ⟨G29, 0, none⟩)) (by exact xr_move rfl ((hk 5 rfl).trans e5)) rfl rfl d128 c203 rfl
                        · intro ρz wz hz hk hd
                          have d129 := hd 6 rfl 129 rfl
                          have d128 := hd 5 rfl 128 rfl
                          refine sk_gop (by exact opv_call rfl cal40 (ac d129 an) (pmem_Device_Fates.ok fu _ t186 G29 u189 (o190.gr hz).rd u193 (o194.gr hz).rd (b31.gr hz) _ k205)) rfl rfl d128 c203 ?_
                          rintro u206 wy ⟨_, o207, rfl, q209⟩
                          exact ⟨⟨u206, Own.base o207 ((Nat.le_trans fB.size hz.size)), rfl⟩, q209⟩
                        · intro ρz wz hz hk hd
                          obtain ⟨u206, o207, d130⟩ := hd 7 rfl 130 rfl
                          have d128 := hd 5 rfl 128 rfl
                          exact sk_gval (v := .int .i64 (List.length t204 : Int)) (by exact xr_lenR rfl Try.underlying52 d130 o207.rd) rfl rfl d128 c203 rfl
                        · intro ρz wz hz hk hd
                          have d131 := hd 8 rfl 131 rfl
                          have d128 := hd 5 rfl 128 rfl
                          exact sk_gval (v := .bool (decide ((List.length t204 : Int) = 0))) (by exact xr_eqI rfl Try.underlying3 rfl d131 rfl) rfl rfl d128 c203 rfl
                        · intro ρz wz hz hk hd
                          have d128 := hd 5 rfl 128 rfl
                          have d132 := hd 9 rfl 132 rfl
                          exact sk_val (v := .bool (decide ((List.length t204 : Int) = 0))) (by exact xr_pickT rfl d128 c203 d132) rfl rfl
                        · intro ρz wz hz hk hd
                          have d133 := hd 10 rfl 133 rfl
                          exact sk_val (v := .bool (decide ((List.length t204 : Int) = 0))) (by exact xr_move rfl d133) rfl rfl
                        · intro ρz wz hz hk hd
                          have d134 := hd 11 rfl 134 rfl
                          exact sk_skip rfl rfl d134 c210 rfl
                        · intro ρz wz hz hk hd
                          have d134 := hd 11 rfl 134 rfl
                          exact sk_skip rfl rfl d134 c210 rfl
                        · intro ρz wz hz hk hd
                          have d134 := hd 11 rfl 134 rfl
                          exact sk_skip rfl rfl d134 c210 rfl
                        · intro ρz wz hz hk hd
                          have d134 := hd 11 rfl 134 rfl
                          exact sk_skip rfl rfl d134 c210 rfl
                        · intro ρz wz hz hk hd
                          have d134 := hd 11 rfl 134 rfl
                          exact sk_skip rfl rfl d134 c210 rfl
                        · intro ρz wz hz hk hd
                          have d134 := hd 11 rfl 134 rfl
                          exact sk_skip rfl rfl d134 c210 rfl
                        · intro ρz wz hz hk hd
                          have d134 := hd 11 rfl 134 rfl
                          exact sk_val (v := .bool false) (by exact xr_pickF rfl d134 c210 rfl) rfl rfl
                        · intro ρz wz hz hk hd
                          have d141 := hd 18 rfl 141 rfl
                          exact sk_val (v := .bool false) (by exact xr_move rfl d141) rfl rfl
                        · intro ρz wz hz hk hd
                          have d142 := hd 19 rfl 142 rfl
                          exact sk_skip rfl rfl d142 rfl rfl
                        · intro ρz wz hz hk hd
                          have d142 := hd 19 rfl 142 rfl
                          exact sk_skip rfl rfl d142 rfl rfl
                        · intro ρz wz hz hk hd
                          have d142 := hd 19 rfl 142 rfl
                          exact sk_skip rfl rfl d142 rfl rfl
                        · intro ρz wz hz hk hd
                          have d142 := hd 19 rfl 142 rfl
                          exact sk_skip rfl rfl d142 rfl rfl
                        · intro ρz wz hz hk hd
                          have d142 := hd 19 rfl 142 rfl
                          exact sk_skip rfl rfl d142 rfl rfl
                        · intro ρz wz hz hk hd
                          have d142 := hd 19 rfl 142 rfl
                          exact sk_skip rfl rfl d142 rfl rfl
                        · intro ρz wz hz hk hd
                          have d142 := hd 19 rfl 142 rfl
                          exact sk_val (v := .bool false) (by exact xr_pickF rfl d142 rfl rfl) rfl rfl
                        · intro ρz wz hz hk hd
                          have d149 := hd 26 rfl 149 rfl
                          exact sk_val (v := .bool false) (by exact xr_move rfl d149) rfl rfl
                        · intro ρz wz hz hk hd
                          have d150 := hd 27 rfl 150 rfl
                          exact sk_skip rfl rfl d150 rfl rfl
                        · intro ρz wz hz hk hd
                          have d150 := hd 27 rfl 150 rfl
                          exact sk_skip rfl rfl d150 rfl rfl
                      · intro ρ237 w238 q239 hk hd
                        have e150 := hd 27 rfl 150 rfl
                        have fB := fB.gr q239
                        refine ol_val (v := .bool false) (by exact xr_pickF rfl e150 rfl rfl) rfl rfl rfl ?_
                        refine ol_val (v := .bool false) (by exact xr_assign rfl rfl) rfl rfl rfl ?_
                        refine ol_nil ?_
                        obtain rfl := Option.some.inj j202
                        refine thn_i ?_
                        exact ⟨rfl, q239⟩
                  · skip
                    refine cw_drawL 30 [fun vz wz => vz = (u77 : Value), fun vz wz => vz = (sv (List.map toB x119) : Value), fun vz wz => vz = (u106 : Value), fun vz wz => vz = (sv (List.map toB t104) : Value), fun vz wz => vz = (.bool (decide ((List.map toB x119) = (List.map toB t104))) : Value), fun vz wz => vz = (.bool (decide ((List.map toB x119) = (List.map toB t104))) : Value), fun vz _ => vz = undef, fun vz _ => vz = undef, fun vz _ => vz = undef, fun vz _ => vz = undef, fun vz wz => vz = (.bool false : Value), fun vz wz => vz = (.bool false : Value), fun vz _ => vz = undef, fun vz _ => vz = undef, fun vz _ => vz = undef, fun vz _ => vz = undef, fun vz _ => vz = undef, fun vz _ => vz = undef, fun vz wz => vz = (.bool false : Value), fun vz wz => vz = (.bool false : Value), fun vz _ => vz = undef, fun vz _ => vz = undef, fun vz _ => vz = undef, fun vz _ => vz = undef, fun vz _ => vz = undef, fun vz _ => vz = undef, fun vz wz => vz = (.bool false : Value), fun vz wz => vz = (.bool false : Value), fun vz _ => vz = undef, fun vz _ => vz = undef] mo rfl ⟨fun _ _ _ h _ => h, fun _ _ _ h _ => h, fun _ _ _ h _ => h, fun _ _ _ h _ => h, fun _ _ _ h _ => h, fun _ _ _ h _ => h, fun _ _ _ h _ => h, fun _ _ _ h _ => h, fun _ _ _ h _ => h, fun _ _ _ h _ => h, fun _ _ _ h _ => h, fun _ _ _ h _ => h, fun _ _ _ h _ => h, fun _ _ _ h _ => h, fun _ _ _ h _ => h, fun _ _ _ h _ => h, fun _ _ _ h _ => h, fun _ _ _ h _ => h, fun _ _ _ h _ => h, fun _ _ _ h _ => h, fun _ _ _ h _ => h, fun _ _ _ h _ => h, fun _ _ _ h _ => h, fun _ _ _ h _ => h, fun _ _ _ h _ => h, fun _ _ _ h _ => h, fun _ _ _ h _ => h, fun _ _ _ h _ => h, fun _ _ _ h _ => h, fun _ _ _ h _ => h, trivial⟩ ?_ ?_
                    · refine ⟨?_, ?_, ?_, ?_, ?_, ?_, ?_, ?_, ?_, ?_, ?_, ?_, ?_, ?_, ?_, ?_, ?_, ?_, ?_, ?_, ?_, ?_, ?_, ?_, ?_, ?_, ?_, ?_, ?_, ?_, trivial⟩
                      · intro ρz wz hz hk hd
                        exact sk_val (v := u77) (by exact xr_move rfl ((hk 8 rfl).trans e8)) rfl rfl
                      · intro ρz wz hz hk hd
                        have d123 := hd 0 rfl 123 rfl
                        exact sk_val (v := sv (List.map toB x119)) (by exact xr_toStr rfl Try.underlying43 Try.underlying5 Try.underlying9 d123 (o78.gr hz).rd) rfl rfl
                      · intro ρz wz hz hk hd
                        exact sk_val (v := u106) (by exact xr_move rfl ((hk 10 rfl).trans e10)) rfl rfl
                      · intro ρz wz hz hk hd
                        have d125 := hd 2 rfl 125 rfl
                        exact sk_val (v := sv (List.map toB t104)) (by exact xr_toStr rfl Try.underlying43 Try.underlying5 Try.underlying9 d125 (o107.gr hz).rd) rfl rfl
                      · intro ρz wz hz hk hd
                        have d124 := hd 1 rfl 124 rfl
                        have d126 := hd 3 rfl 126 rfl
                        exact sk_val (v := .bool (decide ((List.map toB x119) = (List.map toB t104)))) (by exact xr_eqStr rfl Try.underlying9 d124 d126) rfl rfl
                      · intro ρz wz hz hk hd
                        have d127 := hd 4 rfl 127 rfl
                        exact sk_val (v := .bool (decide ((List.map toB x119) = (List.map toB t104)))) (by exact xr_move rfl d127) rfl rfl
                      · intro ρz wz hz hk hd
                        have d128 := hd 5 rfl 128 rfl
                        exact sk_skip rfl rfl d128 c203 rfl
                      · intro ρz wz hz hk hd
                        have d128 := hd 5 rfl 128 rfl
                        exact sk_skip rfl rfl d128 c203 rfl
                      · intro ρz wz hz hk hd
                        have d128 := hd 5 rfl 128 rfl
                        exact sk_skip rfl rfl d128 c203 rfl
                      · intro ρz wz hz hk hd
                        have d128 := hd 5 rfl 128 rfl
                        exact sk_skip rfl rfl d128 c203 rfl
                      · intro ρz wz hz hk hd
                        have d128 := hd 5 rfl 128 rfl
                        exact sk_val (v := .bool false) (by exact xr_pickF rfl d128 c203 rfl) rfl rfl
                      · intro ρz wz hz hk hd
                        have d133 := hd 10 rfl 133 rfl
                        exact sk_val (v := .bool false) (by exact xr_move rfl d133) rfl rfl
                      · intro ρz wz hz hk hd
                        have d134 := hd 11 rfl 134 rfl
                        exact sk_skip rfl rfl d134 rfl rfl
                      · intro ρz wz hz hk hd
                        have d134 := hd 11 rfl 134 rfl
                        exact sk_skip rfl rfl d134 rfl rfl
                      · intro ρz wz hz hk hd
                        have d134 := hd 11 rfl 134 rfl
                        exact sk_skip rfl rfl d134 rfl rfl
                      · intro ρz wz hz hk hd
                        have d134 := hd 11 rfl 134 rfl
                        exact sk_skip rfl rfl d134 rfl rfl
                      · intro ρz wz hz hk hd
                        have d134 := hd 11 rfl 134 rfl
                        exact sk_skip rfl rfl d134 rfl rfl
                      · intro ρz wz hz hk hd
                        have d134 := hd 11 rfl 134 rfl
                        exact sk_skip rfl rfl d134 rfl rfl
                      · intro ρz wz hz hk hd
                        have d134 := hd 11 rfl 134 rfl
                        exact sk_val (v := .bool false) (by exact xr_pickF rfl d134 rfl rfl) rfl rfl
                      · intro ρz wz hz hk hd
                        have d141 := hd 18 rfl 141 rfl
                        exact sk_val (v := .bool false) (by exact xr_move rfl d141) rfl rfl
                      · intro ρz wz hz hk hd
                        have d142 := hd 19 rfl 142 rfl
                        exact sk_skip rfl rfl d142 rfl rfl
                      · intro ρz wz hz hk hd
                        have d142 := hd 19 rfl 142 rfl
                        exact sk_skip rfl rfl d142 rfl rfl
                      · intro ρz wz hz hk hd
                        have d142 := hd 19 rfl 142 rfl
                        exact sk_skip rfl rfl d142 rfl rfl
                      · intro ρz wz hz hk hd
                        have d142 := hd 19 rfl 142 rfl
                        exact sk_skip rfl rfl d142 rfl rfl
                      · intro ρz wz hz hk hd
                        have d142 := hd 19 rfl 142 rfl
                        exact sk_skip rfl rfl d142 rfl rfl
                      · intro ρz wz hz hk hd
                        have d142 := hd 19 rfl 142 rfl
                        exact sk_skip rfl rfl d142 rfl rfl
                      · intro ρz wz hz hk hd
                        have d142 := hd 19 rfl 142 rfl
                        exact sk_val (v := .bool false) (by exact xr_pickF rfl d142 rfl rfl) rfl rfl
                      · intro ρz wz hz hk hd
                        have d149 := hd 26 rfl 149 rfl
                        exact sk_val (v := .bool false) (by exact xr_move rfl d149) rfl rfl
                      · intro ρz wz hz hk hd
                        have d150 := hd 27 rfl 150 rfl
                        exact sk_skip rfl rfl d150 rfl rfl
                      · intro ρz wz hz hk hd
                        have d150 := hd 27 rfl 150 rfl
                        exact sk_skip rfl rfl d150 rfl rfl
                    · intro ρ240 w241 q242 hk hd
                      have e150 := hd 27 rfl 150 rfl
                      have fB := fB.gr q242
                      refine ol_val (v := .bool false) (by exact xr_pickF rfl e150 rfl rfl) rfl rfl rfl ?_
                      refine ol_val (v := .bool false) (by exact xr_assign rfl rfl) rfl rfl rfl ?_
                      refine ol_nil ?_
                      obtain rfl := Option.some.inj j202
                      refine thn_i ?_
                      exact ⟨rfl, q242⟩
                · skip
                  rintro ρ243 w244 ⟨e4, q245⟩
                  have fB := fB.gr q245
                  refine cw_ret ?_
                  repeat (first | with_reducible refine thn_r ?_ | with_reducible refine blk_r ?_)
                  obtain rfl := Option.some.inj h
                  refine fin_ret1 Try.results6 e4 ?_
                  exact ⟨_, rfl, rfl, fB⟩
end Go.Proofs.Ytklhbaghbmndeaa

/- What a row's arguments are: the readings of arguments opened into records, lists and their facts. -/
set_option linter.unusedVariables false
set_option linter.unusedSimpArgs false
namespace Go.Xw
open Go
variable {P : Program} {w : World}
def Opn {α : Type} (P : Program) (w : World) (T : TypeId) (K : Kd α) (ok : α → Prop) : Prop :=
  ∀ {H : Type} (enc : TypeId × Value → H) (base : Nat) (sp : Nat → Bool) (held : Bool) (fuel : Nat) (cs : List Value) (x : DataW H × List MemPlace), DataW.trod enc P w base sp held fuel T cs = some x → ∃ a : α, cs = K.enc a ∧ ok a
theorem opn_int {T : TypeId} {k : IntKind} (ht : P.underlying T = some (.int k)) : Opn P w T (kI k) (fun n => (Lit.int k n).wf = true) := by
  intro H enc base sp held fuel cs x h
  obtain ⟨n, rfl, _, hw⟩ := DataW.trod_int ht h
  exact ⟨n, rfl, hw⟩
theorem opn_bool {T : TypeId} (ht : P.underlying T = some .bool) : Opn P w T kB (fun _ => True) := by
  intro H enc base sp held fuel cs x h
  obtain ⟨b, rfl, _⟩ := DataW.trod_bool ht h
  exact ⟨b, rfl, trivial⟩
theorem opn_str {T : TypeId} (ht : P.underlying T = some .string) : Opn P w T kS (fun l => l.length ≤ maxLen) := by
  intro H enc base sp held fuel cs x h
  obtain ⟨⟨⟨l⟩⟩, rfl, _, hs⟩ := DataW.trod_string ht h
  exact ⟨l, rfl, by simpa [ByteArray.size] using hs⟩
theorem chunks {α : Type} (K : Kd α) (ok : α → Prop) : ∀ (n : Nat) (cs : List Value), cs.length = n * K.size → (∀ i, i < n → ∃ a, (cs.drop (i * K.size)).take K.size = K.enc a ∧ ok a) → ∃ l : List α, l.length = n ∧ cs = l.flatMap K.enc ∧ ∀ a ∈ l, ok a
  | 0, cs, hl, _ => ⟨[], rfl, by simpa using hl, by simp⟩
  | n + 1, cs, hl, h => by
    obtain ⟨a, ha, hok⟩ := h 0 (by omega)
    rw [Nat.zero_mul, List.drop_zero] at ha
    have hl' : cs.length = n * K.size + K.size := by rw [hl, Nat.succ_mul]
    obtain ⟨l, h1, h2, h3⟩ := chunks K ok n (cs.drop K.size) (by rw [List.length_drop]; omega) (fun i hi => by
      have := h (i + 1) (by omega)
      rw [List.drop_drop, Nat.add_comm, ← Nat.succ_mul]
      exact this)
    refine ⟨a :: l, by simp [h1], ?_, ?_⟩
    · rw [List.flatMap_cons, ← h2, ← ha, List.take_append_drop]
    · intro b hb
      rcases List.mem_cons.1 hb with rfl | hb
      · exact hok
      · exact h3 b hb
theorem ms_len {α β : Type} {f : α → Option β} : ∀ {l : List α} {ys : List β}, l.mapM f = some ys → ys.length = l.length
  | [], ys, h => by simp at h; subst h; rfl
  | a :: l, ys, h => by
    rw [List.mapM_cons] at h
    obtain ⟨b, _, h⟩ := Option.bind_eq_some_iff.1 h
    obtain ⟨bs, hb, h⟩ := Option.bind_eq_some_iff.1 h
    simp at h
    subst h
    simp [ms_len hb]
theorem ms_get {α β : Type} {f : α → Option β} : ∀ {l : List α} {ys : List β}, l.mapM f = some ys → ∀ (i : Nat) (a : α), l[i]? = some a → ∃ y, ys[i]? = some y ∧ f a = some y
  | [], ys, h, i, a, ha => by simp at ha
  | b :: l, ys, h, i, a, ha => by
    rw [List.mapM_cons] at h
    obtain ⟨c, hc, h⟩ := Option.bind_eq_some_iff.1 h
    obtain ⟨bs, hb, h⟩ := Option.bind_eq_some_iff.1 h
    simp at h
    subst h
    cases i with
    | zero =>
      simp at ha
      subst ha
      exact ⟨c, rfl, hc⟩
    | succ i =>
      simp at ha
      obtain ⟨y, h1, h2⟩ := ms_get hb i a ha
      exact ⟨y, by simpa using h1, h2⟩
theorem trod_arr {H : Type} {enc : TypeId × Value → H} {base : Nat} {sp : Nat → Bool} {held : Bool} {fuel : Nat} {T e : TypeId} {n : Nat} {cs : List Value} {x : DataW H × List MemPlace} (ht : P.underlying T = some (.array n e)) (h : DataW.trod enc P w base sp held fuel T cs = some x) :
    cs.length = P.cellsOf T ∧ ∃ m, ∀ i, i < n → ∃ y, DataW.trod enc P w base sp held m e ((cs.drop (i * P.cellsOf e)).take (P.cellsOf e)) = some y := by
  cases fuel with
  | zero => simp [DataW.trod] at h
  | succ m =>
    unfold DataW.trod at h
    rw [ht] at h
    simp only at h
    split at h
    · rename_i hl
      refine ⟨hl, m, fun i hi => ?_⟩
      obtain ⟨xs, hx, _⟩ := Option.map_eq_some_iff.1 h
      obtain ⟨y, _, hy⟩ := ms_get hx i i (by simp [hi])
      exact ⟨y, hy⟩
    · cases h
theorem opn_arr {α : Type} {K : Kd α} {ok : α → Prop} {T e : TypeId} {n : Nat} (ht : P.underlying T = some (.array n e)) (hc : P.cellsOf T = n * P.cellsOf e) (he : P.cellsOf e = K.size) (ho : Opn P w e K ok) : Opn P w T (kA n K) (fun a => ∀ x ∈ a.l, ok x) := by
  intro H enc base sp held fuel cs x h
  obtain ⟨hl, m, hm⟩ := trod_arr ht h
  obtain ⟨l, h1, h2, h3⟩ := chunks K ok n cs (by rw [hl, hc, he]) (fun i hi => by
    obtain ⟨y, hy⟩ := hm i hi
    obtain ⟨a, ha⟩ := ho enc base sp held m _ y hy
    rw [he] at ha
    exact ⟨a, ha⟩)
  exact ⟨⟨l, h1⟩, h2, h3⟩
/-- The fields of a struct, one behind another. -/
theorem fld_cons {cs : List Value} {o n : Nat} {c r : List Value} (h : (cs.drop o).take n = c) (hr : cs.drop (o + n) = r) : cs.drop o = c ++ r := by
  rw [← h, ← hr, ← List.drop_drop, List.take_append_drop]
theorem trod_st {H : Type} {enc : TypeId × Value → H} {base : Nat} {sp : Nat → Bool} {held : Bool} {fuel : Nat} {T : TypeId} {fs : Array Field} {cs : List Value} {x : DataW H × List MemPlace} (ht : P.underlying T = some (.struct fs)) (h : DataW.trod enc P w base sp held fuel T cs = some x) :
    cs.length = P.cellsOf T ∧ ∃ m, ∀ (i : Nat) (f : Field), fs[i]? = some f → ∃ y, DataW.trod enc P w base sp held m f.type ((cs.drop f.offset).take (P.cellsOf f.type)) = some y := by
  obtain ⟨xs, m, _, _, hl, hn, hf⟩ := DataW.trod_struct ht h
  refine ⟨hl, m, fun i f hi => ?_⟩
  have hx : i < xs.length := by rw [hn]; exact (Array.getElem?_eq_some_iff.1 hi).1
  exact ⟨xs[i], by rw [hf i f hi, List.getElem?_eq_getElem hx]⟩
/-- Slices: a cell that reads as a list. -/
def OpnS {α : Type} (P : Program) (w : World) (T : TypeId) (K : Kd α) (ok : α → Prop) : Prop :=
  ∀ {H : Type} (enc : TypeId × Value → H) (base : Nat) (sp : Nat → Bool) (held : Bool) (fuel : Nat) (cs : List Value) (x : DataW H × List MemPlace), DataW.trod enc P w base sp held fuel T cs = some x → ∃ (l : List α) (V : Value), cs = [V] ∧ Rd K w V l ∧ (∀ a ∈ l, ok a) ∧ l.length ≤ maxLen ∧ (sb V < w.heap.size ∨ l = [])
theorem cells_get {base : Nat} {a : Addr} {n : Nat} {cs : List Value} (h : w.cells? base a n = some cs) : cs.length = n ∧ ∀ j, j < n → w.cell? (a.add j) = cs[j]? := by
  unfold World.cells? at h
  split at h
  · refine ⟨by simpa using ms_len h, fun j hj => ?_⟩
    obtain ⟨y, h1, h2⟩ := ms_get h j j (by simp [hj])
    rw [h1, h2]
  · cases h
theorem opn_slice {α : Type} {K : Kd α} {ok : α → Prop} {T e : TypeId} (ht : P.underlying T = some (.slice e)) (he : P.cellsOf e = K.size) (hk : 0 < K.size) (ho : Opn P w e K ok) : OpnS P w T K ok := by
  intro H enc base sp held fuel cs x h
  rcases DataW.trod_slice ht h with ⟨rfl, _⟩ | ⟨a, len, cap, elems, rest, n, rfl, rfl, _, _, hl, hm, hlen, hel, _, _⟩
  · exact ⟨[], _, rfl, Rd.nil K w, by simp, by simp, .inr rfl⟩
  · have hex : ∀ i, i < len → ∃ b, (∀ j z, (K.enc b)[j]? = some z → w.cell? (a.add (i * K.size + j)) = some z) ∧ ok b := by
      intro i hi
      have h1 := hel i hi
      rw [List.getElem?_eq_getElem (by omega)] at h1
      obtain ⟨cs, h2, h3⟩ := Option.bind_eq_some_iff.1 h1
      obtain ⟨b, rfl, hb⟩ := ho enc base sp held n cs _ h3
      obtain ⟨h4, h5⟩ := cells_get h2
      rw [he] at h4 h5
      refine ⟨b, fun j z hz => ?_, hb⟩
      have hj : j < K.size := by rw [← h4]; exact (List.getElem?_eq_some_iff.1 hz).1
      have := h5 j hj
      rw [hz] at this
      rw [← this]
      congr 1
      unfold Addr.add
      by_cases hi0 : i * K.size = 0
      · by_cases hj0 : j = 0
        · simp [hi0, hj0]
        · simp [hi0, hj0]
      · by_cases hj0 : j = 0
        · simp [hi0, hj0]
        · have : i * K.size + j ≠ 0 := by omega
          simp [hi0, hj0, this, Nat.add_assoc]
    have hlist : ∀ m, m ≤ len → ∃ l : List α, l.length = m ∧ (∀ b ∈ l, ok b) ∧ ∀ j z, (l.flatMap K.enc)[j]? = some z → w.cell? (a.add j) = some z := by
      intro m
      induction m with
      | zero => intro _; exact ⟨[], rfl, by simp, by simp⟩
      | succ m ih =>
        intro hm
        obtain ⟨l, h1, h2, h3⟩ := ih (by omega)
        obtain ⟨b, h4, h5⟩ := hex m (by omega)
        refine ⟨l ++ [b], by simp [h1], ?_, ?_⟩
        · intro c hc
          rcases List.mem_append.1 hc with hc | hc
          · exact h2 c hc
          · obtain rfl := List.mem_singleton.1 hc
            exact h5
        · intro j z hz
          have hL : (l.flatMap K.enc).length = m * K.size := by rw [len_flat, h1]
          simp only [List.flatMap_append, List.flatMap_cons, List.flatMap_nil, List.append_nil] at hz
          by_cases hj : j < m * K.size
          · rw [List.getElem?_append_left (by omega)] at hz
            exact h3 j z hz
          · rw [List.getElem?_append_right (by omega), hL] at hz
            have := h4 (j - m * K.size) z hz
            rwa [show m * K.size + (j - m * K.size) = j from by omega] at this
    obtain ⟨l, h1, h2, h3⟩ := hlist len (Nat.le_refl _)
    have hpos : 0 < l.length → ∃ z, w.cell? a = some z := by
      intro hp
      cases l with
      | nil => simp at hp
      | cons b l =>
        have hb : (K.enc b).length = K.size := K.len b
        have : ∃ z, ((b :: l).flatMap K.enc)[0]? = some z := ⟨_, List.getElem?_eq_getElem (by simp [List.flatMap_cons, hb]; omega)⟩
        obtain ⟨z, hz⟩ := this
        have := h3 0 z hz
        exact ⟨z, by simpa [Addr.add] using this⟩
    refine ⟨l, _, rfl, ⟨some a, cap, by rw [h1], by omega, fun hp => ?_⟩, h2, by omega, ?_⟩
    · obtain ⟨z, hz⟩ := hpos hp
      obtain ⟨b, o, s⟩ := a
      have hs : s = none := by
        unfold World.cell? at hz
        split at hz
        · cases s with
          | none => rfl
          | some _ => simp at hz
        · cases hz
      subst hs
      refine ⟨b, o, rfl, fun j v hv => ?_⟩
      have := h3 j v hv
      rwa [Addr.add_lit] at this
    · rcases Nat.eq_zero_or_pos l.length with h0 | hp
      · exact .inr (List.eq_nil_of_length_eq_zero h0)
      · obtain ⟨z, hz⟩ := hpos hp
        refine .inl ?_
        unfold World.cell? at hz
        split at hz
        · rename_i hh
          exact (Array.getElem?_eq_some_iff.1 hh).1
        · cases hz
theorem agg_of {T : TypeId} {v : Value} {cs : List Value} {base : Nat} (h : aggB P T = some true) (hv : Value.okWide P w .any base T v) (hc : v.cells.toList = cs) : v = .agg cs.toArray := by
  unfold aggB at h
  obtain ⟨d, hu, hd⟩ := Option.map_eq_some_iff.1 h
  unfold Value.okWide at hv
  rw [hu] at hv
  cases d <;> simp at hd <;> (obtain ⟨c2, rfl, _⟩ := hv; subst hc; simp [Value.cells])
end Go.Xw

/- What a row's arguments are: slices of records that hold slices. -/
set_option linter.unusedVariables false
set_option linter.unusedSimpArgs false
namespace Go.Xw
open Go
theorem opn_sliceN {P : Program} {w : World} {α : Type} {n : Nat} {D : World → List Value → α → Prop} {ok : α → Prop} {T e : TypeId} (ht : P.underlying T = some (.slice e)) (he : P.cellsOf e = n) (hk : 0 < n)
    (ho : ∀ {H : Type} (enc : TypeId × Value → H) (base : Nat) (sp : Nat → Bool) (held : Bool) (fuel : Nat) (cs : List Value) (x : DataW H × List MemPlace), DataW.trod enc P w base sp held fuel e cs = some x → ∃ a : α, D w cs a ∧ ok a ∧ cs.length = n ∧ ∀ v ∈ cs, v.oneCell' = true)
    {H : Type} (enc : TypeId × Value → H) (base : Nat) (sp : Nat → Bool) (held : Bool) (fuel : Nat) (cs : List Value) (x : DataW H × List MemPlace) (h : DataW.trod enc P w base sp held fuel T cs = some x) :
    ∃ (l : List α) (V : Value), cs = [V] ∧ RdN n D w V l ∧ (∀ a ∈ l, ok a) ∧ l.length ≤ maxLen ∧ (sb V < w.heap.size ∨ l = []) := by
  let β := { p : { l : List Value // l.length = n ∧ ∀ v ∈ l, v.oneCell' = true } × α // D w p.1.1 p.2 ∧ ok p.2 }
  let K : Kd β := ⟨fun p => p.1.1.1, n, fun p => p.1.1.2.1, fun p => p.1.1.2.2⟩
  have hp : Opn P w e K (fun _ => True) := by
    intro H enc base sp held fuel cs x h
    obtain ⟨a, hd, hok, hl, h1⟩ := ho enc base sp held fuel cs x h
    exact ⟨⟨(⟨cs, hl, h1⟩, a), hd, hok⟩, rfl, trivial⟩
  obtain ⟨l, V, e1, r, _, hm, hs⟩ := opn_slice (K := K) ht he hk hp enc base sp held fuel cs x h
  refine ⟨l.map (fun p => p.1.2), V, e1, ⟨l.map (fun p => p.1.1), ?_, by simp, ?_⟩, ?_, by simpa using hm, ?_⟩
  · obtain ⟨A, c, rfl, hc, hr⟩ := r
    refine ⟨A, c, by simp, by simpa using hc, fun hpos => ?_⟩
    obtain ⟨b, o, ea, hat⟩ := hr (by simpa using hpos)
    refine ⟨b, o, ea, ?_⟩
    rw [List.flatMap_map]
    exact hat
  · intro i h1 h2
    have hi : i < l.length := by simpa using h1
    simp only [List.getElem_map]
    exact (l[i]).2.1
  · intro a ha
    obtain ⟨p, _, rfl⟩ := List.mem_map.1 ha
    exact p.2.2
  · rcases hs with hs | rfl
    · exact .inl hs
    · exact .inr rfl
end Go.Xw

/- What the laws' arguments open into: written by rows.py. -/
set_option linter.unusedVariables false
set_option linter.unusedSimpArgs false
namespace Go.Proofs.Ytklhbaghbmndeaa
open Go Go.Xw
def ok_rickyardlaw05_Act (a : S_rickyardlaw05_Act) : Prop := (Lit.int .i64 a.Kind).wf = true ∧ (Lit.int .i64 a.At).wf = true ∧ (Lit.int .u64 a.W).wf = true ∧ ((∀ x ∈ a.L, (Lit.int .i64 x).wf = true) ∧ List.length a.L ≤ maxLen)
theorem opn_rickyardlaw05_Act {w : World} {H : Type} (enc : TypeId × Value → H) (base : Nat) (sp : Nat → Bool) (held : Bool) (fuel : Nat) (cs : List Value) (x : DataW H × List MemPlace) (h : DataW.trod enc Try.prog w base sp held fuel 39 cs = some x) : ∃ a : S_rickyardlaw05_Act, ∃ V0 : Value, ∃ R0 : Rd (kI .i64) w V0 a.L, cs = cellsOf [Seg.cell (.int .i64 a.Kind), Seg.cell (.int .i64 a.At), Seg.cell (.int .u64 a.W), Seg.cell V0 R0.one] ∧ ok_rickyardlaw05_Act a := by
  obtain ⟨hl, m, hf⟩ := trod_st Try.underlying39 h
  obtain ⟨y0, h0⟩ := hf 0 _ rfl
  have c0 : Try.prog.cellsOf 3 = 1 := by kernel_rfl
  obtain ⟨b0, e0, o0⟩ := (opn_int Try.underlying3) enc base sp held m _ y0 h0
  have e0 : (cs.drop 0).take 1 = (kI .i64).enc b0 := (congrArg (fun n => (cs.drop 0).take n) c0).symm.trans e0
  obtain ⟨y1, h1⟩ := hf 1 _ rfl
  have c1 : Try.prog.cellsOf 3 = 1 := by kernel_rfl
  obtain ⟨b1, e1, o1⟩ := (opn_int Try.underlying3) enc base sp held m _ y1 h1
  have e1 : (cs.drop 1).take 1 = (kI .i64).enc b1 := (congrArg (fun n => (cs.drop 1).take n) c1).symm.trans e1
  obtain ⟨y2, h2⟩ := hf 2 _ rfl
  have c2 : Try.prog.cellsOf 22 = 1 := by kernel_rfl
  obtain ⟨b2, e2, o2⟩ := (opn_int Try.underlying22) enc base sp held m _ y2 h2
  have e2 : (cs.drop 2).take 1 = (kI .u64).enc b2 := (congrArg (fun n => (cs.drop 2).take n) c2).symm.trans e2
  obtain ⟨y3, h3⟩ := hf 3 _ rfl
  have c3 : Try.prog.cellsOf 25 = 1 := by kernel_rfl
  obtain ⟨b3, W3, e3, r3, o3, l3, _⟩ := (opn_slice (K := (kI .i64)) Try.underlying25 (by kernel_rfl) (by decide) (opn_int Try.underlying3)) enc base sp held m _ y3 h3
  have e3 : (cs.drop 3).take 1 = [W3] := (congrArg (fun n => (cs.drop 3).take n) c3).symm.trans e3
  have hn : cs.drop 4 = [] := List.drop_eq_nil_of_le (by rw [hl]; exact Nat.le_of_eq (by kernel_rfl))
  have hc : cs = (kI .i64).enc b0 ++ ((kI .i64).enc b1 ++ ((kI .u64).enc b2 ++ ([W3] ++ []))) := (fld_cons (o := 0) (n := 1) e0 (fld_cons (o := 1) (n := 1) e1 (fld_cons (o := 2) (n := 1) e2 (fld_cons (o := 3) (n := 1) e3 hn))))
  refine ⟨⟨b0, b1, b2, b3⟩, W3, r3, ?_, o0, o1, o2, ⟨o3, l3⟩⟩
  rw [hc]
  simp [kA, kI, kB, kS, kT, cellsOf, Seg.cell, Kd.seg]
def ok_rickyardlaw05_Fenced (a : S_rickyardlaw05_Fenced) : Prop := (Lit.int .i64 a.Line).wf = true ∧ (∀ x ∈ a.Ws.l, (Lit.int .u64 x).wf = true) ∧ ((∀ x ∈ a.Acts, ok_rickyardlaw05_Act x) ∧ List.length a.Acts ≤ maxLen) ∧ ((∀ x ∈ a.L, (Lit.int .i64 x).wf = true) ∧ List.length a.L ≤ maxLen)
theorem opn_rickyardlaw05_Fenced {w : World} {H : Type} (enc : TypeId × Value → H) (base : Nat) (sp : Nat → Bool) (held : Bool) (fuel : Nat) (cs : List Value) (x : DataW H × List MemPlace) (h : DataW.trod enc Try.prog w base sp held fuel 27 cs = some x) : ∃ a : S_rickyardlaw05_Fenced, ∃ V0 : Value, ∃ V1 : Value, ∃ R0 : RdN 4 D_rickyardlaw05_Act w V0 a.Acts, ∃ R1 : Rd (kI .i64) w V1 a.L, cs = cellsOf [Seg.cell (.int .i64 a.Line), Kd.seg (kA 8 (kI .u64)) a.Ws, Seg.cell V0 R0.one, Seg.cell V1 R1.one] ∧ ok_rickyardlaw05_Fenced a := by
  obtain ⟨hl, m, hf⟩ := trod_st Try.underlying27 h
  obtain ⟨y0, h0⟩ := hf 0 _ rfl
  have c0 : Try.prog.cellsOf 3 = 1 := by kernel_rfl
  obtain ⟨b0, e0, o0⟩ := (opn_int Try.underlying3) enc base sp held m _ y0 h0
  have e0 : (cs.drop 0).take 1 = (kI .i64).enc b0 := (congrArg (fun n => (cs.drop 0).take n) c0).symm.trans e0
  obtain ⟨y1, h1⟩ := hf 1 _ rfl
  have c1 : Try.prog.cellsOf 23 = 8 := by kernel_rfl
  obtain ⟨b1, e1, o1⟩ := (opn_arr Try.underlying23 (by kernel_rfl) (by kernel_rfl) (opn_int Try.underlying22)) enc base sp held m _ y1 h1
  have e1 : (cs.drop 1).take 8 = (kA 8 (kI .u64)).enc b1 := (congrArg (fun n => (cs.drop 1).take n) c1).symm.trans e1
  obtain ⟨y2, h2⟩ := hf 2 _ rfl
  have c2 : Try.prog.cellsOf 24 = 1 := by kernel_rfl
  obtain ⟨b2, W2, e2, r2, o2, l2, _⟩ := (opn_sliceN (n := 4) (D := D_rickyardlaw05_Act) (ok := ok_rickyardlaw05_Act) (w := w) Try.underlying24 (by kernel_rfl) (by decide) (fun enc base sp held fuel cs x h => by obtain ⟨a, V0, R0, e, o⟩ := opn_rickyardlaw05_Act enc base sp held fuel cs x h; exact ⟨a, ⟨V0, R0, e⟩, o, by rw [e, len_cellsOf]; rfl, by rw [e]; exact one_cellsOf _⟩)) enc base sp held m _ y2 h2
  have e2 : (cs.drop 9).take 1 = [W2] := (congrArg (fun n => (cs.drop 9).take n) c2).symm.trans e2
  obtain ⟨y3, h3⟩ := hf 3 _ rfl
  have c3 : Try.prog.cellsOf 25 = 1 := by kernel_rfl
  obtain ⟨b3, W3, e3, r3, o3, l3, _⟩ := (opn_slice (K := (kI .i64)) Try.underlying25 (by kernel_rfl) (by decide) (opn_int Try.underlying3)) enc base sp held m _ y3 h3
  have e3 : (cs.drop 10).take 1 = [W3] := (congrArg (fun n => (cs.drop 10).take n) c3).symm.trans e3
  have hn : cs.drop 11 = [] := List.drop_eq_nil_of_le (by rw [hl]; exact Nat.le_of_eq (by kernel_rfl))
  have hc : cs = (kI .i64).enc b0 ++ ((kA 8 (kI .u64)).enc b1 ++ ([W2] ++ ([W3] ++ []))) := (fld_cons (o := 0) (n := 1) e0 (fld_cons (o := 1) (n := 8) e1 (fld_cons (o := 9) (n := 1) e2 (fld_cons (o := 10) (n := 1) e3 hn))))
  refine ⟨⟨b0, b1, b2, b3⟩, W2, W3, r2, r3, ?_, o0, o1, ⟨o2, l2⟩, ⟨o3, l3⟩⟩
  rw [hc]
  simp [kA, kI, kB, kS, kT, cellsOf, Seg.cell, Kd.seg]
def ok_api_Fate (a : S_api_Fate) : Prop := (Lit.int .i64 a.At).wf = true ∧ (Lit.int .u64 a.Lasts).wf = true ∧ True ∧ (Lit.int .u64 a.Sent).wf = true ∧ (Lit.int .u64 a.Stored).wf = true
theorem opn_api_Fate {w : World} : Opn Try.prog w 55 k_api_Fate ok_api_Fate := by
  intro H enc base sp held fuel cs x h
  obtain ⟨hl, m, hf⟩ := trod_st Try.underlying55 h
  obtain ⟨y0, h0⟩ := hf 0 _ rfl
  have c0 : Try.prog.cellsOf 3 = 1 := by kernel_rfl
  obtain ⟨b0, e0, o0⟩ := (opn_int Try.underlying3) enc base sp held m _ y0 h0
  have e0 : (cs.drop 0).take 1 = (kI .i64).enc b0 := (congrArg (fun n => (cs.drop 0).take n) c0).symm.trans e0
  obtain ⟨y1, h1⟩ := hf 1 _ rfl
  have c1 : Try.prog.cellsOf 22 = 1 := by kernel_rfl
  obtain ⟨b1, e1, o1⟩ := (opn_int Try.underlying22) enc base sp held m _ y1 h1
  have e1 : (cs.drop 1).take 1 = (kI .u64).enc b1 := (congrArg (fun n => (cs.drop 1).take n) c1).symm.trans e1
  obtain ⟨y2, h2⟩ := hf 2 _ rfl
  have c2 : Try.prog.cellsOf 4 = 1 := by kernel_rfl
  obtain ⟨b2, e2, o2⟩ := (opn_bool Try.underlying4) enc base sp held m _ y2 h2
  have e2 : (cs.drop 2).take 1 = kB.enc b2 := (congrArg (fun n => (cs.drop 2).take n) c2).symm.trans e2
  obtain ⟨y3, h3⟩ := hf 3 _ rfl
  have c3 : Try.prog.cellsOf 22 = 1 := by kernel_rfl
  obtain ⟨b3, e3, o3⟩ := (opn_int Try.underlying22) enc base sp held m _ y3 h3
  have e3 : (cs.drop 3).take 1 = (kI .u64).enc b3 := (congrArg (fun n => (cs.drop 3).take n) c3).symm.trans e3
  obtain ⟨y4, h4⟩ := hf 4 _ rfl
  have c4 : Try.prog.cellsOf 22 = 1 := by kernel_rfl
  obtain ⟨b4, e4, o4⟩ := (opn_int Try.underlying22) enc base sp held m _ y4 h4
  have e4 : (cs.drop 4).take 1 = (kI .u64).enc b4 := (congrArg (fun n => (cs.drop 4).take n) c4).symm.trans e4
  have hn : cs.drop 5 = [] := List.drop_eq_nil_of_le (by rw [hl]; exact Nat.le_of_eq (by kernel_rfl))
  have hc : cs = (kI .i64).enc b0 ++ ((kI .u64).enc b1 ++ (kB.enc b2 ++ ((kI .u64).enc b3 ++ ((kI .u64).enc b4 ++ [])))) := (fld_cons (o := 0) (n := 1) e0 (fld_cons (o := 1) (n := 1) e1 (fld_cons (o := 2) (n := 1) e2 (fld_cons (o := 3) (n := 1) e3 (fld_cons (o := 4) (n := 1) e4 hn)))))
  refine ⟨⟨b0, b1, b2, b3, b4⟩, ?_, o0, o1, o2, o3, o4⟩
  rw [hc]
  simp [kA, kI, kB, kS, kT, cellsOf, Seg.cell, Kd.seg, k_api_Fate, segs_api_Fate]
def ok_api_Geometry (a : S_api_Geometry) : Prop := (Lit.int .i64 a.Blocks).wf = true ∧ (Lit.int .i64 a.Slots).wf = true ∧ (Lit.int .i64 a.Gens).wf = true
theorem opn_api_Geometry {w : World} : Opn Try.prog w 106 k_api_Geometry ok_api_Geometry := by
  intro H enc base sp held fuel cs x h
  obtain ⟨hl, m, hf⟩ := trod_st Try.underlying106 h
  obtain ⟨y0, h0⟩ := hf 0 _ rfl
  have c0 : Try.prog.cellsOf 3 = 1 := by kernel_rfl
  obtain ⟨b0, e0, o0⟩ := (opn_int Try.underlying3) enc base sp held m _ y0 h0
  have e0 : (cs.drop 0).take 1 = (kI .i64).enc b0 := (congrArg (fun n => (cs.drop 0).take n) c0).symm.trans e0
  obtain ⟨y1, h1⟩ := hf 1 _ rfl
  have c1 : Try.prog.cellsOf 3 = 1 := by kernel_rfl
  obtain ⟨b1, e1, o1⟩ := (opn_int Try.underlying3) enc base sp held m _ y1 h1
  have e1 : (cs.drop 1).take 1 = (kI .i64).enc b1 := (congrArg (fun n => (cs.drop 1).take n) c1).symm.trans e1
  obtain ⟨y2, h2⟩ := hf 2 _ rfl
  have c2 : Try.prog.cellsOf 3 = 1 := by kernel_rfl
  obtain ⟨b2, e2, o2⟩ := (opn_int Try.underlying3) enc base sp held m _ y2 h2
  have e2 : (cs.drop 2).take 1 = (kI .i64).enc b2 := (congrArg (fun n => (cs.drop 2).take n) c2).symm.trans e2
  have hn : cs.drop 3 = [] := List.drop_eq_nil_of_le (by rw [hl]; exact Nat.le_of_eq (by kernel_rfl))
  have hc : cs = (kI .i64).enc b0 ++ ((kI .i64).enc b1 ++ ((kI .i64).enc b2 ++ [])) := (fld_cons (o := 0) (n := 1) e0 (fld_cons (o := 1) (n := 1) e1 (fld_cons (o := 2) (n := 1) e2 hn)))
  refine ⟨⟨b0, b1, b2⟩, ?_, o0, o1, o2⟩
  rw [hc]
  simp [kA, kI, kB, kS, kT, cellsOf, Seg.cell, Kd.seg, k_api_Fate, k_api_Geometry, k_api_Tickets, segs_api_Fate, segs_api_Geometry, segs_api_Tickets]
def ok_api_Tickets (a : S_api_Tickets) : Prop := ok_api_Geometry a.Geometry ∧ (Lit.int .i64 a.Top).wf = true ∧ (Lit.int .i64 a.High).wf = true ∧ (Lit.int .i64 a.Free).wf = true
theorem opn_api_Tickets {w : World} : Opn Try.prog w 108 k_api_Tickets ok_api_Tickets := by
  intro H enc base sp held fuel cs x h
  obtain ⟨hl, m, hf⟩ := trod_st Try.underlying108 h
  obtain ⟨y0, h0⟩ := hf 0 _ rfl
  have c0 : Try.prog.cellsOf 106 = 3 := by kernel_rfl
  obtain ⟨b0, e0, o0⟩ := (opn_api_Geometry (w := w)) enc base sp held m _ y0 h0
  have e0 : (cs.drop 0).take 3 = k_api_Geometry.enc b0 := (congrArg (fun n => (cs.drop 0).take n) c0).symm.trans e0
  obtain ⟨y1, h1⟩ := hf 1 _ rfl
  have c1 : Try.prog.cellsOf 3 = 1 := by kernel_rfl
  obtain ⟨b1, e1, o1⟩ := (opn_int Try.underlying3) enc base sp held m _ y1 h1
  have e1 : (cs.drop 3).take 1 = (kI .i64).enc b1 := (congrArg (fun n => (cs.drop 3).take n) c1).symm.trans e1
  obtain ⟨y2, h2⟩ := hf 2 _ rfl
  have c2 : Try.prog.cellsOf 3 = 1 := by kernel_rfl
  obtain ⟨b2, e2, o2⟩ := (opn_int Try.underlying3) enc base sp held m _ y2 h2
  have e2 : (cs.drop 4).take 1 = (kI .i64).enc b2 := (congrArg (fun n => (cs.drop 4).take n) c2).symm.trans e2
  obtain ⟨y3, h3⟩ := hf 3 _ rfl
  have c3 : Try.prog.cellsOf 3 = 1 := by kernel_rfl
  obtain ⟨b3, e3, o3⟩ := (opn_int Try.underlying3) enc base sp held m _ y3 h3
  have e3 : (cs.drop 5).take 1 = (kI .i64).enc b3 := (congrArg (fun n => (cs.drop 5).take n) c3).symm.trans e3
  have hn : cs.drop 6 = [] := List.drop_eq_nil_of_le (by rw [hl]; exact Nat.le_of_eq (by kernel_rfl))
  have hc : cs = k_api_Geometry.enc b0 ++ ((kI .i64).enc b1 ++ ((kI .i64).enc b2 ++ ((kI .i64).enc b3 ++ []))) := (fld_cons (o := 0) (n := 3) e0 (fld_cons (o := 3) (n := 1) e1 (fld_cons (o := 4) (n := 1) e2 (fld_cons (o := 5) (n := 1) e3 hn))))
  refine ⟨⟨b0, b1, b2, b3⟩, ?_, o0, o1, o2, o3⟩
  rw [hc]
  simp [kA, kI, kB, kS, kT, cellsOf, Seg.cell, Kd.seg, k_api_Fate, k_api_Geometry, k_api_Tickets, segs_api_Fate, segs_api_Geometry, segs_api_Tickets]
def ok_api_Super (a : S_api_Super) : Prop := (Lit.int .i64 a.Epoch).wf = true ∧ ok_api_Tickets a.Tickets ∧ (Lit.int .i64 a.Dir).wf = true ∧ ((∀ x ∈ a.Charts, (Lit.int .i64 x).wf = true) ∧ List.length a.Charts ≤ maxLen)
theorem opn_api_Super {w : World} {H : Type} (enc : TypeId × Value → H) (base : Nat) (sp : Nat → Bool) (held : Bool) (fuel : Nat) (cs : List Value) (x : DataW H × List MemPlace) (h : DataW.trod enc Try.prog w base sp held fuel 110 cs = some x) : ∃ a : S_api_Super, ∃ V0 : Value, ∃ R0 : Rd (kI .i64) w V0 a.Charts, cs = cellsOf [Seg.cell (.int .i64 a.Epoch), Seg.cell (.int .i64 a.Tickets.Geometry.Blocks), Seg.cell (.int .i64 a.Tickets.Geometry.Slots), Seg.cell (.int .i64 a.Tickets.Geometry.Gens), Seg.cell (.int .i64 a.Tickets.Top), Seg.cell (.int .i64 a.Tickets.High), Seg.cell (.int .i64 a.Tickets.Free), Seg.cell (.int .i64 a.Dir), Seg.cell V0 R0.one] ∧ ok_api_Super a := by
  obtain ⟨hl, m, hf⟩ := trod_st Try.underlying110 h
  obtain ⟨y0, h0⟩ := hf 0 _ rfl
  have c0 : Try.prog.cellsOf 3 = 1 := by kernel_rfl
  obtain ⟨b0, e0, o0⟩ := (opn_int Try.underlying3) enc base sp held m _ y0 h0
  have e0 : (cs.drop 0).take 1 = (kI .i64).enc b0 := (congrArg (fun n => (cs.drop 0).take n) c0).symm.trans e0
  obtain ⟨y1, h1⟩ := hf 1 _ rfl
  have c1 : Try.prog.cellsOf 108 = 6 := by kernel_rfl
  obtain ⟨b1, e1, o1⟩ := (opn_api_Tickets (w := w)) enc base sp held m _ y1 h1
  have e1 : (cs.drop 1).take 6 = k_api_Tickets.enc b1 := (congrArg (fun n => (cs.drop 1).take n) c1).symm.trans e1
  obtain ⟨y2, h2⟩ := hf 2 _ rfl
  have c2 : Try.prog.cellsOf 3 = 1 := by kernel_rfl
  obtain ⟨b2, e2, o2⟩ := (opn_int Try.underlying3) enc base sp held m _ y2 h2
  have e2 : (cs.drop 7).take 1 = (kI .i64).enc b2 := (congrArg (fun n => (cs.drop 7).take n) c2).symm.trans e2
  obtain ⟨y3, h3⟩ := hf 3 _ rfl
  have c3 : Try.prog.cellsOf 25 = 1 := by kernel_rfl
  obtain ⟨b3, W3, e3, r3, o3, l3, _⟩ := (opn_slice (K := (kI .i64)) Try.underlying25 (by kernel_rfl) (by decide) (opn_int Try.underlying3)) enc base sp held m _ y3 h3
  have e3 : (cs.drop 8).take 1 = [W3] := (congrArg (fun n => (cs.drop 8).take n) c3).symm.trans e3
  have hn : cs.drop 9 = [] := List.drop_eq_nil_of_le (by rw [hl]; exact Nat.le_of_eq (by kernel_rfl))
  have hc : cs = (kI .i64).enc b0 ++ (k_api_Tickets.enc b1 ++ ((kI .i64).enc b2 ++ ([W3] ++ []))) := (fld_cons (o := 0) (n := 1) e0 (fld_cons (o := 1) (n := 6) e1 (fld_cons (o := 7) (n := 1) e2 (fld_cons (o := 8) (n := 1) e3 hn))))
  refine ⟨⟨b0, b1, b2, b3⟩, W3, r3, ?_, o0, o1, o2, ⟨o3, l3⟩⟩
  rw [hc]
  simp [kA, kI, kB, kS, kT, cellsOf, Seg.cell, Kd.seg, k_api_Fate, k_api_Geometry, k_api_Tickets, segs_api_Fate, segs_api_Geometry, segs_api_Tickets]
def ok_rickyardlaw16_Cut (a : S_rickyardlaw16_Cut) : Prop := (Lit.int .u8 a.Steps).wf = true ∧ ((∀ x ∈ a.Plan, (Lit.int .i64 x).wf = true) ∧ List.length a.Plan ≤ maxLen) ∧ ((∀ x ∈ a.L, (Lit.int .i64 x).wf = true) ∧ List.length a.L ≤ maxLen)
theorem opn_rickyardlaw16_Cut {w : World} {H : Type} (enc : TypeId × Value → H) (base : Nat) (sp : Nat → Bool) (held : Bool) (fuel : Nat) (cs : List Value) (x : DataW H × List MemPlace) (h : DataW.trod enc Try.prog w base sp held fuel 129 cs = some x) : ∃ a : S_rickyardlaw16_Cut, ∃ V0 : Value, ∃ V1 : Value, ∃ R0 : Rd (kI .i64) w V0 a.Plan, ∃ R1 : Rd (kI .i64) w V1 a.L, cs = cellsOf [Seg.cell (.int .u8 a.Steps), Seg.cell V0 R0.one, Seg.cell V1 R1.one] ∧ ok_rickyardlaw16_Cut a := by
  obtain ⟨hl, m, hf⟩ := trod_st Try.underlying129 h
  obtain ⟨y0, h0⟩ := hf 0 _ rfl
  have c0 : Try.prog.cellsOf 5 = 1 := by kernel_rfl
  obtain ⟨b0, e0, o0⟩ := (opn_int Try.underlying5) enc base sp held m _ y0 h0
  have e0 : (cs.drop 0).take 1 = (kI .u8).enc b0 := (congrArg (fun n => (cs.drop 0).take n) c0).symm.trans e0
  obtain ⟨y1, h1⟩ := hf 1 _ rfl
  have c1 : Try.prog.cellsOf 25 = 1 := by kernel_rfl
  obtain ⟨b1, W1, e1, r1, o1, l1, _⟩ := (opn_slice (K := (kI .i64)) Try.underlying25 (by kernel_rfl) (by decide) (opn_int Try.underlying3)) enc base sp held m _ y1 h1
  have e1 : (cs.drop 1).take 1 = [W1] := (congrArg (fun n => (cs.drop 1).take n) c1).symm.trans e1
  obtain ⟨y2, h2⟩ := hf 2 _ rfl
  have c2 : Try.prog.cellsOf 25 = 1 := by kernel_rfl
  obtain ⟨b2, W2, e2, r2, o2, l2, _⟩ := (opn_slice (K := (kI .i64)) Try.underlying25 (by kernel_rfl) (by decide) (opn_int Try.underlying3)) enc base sp held m _ y2 h2
  have e2 : (cs.drop 2).take 1 = [W2] := (congrArg (fun n => (cs.drop 2).take n) c2).symm.trans e2
  have hn : cs.drop 3 = [] := List.drop_eq_nil_of_le (by rw [hl]; exact Nat.le_of_eq (by kernel_rfl))
  have hc : cs = (kI .u8).enc b0 ++ ([W1] ++ ([W2] ++ [])) := (fld_cons (o := 0) (n := 1) e0 (fld_cons (o := 1) (n := 1) e1 (fld_cons (o := 2) (n := 1) e2 hn)))
  refine ⟨⟨b0, b1, b2⟩, W1, W2, r1, r2, ?_, o0, ⟨o1, l1⟩, ⟨o2, l2⟩⟩
  rw [hc]
  simp [kA, kI, kB, kS, kT, cellsOf, Seg.cell, Kd.seg, k_api_Fate, k_api_Geometry, k_api_Tickets, segs_api_Fate, segs_api_Geometry, segs_api_Tickets]
end Go.Proofs.Ytklhbaghbmndeaa

/- Rows turned one by one. -/
set_option linter.unusedVariables false
set_option linter.unusedSimpArgs false
namespace Go.Proofs.Ytklhbaghbmndeaa.Pure
open Go Go.Xw
/-- Of the places from `lo` on the first `j`, each turned by `g`. -/
def upd {α : Type} (g : Nat → α → α) (lo j : Nat) (cs : List α) : List α := cs.mapIdx fun i c => if lo ≤ i ∧ i < lo + j then g i c else c
theorem upd_len {α : Type} (g : Nat → α → α) (lo j : Nat) (cs : List α) : (upd g lo j cs).length = cs.length := by simp [upd]
theorem upd_zero {α : Type} (g : Nat → α → α) (lo : Nat) (cs : List α) : upd g lo 0 cs = cs := by
  apply List.ext_getElem (by simp [upd])
  intro i h1 h2
  simp only [upd, List.getElem_mapIdx]
  rw [if_neg (by omega)]
theorem upd_get {α : Type} (g : Nat → α → α) (lo j : Nat) (cs : List α) (i : Nat) (h : i < (upd g lo j cs).length) : (upd g lo j cs)[i] = if lo ≤ i ∧ i < lo + j then g i (cs[i]'(by simpa [upd] using h)) else cs[i]'(by simpa [upd] using h) := by
  simp only [upd, List.getElem_mapIdx]
theorem upd_next {α : Type} (g : Nat → α → α) (lo j : Nat) (cs : List α) (h : lo + j < cs.length) : (upd g lo j cs)[lo + j]'(by rw [upd_len]; exact h) = cs[lo + j] := by
  rw [upd_get, if_neg (by omega)]
theorem upd_set {α : Type} (g : Nat → α → α) (lo j : Nat) (cs : List α) (h : lo + j < cs.length) : (upd g lo j cs).set (lo + j) (g (lo + j) cs[lo + j]) = upd g lo (j + 1) cs := by
  apply List.ext_getElem (by simp [upd])
  intro i h1 h2
  rw [List.getElem_set, upd_get g lo (j + 1)]
  by_cases e : lo + j = i
  · subst e
    rw [if_pos rfl, if_pos (by omega)]
  · rw [if_neg e, upd_get]
    by_cases c : lo ≤ i ∧ i < lo + j
    · rw [if_pos c, if_pos (by omega)]
    · rw [if_neg c, if_neg (by omega)]
theorem upd_same {α : Type} (g : Nat → α → α) (lo j : Nat) (cs : List α) (h : lo + j < cs.length) (e : g (lo + j) cs[lo + j] = cs[lo + j]) : upd g lo j cs = upd g lo (j + 1) cs := by
  apply List.ext_getElem (by simp [upd])
  intro i h1 h2
  rw [upd_get g lo j, upd_get g lo (j + 1)]
  by_cases e' : lo + j = i
  · subst e'
    rw [if_neg (by omega), if_pos (by omega), e]
  · by_cases c : lo ≤ i ∧ i < lo + j
    · rw [if_pos c, if_pos (by omega)]
    · rw [if_neg c, if_neg (by omega)]
theorem upd_all {α : Type} (g : Nat → α → α) (cs : List α) : upd g 0 cs.length cs = cs.mapIdx g := by
  apply List.ext_getElem (by simp [upd])
  intro i h1 h2
  rw [upd_get, if_pos ⟨by omega, by rw [upd_len] at h1; omega⟩, List.getElem_mapIdx]
theorem getD_set {α : Type} (cs : List α) (i k : Nat) (v d : α) (hi : i < cs.length) : (cs.set i v).getD k d = if i = k then v else cs.getD k d := by
  simp only [List.getD_eq_getElem?_getD, List.getElem?_set]
  by_cases h : i = k
  · subst h
    simp [hi]
  · simp [h]
theorem getD_of {α : Type} (cs : List α) (i : Nat) (d : α) (hi : i < cs.length) : cs.getD i d = cs[i] := by
  simp [List.getD_eq_getElem?_getD, List.getElem?_eq_getElem hi]
end Go.Proofs.Ytklhbaghbmndeaa.Pure

/- rickyard/crc.step: its model, and that the Go function computes it: written by gen.py. -/
set_option linter.unusedVariables false
namespace Go.Proofs.Ytklhbaghbmndeaa
open Go Go.Xw
def crc_step.f (fu : Nat) (a0 : Int) : Option Int := (if (decide ((bAnd .u32 a0 1) = 1)) = true then some ((bXor .u32 (shR .u32 a0 1) 2197175160)) else some ((shR .u32 a0 1)))
set_option maxRecDepth 100000 in
set_option maxHeartbeats 400000 in
theorem crc_step.ok (fu : Nat) (w : World) (a0 : Int) (r : Int) (h : crc_step.f fu a0 = some r) :
    Calls Try.prog 156 (([.int .u32 a0] : List Value).toArray) w (fun e w' => ∃ v, e = .returned v ∧ v = .int .u32 r ∧ Gr w w') := by
  unfold crc_step.f at h
  have fB : Gr w w := Fr.refl _ _
  refine calls_cw Try.func156 rfl Try.ntmps156 rfl ?_
  refine cw_seq ?_
  refine cw_region ?_
  refine ol_val (v := .int .u32 0) (by exact xr_assign rfl rfl) rfl rfl rfl ?_
  refine ol_nil ?_
  refine cw_seq ?_
  refine cw_seq ?_
  refine cw_region ?_
  refine ol_val (v := .int .u32 a0) (by exact xr_move rfl rfl) rfl rfl rfl ?_
  refine ol_val (v := .int .u32 (bAnd .u32 a0 1)) (by exact xr_and rfl rfl rfl) rfl rfl rfl ?_
  refine ol_val (v := .bool (decide ((bAnd .u32 a0 1) = 1))) (by exact xr_eqI rfl Try.underlying191 rfl rfl rfl) rfl rfl rfl ?_
  refine ol_nil ?_
  rcases is h with ⟨c1, h⟩ | ⟨c1, h⟩
  · refine cw_condT rfl c1 ?_
    refine cw_seq ?_
    refine cw_region ?_
    refine ol_val (v := .int .u32 a0) (by exact xr_move rfl rfl) rfl rfl rfl ?_
    refine ol_val (v := .int .u32 (shR .u32 a0 1)) (by exact xr_shr rfl rfl rfl (by decide)) rfl rfl rfl ?_
    refine ol_val (v := .int .u32 (bXor .u32 (shR .u32 a0 1) 2197175160)) (by exact xr_xor rfl rfl rfl) rfl rfl rfl ?_
    refine ol_val (v := .int .u32 (bXor .u32 (shR .u32 a0 1) 2197175160)) (by exact xr_assign rfl rfl) rfl rfl rfl ?_
    refine ol_nil ?_
    refine cw_ret ?_
    repeat (first | with_reducible refine thn_r ?_ | with_reducible refine blk_r ?_)
    obtain rfl := Option.some.inj h
    refine fin_ret1 Try.results156 rfl ?_
    exact ⟨_, rfl, rfl, fB⟩
  · refine cw_condF rfl c1 ?_
    refine cw_skip ?_
    refine cw_seq ?_
    refine cw_region ?_
    refine ol_val (v := .int .u32 a0) (by exact xr_move rfl rfl) rfl rfl rfl ?_
    refine ol_val (v := .int .u32 (shR .u32 a0 1)) (by exact xr_shr rfl rfl rfl (by decide)) rfl rfl rfl ?_
    refine ol_val (v := .int .u32 (shR .u32 a0 1)) (by exact xr_assign rfl rfl) rfl rfl rfl ?_
    refine ol_nil ?_
    refine cw_ret ?_
    repeat (first | with_reducible refine thn_r ?_ | with_reducible refine blk_r ?_)
    obtain rfl := Option.some.inj h
    refine fin_ret1 Try.results156 rfl ?_
    exact ⟨_, rfl, rfl, fB⟩
end Go.Proofs.Ytklhbaghbmndeaa

/- rickyard/crc.Table: its model, and that the Go function computes it: written by gen.py. -/
set_option linter.unusedVariables false
namespace Go.Proofs.Ytklhbaghbmndeaa
open Go Go.Xw
def crc_Table.s3 (fu : Nat) : (Int × Int) → Option (Sum Int (Int × Int)) := fun s22 => (if (decide (s22.2 < 4)) = true then ((crc_step.f fu s22.1 : Option Int).bind fun t30 => some (Sum.inr (t30, (IntKind.i64.wrap (s22.2 + 1))))) else some (Sum.inl (s22.1)))
def crc_Table.s2 (fu : Nat) : (Int × (Arr 16 Int)) → Option (Sum (Arr 16 Int) (Int × (Arr 16 Int))) := fun s14 => (if (decide (s14.1 < 16)) = true then ((loopM (crc_Table.s3 fu) fu ((IntKind.u32.wrap s14.1), 0)).bind fun e23 => (if 0 ≤ s14.1 ∧ s14.1 < 16 then some (Sum.inr ((IntKind.i64.wrap (s14.1 + 1)), (Arr.set s14.2 s14.1 e23))) else none)) else some (Sum.inl (s14.2)))
def crc_Table.f (fu : Nat) : Option (Arr 16 Int) := ((loopM (crc_Table.s2 fu) fu (0, (Arr.rep 16 (0 : Int)))).bind fun e15 => some (e15))
set_option maxRecDepth 100000 in
set_option maxHeartbeats 400000 in
theorem crc_Table.ok (fu : Nat) (w : World)  (r : (Arr 16 Int)) (h : crc_Table.f fu = some r) :
    Calls Try.prog 154 (([] : List Value).toArray) w (fun e w' => ∃ v, e = .returned v ∧ v = aggV [Kd.seg (kA 16 (kI .u32)) r] ∧ Gr w w') := by
  unfold crc_Table.f at h
  have fB : Gr w w := Fr.refl _ _
  refine calls_cw Try.func154 rfl Try.ntmps154 rfl ?_
  refine cw_seq ?_
  refine cw_region ?_
  refine ol_op (by exact opv_alloc (ss := [Kd.seg (kA 16 (kI .u32)) (Arr.rep 16 (0 : Int))]) rfl ze205 rfl) rfl rfl rfl ?_
  rintro _ w6 ⟨G1, rfl, b2, q3, z4⟩
  have z4 := Nat.le_trans fB.size z4
  have fB := fB.gr q3
  refine ol_nil ?_
  refine cw_seq ?_
  refine cw_region ?_
  refine ol_op (by exact opv_alloc (ss := [Kd.seg (kA 16 (kI .u32)) (Arr.rep 16 (0 : Int))]) rfl ze205 rfl) rfl rfl rfl ?_
  rintro _ w12 ⟨G7, rfl, b8, q9, z10⟩
  have n13 := b2.ne z10
  have z10 := Nat.le_trans fB.size z10
  have b2 := b2.gr q9
  have fB := fB.gr q9
  refine ol_nil ?_
  refine cw_seq ?_
  refine cw_seq ?_
  refine cw_region ?_
  refine ol_val (v := .int .i64 0) (by exact xr_move rfl rfl) rfl rfl rfl ?_
  refine ol_nil ?_
  obtain ⟨e15, l16, h17⟩ := bs h
  refine cw_mid (fun ρ' w' => ρ' 0 = .pointer (some ⟨G1, 0, none⟩) ∧ ρ' 1 = .pointer (some ⟨G7, 0, none⟩) ∧ Blk w' G1 205 [Kd.seg (kA 16 (kI .u32)) (Arr.rep 16 (0 : Int))] ∧ Blk w' G7 205 [Kd.seg (kA 16 (kI .u32)) e15] ∧ Gr w w') ?_ ?_
  · refine cw_block ?_
    refine cw_round (fun (s14 : Int × (Arr 16 Int)) ρ' w' => ρ' 0 = .pointer (some ⟨G1, 0, none⟩) ∧ ρ' 1 = .pointer (some ⟨G7, 0, none⟩) ∧ ρ' 4 = .int .i64 s14.1 ∧ Blk w' G1 205 [Kd.seg (kA 16 (kI .u32)) (Arr.rep 16 (0 : Int))] ∧ Blk w' G7 205 [Kd.seg (kA 16 (kI .u32)) s14.2] ∧ Gr w w') l16 ?_ ?_
    · skip
      exact ⟨rfl, rfl, rfl, b2, b8, fB⟩
    · rintro s14 x20 ρ18 w19 ⟨e0, e1, e4, b2, b8, fB⟩ h
      unfold crc_Table.s2 at h
      refine cw_seq ?_
      refine cw_region ?_
      refine ol_val (v := .bool (decide (s14.1 < 16))) (by exact xr_lss rfl e4 rfl) rfl rfl rfl ?_
      refine ol_nil ?_
      refine cw_seq ?_
      rcases is h with ⟨c21, h⟩ | ⟨c21, h⟩
      · refine cw_condT rfl c21 ?_
        refine cw_skip ?_
        refine cw_seq ?_
        refine cw_block ?_
        refine cw_seq ?_
        refine cw_region ?_
        refine ol_val (v := .int .i64 s14.1) (by exact xr_move rfl e4) rfl rfl rfl ?_
        refine ol_val (v := .int .i64 s14.1) (by exact xr_assign rfl rfl) rfl rfl rfl ?_
        refine ol_nil ?_
        refine cw_seq ?_
        refine cw_region ?_
        refine ol_val (v := .int .i64 s14.1) (by exact xr_move rfl rfl) rfl rfl rfl ?_
        refine ol_val (v := .int .u32 (IntKind.u32.wrap s14.1)) (by exact xr_conv rfl Try.underlying3 Try.underlying191 rfl) rfl rfl rfl ?_
        refine ol_val (v := .int .u32 (IntKind.u32.wrap s14.1)) (by exact xr_assign rfl rfl) rfl rfl rfl ?_
        refine ol_nil ?_
        refine cw_seq ?_
        refine cw_seq ?_
        refine cw_region ?_
        refine ol_val (v := .int .i64 0) (by exact xr_move rfl rfl) rfl rfl rfl ?_
        refine ol_nil ?_
        obtain ⟨e23, l24, h25⟩ := bs h
        refine cw_mid (fun ρ' w' => ρ' 0 = .pointer (some ⟨G1, 0, none⟩) ∧ ρ' 1 = .pointer (some ⟨G7, 0, none⟩) ∧ ρ' 2 = .int .i64 s14.1 ∧ ρ' 3 = .int .u32 e23 ∧ ρ' 4 = .int .i64 s14.1 ∧ Blk w' G1 205 [Kd.seg (kA 16 (kI .u32)) (Arr.rep 16 (0 : Int))] ∧ Blk w' G7 205 [Kd.seg (kA 16 (kI .u32)) s14.2] ∧ Gr w w') ?_ ?_
        · refine cw_block ?_
          refine cw_round (fun (s22 : Int × Int) ρ' w' => ρ' 0 = .pointer (some ⟨G1, 0, none⟩) ∧ ρ' 1 = .pointer (some ⟨G7, 0, none⟩) ∧ ρ' 2 = .int .i64 s14.1 ∧ ρ' 3 = .int .u32 s22.1 ∧ ρ' 4 = .int .i64 s14.1 ∧ ρ' 9 = .int .i64 s22.2 ∧ Blk w' G1 205 [Kd.seg (kA 16 (kI .u32)) (Arr.rep 16 (0 : Int))] ∧ Blk w' G7 205 [Kd.seg (kA 16 (kI .u32)) s14.2] ∧ Gr w w') l24 ?_ ?_
          · skip
            exact ⟨e0, e1, rfl, rfl, e4, rfl, b2, b8, fB⟩
          · rintro s22 x28 ρ26 w27 ⟨e0, e1, e2, e3, e4, e9, b2, b8, fB⟩ h
            unfold crc_Table.s3 at h
            refine cw_seq ?_
            refine cw_region ?_
            refine ol_val (v := .bool (decide (s22.2 < 4))) (by exact xr_lss rfl e9 rfl) rfl rfl rfl ?_
            refine ol_nil ?_
            refine cw_seq ?_
            rcases is h with ⟨c29, h⟩ | ⟨c29, h⟩
            · refine cw_condT rfl c29 ?_
              refine cw_skip ?_
              refine cw_seq ?_
              refine cw_block ?_
              refine cw_region ?_
              refine ol_val (v := .int .u32 s22.1) (by exact xr_move rfl e3) rfl rfl rfl ?_
              obtain ⟨t30, k31, h⟩ := bs h
              refine ol_op (by exact opv_call rfl cal156 (ac rfl an) (crc_step.ok fu _ s22.1 _ k31)) rfl rfl rfl ?_
              rintro _ w33 ⟨rfl, q32⟩
              have b2 := b2.gr q32
              have b8 := b8.gr q32
              have fB := fB.gr q32
              refine ol_val (v := .int .u32 t30) (by exact xr_assign rfl rfl) rfl rfl rfl ?_
              refine ol_nil ?_
              refine blk_i ?_
              refine cw_region ?_
              refine ol_val (v := .int .i64 (IntKind.i64.wrap (s22.2 + 1))) (by exact xr_add rfl e9 rfl) rfl rfl rfl ?_
              refine ol_val (v := .int .i64 (IntKind.i64.wrap (s22.2 + 1))) (by exact xr_move rfl rfl) rfl rfl rfl ?_
              refine ol_nil ?_
              obtain rfl := Option.some.inj h
              refine lp_in ?_
              exact ⟨e0, e1, e2, rfl, e4, rfl, b2, b8, fB⟩
            · refine cw_condF rfl c29 ?_
              refine cw_exit ?_
              repeat (first | with_reducible refine thn_e ?_ | with_reducible refine blk_e rfl ?_)
              obtain rfl := Option.some.inj h
              refine lp_exit ?_
              rintro rfl
              refine thn_x ?_
              exact ⟨e0, e1, e2, e3, e4, b2, b8, fB⟩
        · rintro ρ34 w35 ⟨e0, e1, e2, e3, e4, b2, b8, fB⟩
          have h := h25
          refine cw_region ?_
          refine ol_val (v := .int .i64 s14.1) (by exact xr_move rfl e2) rfl rfl rfl ?_
          refine ol_val (v := .int .u32 e23) (by exact xr_move rfl e3) rfl rfl rfl ?_
          obtain ⟨g36, h⟩ := gs h
          refine ol_val (v := .pointer (some ⟨G7, 0 + Int.toNat s14.1 * 1, none⟩)) (by exact xr_indexA (p := 0) (s := 1) rfl Try.underlying205 sz191 e1 rfl g36.1 g36.2) rfl rfl rfl ?_
          refine ol_op0 (by exact opv_store (ss' := [Kd.seg (kA 16 (kI .u32)) (Arr.set s14.2 s14.1 e23)]) (xs := cellsOf [Seg.cell (.int .u32 e23)]) rfl sz191 rfl rfl rfl (len_cellsOf _) (one_cellsOf _) b8 (Spl.seg_in _ 0 (Kd.seg (kA 16 (kI .u32)) (Arr.set s14.2 s14.1 e23)) rfl rfl (Spl.arr s14.2 s14.1 e23 g36.1 g36.2 (Spl.whole ((Kd.len _ _).trans (Kd.len _ _).symm))))) rfl rfl ?_
          rintro _ w38 ⟨b8, q37⟩
          have b2 := b2.wr q37 n13
          have fB := fB.wr q37 z10
          refine ol_nil ?_
          refine blk_i ?_
          refine cw_region ?_
          refine ol_val (v := .int .i64 (IntKind.i64.wrap (s14.1 + 1))) (by exact xr_add rfl e4 rfl) rfl rfl rfl ?_
          refine ol_val (v := .int .i64 (IntKind.i64.wrap (s14.1 + 1))) (by exact xr_move rfl rfl) rfl rfl rfl ?_
          refine ol_nil ?_
          obtain rfl := Option.some.inj h
          refine lp_in ?_
          exact ⟨e0, e1, rfl, b2, b8, fB⟩
      · refine cw_condF rfl c21 ?_
        refine cw_exit ?_
        repeat (first | with_reducible refine thn_e ?_ | with_reducible refine blk_e rfl ?_)
        obtain rfl := Option.some.inj h
        refine lp_exit ?_
        rintro rfl
        refine thn_x ?_
        exact ⟨e0, e1, b2, b8, fB⟩
  · rintro ρ39 w40 ⟨e0, e1, b2, b8, fB⟩
    have h := h17
    refine cw_seq ?_
    refine cw_region ?_
    refine ol_val (v := aggV [Kd.seg (kA 16 (kI .u32)) e15]) (by exact xr_loadS (ss := [Kd.seg (kA 16 (kI .u32)) e15]) rfl ag205 sz205 rfl e1 (b8.segs 0 1 rfl)) rfl rfl rfl ?_
    refine ol_op0 (by exact opv_store (ss' := [Kd.seg (kA 16 (kI .u32)) e15]) (xs := cellsOf [Kd.seg (kA 16 (kI .u32)) e15]) rfl sz205 e0 rfl rfl (len_cellsOf _) (one_cellsOf _) b2 (Spl.segs _ 0 1 [Kd.seg (kA 16 (kI .u32)) e15] rfl rfl)) rfl rfl ?_
    rintro _ w42 ⟨b2, q41⟩
    have fB := fB.wr q41 z4
    refine ol_nil ?_
    refine cw_ret ?_
    repeat (first | with_reducible refine thn_r ?_ | with_reducible refine blk_r ?_)
    obtain rfl := Option.some.inj h
    refine fin_cell Try.results154 e0 ag205 sz205 b2 (by rfl) ?_
    exact ⟨_, rfl, rfl, fB⟩
end Go.Proofs.Ytklhbaghbmndeaa

/- rickyard/crc.register: its model, and that the Go function computes it: written by gen.py. -/
set_option linter.unusedVariables false
namespace Go.Proofs.Ytklhbaghbmndeaa
open Go Go.Xw
def crc_register.s0 (fu : Nat) (a0 : Arr 16 Int) (a2 : List Int) : (Int × Int) → Option (Sum Int (Int × Int)) := fun s1 => (if (decide (s1.2 < (List.length a2 : Int))) = true then (if 0 ≤ s1.2 ∧ s1.2 < (List.length a2 : Int) then (if 0 ≤ (bAnd .u32 (bXor .u32 s1.1 (IntKind.u32.wrap (ix a2 s1.2))) 15) ∧ (bAnd .u32 (bXor .u32 s1.1 (IntKind.u32.wrap (ix a2 s1.2))) 15) < 16 then (if 0 ≤ (bAnd .u32 (bXor .u32 (shR .u32 (bXor .u32 s1.1 (IntKind.u32.wrap (ix a2 s1.2))) 4) (Arr.get a0 (bAnd .u32 (bXor .u32 s1.1 (IntKind.u32.wrap (ix a2 s1.2))) 15))) 15) ∧ (bAnd .u32 (bXor .u32 (shR .u32 (bXor .u32 s1.1 (IntKind.u32.wrap (ix a2 s1.2))) 4) (Arr.get a0 (bAnd .u32 (bXor .u32 s1.1 (IntKind.u32.wrap (ix a2 s1.2))) 15))) 15) < 16 then some (Sum.inr ((bXor .u32 (shR .u32 (bXor .u32 (shR .u32 (bXor .u32 s1.1 (IntKind.u32.wrap (ix a2 s1.2))) 4) (Arr.get a0 (bAnd .u32 (bXor .u32 s1.1 (IntKind.u32.wrap (ix a2 s1.2))) 15))) 4) (Arr.get a0 (bAnd .u32 (bXor .u32 (shR .u32 (bXor .u32 s1.1 (IntKind.u32.wrap (ix a2 s1.2))) 4) (Arr.get a0 (bAnd .u32 (bXor .u32 s1.1 (IntKind.u32.wrap (ix a2 s1.2))) 15))) 15))), (IntKind.i64.wrap (s1.2 + 1)))) else none) else none) else none) else some (Sum.inl (s1.1)))
def crc_register.f (fu : Nat) (a0 : Arr 16 Int) (a1 : Int) (a2 : List Int) : Option Int := ((loopM (crc_register.s0 fu a0 a2) fu (a1, 0)).bind fun e2 => some (e2))
set_option maxRecDepth 100000 in
set_option maxHeartbeats 400000 in
theorem crc_register.ok (fu : Nat) (w : World) (a0 : Arr 16 Int) (G_0 : Nat) (b_0 : Blk w G_0 205 [Kd.seg (kA 16 (kI .u32)) a0]) (a1 : Int) (a2 : List Int) (V2_0 : Value) (R2_0 : Rd (kI .u8) w V2_0 a2) (r : Int) (h : crc_register.f fu a0 a1 a2 = some r) :
    Calls Try.prog 155 (([.pointer (some ⟨G_0, 0, none⟩), .int .u32 a1, V2_0] : List Value).toArray) w (fun e w' => ∃ v, e = .returned v ∧ v = .int .u32 r ∧ Gr w w') := by
  unfold crc_register.f at h
  have fB : Gr w w := Fr.refl _ _
  refine calls_cw Try.func155 rfl Try.ntmps155 rfl ?_
  refine cw_seq ?_
  refine cw_region ?_
  refine ol_val (v := .int .u32 0) (by exact xr_assign rfl rfl) rfl rfl rfl ?_
  refine ol_nil ?_
  refine cw_seq ?_
  refine cw_seq ?_
  refine cw_region ?_
  refine ol_val (v := V2_0) (by exact xr_move rfl rfl) rfl rfl rfl ?_
  refine ol_val (v := .int .i64 (List.length a2 : Int)) (by exact xr_lenR rfl Try.underlying43 rfl (R2_0.gr fB)) rfl rfl rfl ?_
  refine ol_val (v := .int .i64 0) (by exact xr_move rfl rfl) rfl rfl rfl ?_
  refine ol_nil ?_
  obtain ⟨e2, l3, h4⟩ := bs h
  refine cw_mid (fun ρ' w' => ρ' 1 = .int .u32 e2 ∧ Blk w' G_0 205 [Kd.seg (kA 16 (kI .u32)) a0] ∧ Gr w w') ?_ ?_
  · refine cw_block ?_
    refine cw_round (fun (s1 : Int × Int) ρ' w' => ρ' 0 = .pointer (some ⟨G_0, 0, none⟩) ∧ ρ' 1 = .int .u32 s1.1 ∧ ρ' 9 = V2_0 ∧ ρ' 10 = .int .i64 (List.length a2 : Int) ∧ ρ' 11 = .int .i64 s1.2 ∧ Blk w' G_0 205 [Kd.seg (kA 16 (kI .u32)) a0] ∧ Gr w w') l3 ?_ ?_
    · skip
      exact ⟨rfl, rfl, rfl, rfl, rfl, b_0, fB⟩
    · rintro s1 x7 ρ5 w6 ⟨e0, e1, e9, e10, e11, b_0, fB⟩ h
      unfold crc_register.s0 at h
      refine cw_seq ?_
      refine cw_region ?_
      refine ol_val (v := .bool (decide (s1.2 < (List.length a2 : Int)))) (by exact xr_lss rfl e11 e10) rfl rfl rfl ?_
      refine ol_nil ?_
      refine cw_seq ?_
      rcases is h with ⟨c8, h⟩ | ⟨c8, h⟩
      · refine cw_condT rfl c8 ?_
        refine cw_skip ?_
        refine cw_seq ?_
        refine cw_block ?_
        refine cw_seq ?_
        refine cw_region ?_
        obtain ⟨g9, h⟩ := gs h
        refine ol_val (v := .pointer (some ⟨(sb V2_0), so V2_0 + Int.toNat s1.2 * 1, none⟩)) (by exact xr_indexR (K := (kI .u8)) (v := V2_0) rfl Try.underlying43 sz5 e9 (R2_0.gr fB) e11 g9.1 g9.2) rfl rfl rfl ?_
        refine ol_val (v := .int .u8 (ix a2 s1.2)) (by exact xr_load1 (v := .int .u8 (ix a2 s1.2)) rfl ag5 rfl ((R2_0.gr fB).elem g9.1 g9.2)) rfl rfl rfl ?_
        refine ol_val (v := .int .u8 (ix a2 s1.2)) (by exact xr_assign rfl rfl) rfl rfl rfl ?_
        refine ol_nil ?_
        refine cw_seq ?_
        refine cw_region ?_
        refine ol_val (v := .int .u32 s1.1) (by exact xr_move rfl e1) rfl rfl rfl ?_
        refine ol_val (v := .int .u8 (ix a2 s1.2)) (by exact xr_move rfl rfl) rfl rfl rfl ?_
        refine ol_val (v := .int .u32 (IntKind.u32.wrap (ix a2 s1.2))) (by exact xr_conv rfl Try.underlying5 Try.underlying191 rfl) rfl rfl rfl ?_
        refine ol_val (v := .int .u32 (bXor .u32 s1.1 (IntKind.u32.wrap (ix a2 s1.2)))) (by exact xr_xor rfl rfl rfl) rfl rfl rfl ?_
        refine ol_val (v := .int .u32 (bXor .u32 s1.1 (IntKind.u32.wrap (ix a2 s1.2)))) (by exact xr_assign rfl rfl) rfl rfl rfl ?_
        refine ol_nil ?_
        refine cw_seq ?_
        refine cw_region ?_
        refine ol_val (v := .int .u32 (bXor .u32 s1.1 (IntKind.u32.wrap (ix a2 s1.2)))) (by exact xr_move rfl rfl) rfl rfl rfl ?_
        refine ol_val (v := .int .u32 (shR .u32 (bXor .u32 s1.1 (IntKind.u32.wrap (ix a2 s1.2))) 4)) (by exact xr_shr rfl rfl rfl (by decide)) rfl rfl rfl ?_
        refine ol_val (v := .pointer (some ⟨G_0, 0, none⟩)) (by exact xr_move rfl e0) rfl rfl rfl ?_
        refine ol_val (v := .int .u32 (bXor .u32 s1.1 (IntKind.u32.wrap (ix a2 s1.2)))) (by exact xr_move rfl rfl) rfl rfl rfl ?_
        refine ol_val (v := .int .u32 (bAnd .u32 (bXor .u32 s1.1 (IntKind.u32.wrap (ix a2 s1.2))) 15)) (by exact xr_and rfl rfl rfl) rfl rfl rfl ?_
        refine ol_val (v := .pointer (some ⟨G_0, 0, none⟩)) (by exact xr_nilCheck rfl rfl) rfl rfl rfl ?_
        obtain ⟨g10, h⟩ := gs h
        refine ol_val (v := .pointer (some ⟨G_0, 0 + Int.toNat (bAnd .u32 (bXor .u32 s1.1 (IntKind.u32.wrap (ix a2 s1.2))) 15) * 1, none⟩)) (by exact xr_indexA (p := 0) (s := 1) rfl Try.underlying205 sz191 rfl rfl g10.1 g10.2) rfl rfl rfl ?_
        refine ol_val (v := .int .u32 (Arr.get a0 (bAnd .u32 (bXor .u32 s1.1 (IntKind.u32.wrap (ix a2 s1.2))) 15))) (by exact xr_load1 (v := .int .u32 (Arr.get a0 (bAnd .u32 (bXor .u32 s1.1 (IntKind.u32.wrap (ix a2 s1.2))) 15))) rfl ag191 rfl (At.arr (a := a0) (b_0.seg 0 rfl rfl) g10.1 g10.2)) rfl rfl rfl ?_
        refine ol_val (v := .int .u32 (bXor .u32 (shR .u32 (bXor .u32 s1.1 (IntKind.u32.wrap (ix a2 s1.2))) 4) (Arr.get a0 (bAnd .u32 (bXor .u32 s1.1 (IntKind.u32.wrap (ix a2 s1.2))) 15)))) (by exact xr_xor rfl rfl rfl) rfl rfl rfl ?_
        refine ol_val (v := .int .u32 (bXor .u32 (shR .u32 (bXor .u32 s1.1 (IntKind.u32.wrap (ix a2 s1.2))) 4) (Arr.get a0 (bAnd .u32 (bXor .u32 s1.1 (IntKind.u32.wrap (ix a2 s1.2))) 15)))) (by exact xr_assign rfl rfl) rfl rfl rfl ?_
        refine ol_nil ?_
        refine cw_region ?_
        refine ol_val (v := .int .u32 (bXor .u32 (shR .u32 (bXor .u32 s1.1 (IntKind.u32.wrap (ix a2 s1.2))) 4) (Arr.get a0 (bAnd .u32 (bXor .u32 s1.1 (IntKind.u32.wrap (ix a2 s1.2))) 15)))) (by exact xr_move rfl rfl) rfl rfl rfl ?_
        refine ol_val (v := .int .u32 (shR .u32 (bXor .u32 (shR .u32 (bXor .u32 s1.1 (IntKind.u32.wrap (ix a2 s1.2))) 4) (Arr.get a0 (bAnd .u32 (bXor .u32 s1.1 (IntKind.u32.wrap (ix a2 s1.2))) 15))) 4)) (by exact xr_shr rfl rfl rfl (by decide)) rfl rfl rfl ?_
        refine ol_val (v := .pointer (some ⟨G_0, 0, none⟩)) (by exact xr_move rfl e0) rfl rfl rfl ?_
        refine ol_val (v := .int .u32 (bXor .u32 (shR .u32 (bXor .u32 s1.1 (IntKind.u32.wrap (ix a2 s1.2))) 4) (Arr.get a0 (bAnd .u32 (bXor .u32 s1.1 (IntKind.u32.wrap (ix a2 s1.2))) 15)))) (by exact xr_move rfl rfl) rfl rfl rfl ?_
        refine ol_val (v := .int .u32 (bAnd .u32 (bXor .u32 (shR .u32 (bXor .u32 s1.1 (IntKind.u32.wrap (ix a2 s1.2))) 4) (Arr.get a0 (bAnd .u32 (bXor .u32 s1.1 (IntKind.u32.wrap (ix a2 s1.2))) 15))) 15)) (by exact xr_and rfl rfl rfl) rfl rfl rfl ?_
        refine ol_val (v := .pointer (some ⟨G_0, 0, none⟩)) (by exact xr_nilCheck rfl rfl) rfl rfl rfl ?_
        obtain ⟨g11, h⟩ := gs h
        refine ol_val (v := .pointer (some ⟨G_0, 0 + Int.toNat (bAnd .u32 (bXor .u32 (shR .u32 (bXor .u32 s1.1 (IntKind.u32.wrap (ix a2 s1.2))) 4) (Arr.get a0 (bAnd .u32 (bXor .u32 s1.1 (IntKind.u32.wrap (ix a2 s1.2))) 15))) 15) * 1, none⟩)) (by exact xr_indexA (p := 0) (s := 1) rfl Try.underlying205 sz191 rfl rfl g11.1 g11.2) rfl rfl rfl ?_
        refine ol_val (v := .int .u32 (Arr.get a0 (bAnd .u32 (bXor .u32 (shR .u32 (bXor .u32 s1.1 (IntKind.u32.wrap (ix a2 s1.2))) 4) (Arr.get a0 (bAnd .u32 (bXor .u32 s1.1 (IntKind.u32.wrap (ix a2 s1.2))) 15))) 15))) (by exact xr_load1 (v := .int .u32 (Arr.get a0 (bAnd .u32 (bXor .u32 (shR .u32 (bXor .u32 s1.1 (IntKind.u32.wrap (ix a2 s1.2))) 4) (Arr.get a0 (bAnd .u32 (bXor .u32 s1.1 (IntKind.u32.wrap (ix a2 s1.2))) 15))) 15))) rfl ag191 rfl (At.arr (a := a0) (b_0.seg 0 rfl rfl) g11.1 g11.2)) rfl rfl rfl ?_
        refine ol_val (v := .int .u32 (bXor .u32 (shR .u32 (bXor .u32 (shR .u32 (bXor .u32 s1.1 (IntKind.u32.wrap (ix a2 s1.2))) 4) (Arr.get a0 (bAnd .u32 (bXor .u32 s1.1 (IntKind.u32.wrap (ix a2 s1.2))) 15))) 4) (Arr.get a0 (bAnd .u32 (bXor .u32 (shR .u32 (bXor .u32 s1.1 (IntKind.u32.wrap (ix a2 s1.2))) 4) (Arr.get a0 (bAnd .u32 (bXor .u32 s1.1 (IntKind.u32.wrap (ix a2 s1.2))) 15))) 15)))) (by exact xr_xor rfl rfl rfl) rfl rfl rfl ?_
        refine ol_val (v := .int .u32 (bXor .u32 (shR .u32 (bXor .u32 (shR .u32 (bXor .u32 s1.1 (IntKind.u32.wrap (ix a2 s1.2))) 4) (Arr.get a0 (bAnd .u32 (bXor .u32 s1.1 (IntKind.u32.wrap (ix a2 s1.2))) 15))) 4) (Arr.get a0 (bAnd .u32 (bXor .u32 (shR .u32 (bXor .u32 s1.1 (IntKind.u32.wrap (ix a2 s1.2))) 4) (Arr.get a0 (bAnd .u32 (bXor .u32 s1.1 (IntKind.u32.wrap (ix a2 s1.2))) 15))) 15)))) (by exact xr_assign rfl rfl) rfl rfl rfl ?_
        refine ol_nil ?_
        refine blk_i ?_
        refine cw_region ?_
        refine ol_val (v := .int .i64 (IntKind.i64.wrap (s1.2 + 1))) (by exact xr_add rfl e11 rfl) rfl rfl rfl ?_
        refine ol_val (v := .int .i64 (IntKind.i64.wrap (s1.2 + 1))) (by exact xr_move rfl rfl) rfl rfl rfl ?_
        refine ol_nil ?_
        obtain rfl := Option.some.inj h
        refine lp_in ?_
        exact ⟨e0, rfl, e9, e10, rfl, b_0, fB⟩
      · refine cw_condF rfl c8 ?_
        refine cw_exit ?_
        repeat (first | with_reducible refine thn_e ?_ | with_reducible refine blk_e rfl ?_)
        obtain rfl := Option.some.inj h
        refine lp_exit ?_
        rintro rfl
        refine thn_x ?_
        exact ⟨e1, b_0, fB⟩
  · rintro ρ12 w13 ⟨e1, b_0, fB⟩
    have h := h4
    refine cw_seq ?_
    refine cw_region ?_
    refine ol_val (v := .int .u32 e2) (by exact xr_move rfl e1) rfl rfl rfl ?_
    refine ol_val (v := .int .u32 e2) (by exact xr_assign rfl rfl) rfl rfl rfl ?_
    refine ol_nil ?_
    refine cw_ret ?_
    repeat (first | with_reducible refine thn_r ?_ | with_reducible refine blk_r ?_)
    obtain rfl := Option.some.inj h
    refine fin_ret1 Try.results155 rfl ?_
    exact ⟨_, rfl, rfl, fB⟩
end Go.Proofs.Ytklhbaghbmndeaa

/- rickyard/crc.Sum: its model, and that the Go function computes it: written by gen.py. -/
set_option linter.unusedVariables false
namespace Go.Proofs.Ytklhbaghbmndeaa
open Go Go.Xw
def crc_Sum.s0 (fu : Nat) (a0 : List (List Int)) (t1 : (Arr 16 Int)) : (Int × Int) → Option (Sum Int (Int × Int)) := fun s13 => (if (decide (s13.2 < (List.length a0 : Int))) = true then (if 0 ≤ s13.2 ∧ s13.2 < (List.length a0 : Int) then ((crc_register.f fu t1 s13.1 (ix a0 s13.2) : Option Int).bind fun t23 => some (Sum.inr (t23, (IntKind.i64.wrap (s13.2 + 1))))) else none) else some (Sum.inl (s13.1)))
def crc_Sum.f (fu : Nat) (a0 : List (List Int)) : Option Int := ((crc_Table.f fu : Option (Arr 16 Int)).bind fun t1 => ((loopM (crc_Sum.s0 fu a0 t1) fu (4294967295, 0)).bind fun e14 => some ((bXor .u32 e14 4294967295))))
set_option maxRecDepth 100000 in
set_option maxHeartbeats 400000 in
theorem crc_Sum.ok (fu : Nat) (w : World) (a0 : List (List Int)) (V0_0 : Value) (R0_0 : Rds (kI .u8) w V0_0 a0) (r : Int) (h : crc_Sum.f fu a0 = some r) :
    Calls Try.prog 149 (([V0_0] : List Value).toArray) w (fun e w' => ∃ v, e = .returned v ∧ v = .int .u32 r ∧ Gr w w') := by
  unfold crc_Sum.f at h
  have fB : Gr w w := Fr.refl _ _
  refine calls_cw Try.func149 rfl Try.ntmps149 rfl ?_
  refine cw_seq ?_
  refine cw_region ?_
  refine ol_val (v := .int .u32 0) (by exact xr_assign rfl rfl) rfl rfl rfl ?_
  refine ol_nil ?_
  refine cw_seq ?_
  refine cw_region ?_
  obtain ⟨t1, k2, h⟩ := bs h
  refine ol_op (by exact opv_call rfl cal154 an (crc_Table.ok fu _ _ k2)) rfl rfl rfl ?_
  rintro _ w4 ⟨rfl, q3⟩
  have fB := fB.gr q3
  refine ol_op (by exact opv_alloc (ss := [Kd.seg (kA 16 (kI .u32)) (Arr.rep 16 (0 : Int))]) rfl ze205 rfl) rfl rfl rfl ?_
  rintro _ w10 ⟨G5, rfl, b6, q7, z8⟩
  have z8 := Nat.le_trans fB.size z8
  have fB := fB.gr q7
  refine ol_op0 (by exact opv_store (ss' := [Kd.seg (kA 16 (kI .u32)) t1]) (xs := cellsOf [Kd.seg (kA 16 (kI .u32)) t1]) rfl sz205 rfl rfl rfl (len_cellsOf _) (one_cellsOf _) b6 (Spl.segs _ 0 1 [Kd.seg (kA 16 (kI .u32)) t1] rfl rfl)) rfl rfl ?_
  rintro _ w12 ⟨b6, q11⟩
  have fB := fB.wr q11 z8
  refine ol_val (v := .int .u32 4294967295) (by exact xr_assign rfl rfl) rfl rfl rfl ?_
  refine ol_nil ?_
  refine cw_seq ?_
  refine cw_seq ?_
  refine cw_region ?_
  refine ol_val (v := V0_0) (by exact xr_move rfl rfl) rfl rfl rfl ?_
  refine ol_val (v := .int .i64 (List.length a0 : Int)) (by exact xr_lenRs rfl Try.underlying100 rfl (R0_0.gr fB)) rfl rfl rfl ?_
  refine ol_val (v := .int .i64 0) (by exact xr_move rfl rfl) rfl rfl rfl ?_
  refine ol_nil ?_
  obtain ⟨e14, l15, h16⟩ := bs h
  refine cw_mid (fun ρ' w' => ρ' 4 = .int .u32 e14 ∧ Gr w w') ?_ ?_
  · refine cw_block ?_
    refine cw_round (fun (s13 : Int × Int) ρ' w' => ρ' 3 = .pointer (some ⟨G5, 0, none⟩) ∧ ρ' 4 = .int .u32 s13.1 ∧ ρ' 8 = V0_0 ∧ ρ' 9 = .int .i64 (List.length a0 : Int) ∧ ρ' 10 = .int .i64 s13.2 ∧ Blk w' G5 205 [Kd.seg (kA 16 (kI .u32)) t1] ∧ Gr w w') l15 ?_ ?_
    · skip
      exact ⟨rfl, rfl, rfl, rfl, rfl, b6, fB⟩
    · rintro s13 x19 ρ17 w18 ⟨e3, e4, e8, e9, e10, b6, fB⟩ h
      unfold crc_Sum.s0 at h
      refine cw_seq ?_
      refine cw_region ?_
      refine ol_val (v := .bool (decide (s13.2 < (List.length a0 : Int)))) (by exact xr_lss rfl e10 e9) rfl rfl rfl ?_
      refine ol_nil ?_
      refine cw_seq ?_
      rcases is h with ⟨c20, h⟩ | ⟨c20, h⟩
      · refine cw_condT rfl c20 ?_
        refine cw_skip ?_
        refine cw_seq ?_
        refine cw_block ?_
        refine cw_seq ?_
        refine cw_region ?_
        obtain ⟨g21, h⟩ := gs h
        refine ol_val (v := .pointer (some ⟨(sb V0_0), so V0_0 + Int.toNat s13.2 * 1, none⟩)) (by exact xr_indexRs (v := V0_0) rfl Try.underlying100 sz43 e8 (R0_0.gr fB) e10 g21.1 g21.2) rfl rfl rfl ?_
        refine ol_val (v := inner w18 V0_0 s13.2) (by exact xr_load1 (v := inner w18 V0_0 s13.2) rfl ag43 rfl ((R0_0.gr fB).elem g21.1 g21.2).1) rfl rfl rfl ?_
        have r22 : Rd (kI .u8) w18 (inner w18 V0_0 s13.2) (ix a0 s13.2) := ((R0_0.gr fB).elem g21.1 g21.2).2
        refine ol_val (v := inner w18 V0_0 s13.2) (by exact xr_assign rfl rfl) rfl rfl rfl ?_
        refine ol_nil ?_
        refine cw_region ?_
        refine ol_val (v := .int .u32 s13.1) (by exact xr_move rfl e4) rfl rfl rfl ?_
        refine ol_val (v := inner w18 V0_0 s13.2) (by exact xr_move rfl rfl) rfl rfl rfl ?_
        obtain ⟨t23, k24, h⟩ := bs h
        refine ol_op (by exact opv_call rfl cal155 (ac e3 (ac rfl (ac rfl an))) (crc_register.ok fu _ t1 G5 b6 s13.1 (ix a0 s13.2) (inner w18 V0_0 s13.2) (r22) _ k24)) rfl rfl rfl ?_
        rintro _ w26 ⟨rfl, q25⟩
        have b6 := b6.gr q25
        have fB := fB.gr q25
        refine ol_val (v := .int .u32 t23) (by exact xr_assign rfl rfl) rfl rfl rfl ?_
        refine ol_nil ?_
        refine blk_i ?_
        refine cw_region ?_
        refine ol_val (v := .int .i64 (IntKind.i64.wrap (s13.2 + 1))) (by exact xr_add rfl e10 rfl) rfl rfl rfl ?_
        refine ol_val (v := .int .i64 (IntKind.i64.wrap (s13.2 + 1))) (by exact xr_move rfl rfl) rfl rfl rfl ?_
        refine ol_nil ?_
        obtain rfl := Option.some.inj h
        refine lp_in ?_
        exact ⟨e3, rfl, e8, e9, rfl, b6, fB⟩
      · refine cw_condF rfl c20 ?_
        refine cw_exit ?_
        repeat (first | with_reducible refine thn_e ?_ | with_reducible refine blk_e rfl ?_)
        obtain rfl := Option.some.inj h
        refine lp_exit ?_
        rintro rfl
        refine thn_x ?_
        exact ⟨e4, fB⟩
  · rintro ρ27 w28 ⟨e4, fB⟩
    have h := h16
    refine cw_seq ?_
    refine cw_region ?_
    refine ol_val (v := .int .u32 e14) (by exact xr_move rfl e4) rfl rfl rfl ?_
    refine ol_val (v := .int .u32 (bXor .u32 e14 4294967295)) (by exact xr_xor rfl rfl rfl) rfl rfl rfl ?_
    refine ol_val (v := .int .u32 (bXor .u32 e14 4294967295)) (by exact xr_assign rfl rfl) rfl rfl rfl ?_
    refine ol_nil ?_
    refine cw_ret ?_
    repeat (first | with_reducible refine thn_r ?_ | with_reducible refine blk_r ?_)
    obtain rfl := Option.some.inj h
    refine fin_ret1 Try.results149 rfl ?_
    exact ⟨_, rfl, rfl, fB⟩
end Go.Proofs.Ytklhbaghbmndeaa

/- rickyard/rickyardref02.Step: its model, and that the Go function computes it: written by gen.py. -/
set_option linter.unusedVariables false
namespace Go.Proofs.Ytklhbaghbmndeaa
open Go Go.Xw
def rickyardref02_Step.f (fu : Nat) (a0 : Int) : Option Int := (if (decide ((Int.tmod a0 2) = 1)) = true then some ((bXor .u32 (IntKind.u32.wrap (Int.tdiv a0 2)) 2197175160)) else some ((IntKind.u32.wrap (Int.tdiv a0 2))))
set_option maxRecDepth 100000 in
set_option maxHeartbeats 400000 in
theorem rickyardref02_Step.ok (fu : Nat) (w : World) (a0 : Int) (r : Int) (h : rickyardref02_Step.f fu a0 = some r) :
    Calls Try.prog 153 (([.int .u32 a0] : List Value).toArray) w (fun e w' => ∃ v, e = .returned v ∧ v = .int .u32 r ∧ Gr w w') := by
  unfold rickyardref02_Step.f at h
  have fB : Gr w w := Fr.refl _ _
  refine calls_cw Try.func153 rfl Try.ntmps153 rfl ?_
  refine cw_seq ?_
  refine cw_region ?_
  refine ol_val (v := .int .u32 0) (by exact xr_assign rfl rfl) rfl rfl rfl ?_
  refine ol_nil ?_
  refine cw_seq ?_
  refine cw_seq ?_
  refine cw_region ?_
  refine ol_val (v := .int .u32 a0) (by exact xr_move rfl rfl) rfl rfl rfl ?_
  refine ol_val (v := .int .u32 (Int.tmod a0 2)) (by exact xr_rem rfl rfl rfl (by decide)) rfl rfl rfl ?_
  refine ol_val (v := .bool (decide ((Int.tmod a0 2) = 1))) (by exact xr_eqI rfl Try.underlying191 rfl rfl rfl) rfl rfl rfl ?_
  refine ol_nil ?_
  rcases is h with ⟨c1, h⟩ | ⟨c1, h⟩
  · refine cw_condT rfl c1 ?_
    refine cw_seq ?_
    refine cw_region ?_
    refine ol_val (v := .int .u32 a0) (by exact xr_move rfl rfl) rfl rfl rfl ?_
    refine ol_val (v := .int .u32 (IntKind.u32.wrap (Int.tdiv a0 2))) (by exact xr_quo rfl rfl rfl (by decide)) rfl rfl rfl ?_
    refine ol_val (v := .int .u32 (bXor .u32 (IntKind.u32.wrap (Int.tdiv a0 2)) 2197175160)) (by exact xr_xor rfl rfl rfl) rfl rfl rfl ?_
    refine ol_val (v := .int .u32 (bXor .u32 (IntKind.u32.wrap (Int.tdiv a0 2)) 2197175160)) (by exact xr_assign rfl rfl) rfl rfl rfl ?_
    refine ol_nil ?_
    refine cw_ret ?_
    repeat (first | with_reducible refine thn_r ?_ | with_reducible refine blk_r ?_)
    obtain rfl := Option.some.inj h
    refine fin_ret1 Try.results153 rfl ?_
    exact ⟨_, rfl, rfl, fB⟩
  · refine cw_condF rfl c1 ?_
    refine cw_skip ?_
    refine cw_seq ?_
    refine cw_region ?_
    refine ol_val (v := .int .u32 a0) (by exact xr_move rfl rfl) rfl rfl rfl ?_
    refine ol_val (v := .int .u32 (IntKind.u32.wrap (Int.tdiv a0 2))) (by exact xr_quo rfl rfl rfl (by decide)) rfl rfl rfl ?_
    refine ol_val (v := .int .u32 (IntKind.u32.wrap (Int.tdiv a0 2))) (by exact xr_assign rfl rfl) rfl rfl rfl ?_
    refine ol_nil ?_
    refine cw_ret ?_
    repeat (first | with_reducible refine thn_r ?_ | with_reducible refine blk_r ?_)
    obtain rfl := Option.some.inj h
    refine fin_ret1 Try.results153 rfl ?_
    exact ⟨_, rfl, rfl, fB⟩
end Go.Proofs.Ytklhbaghbmndeaa
