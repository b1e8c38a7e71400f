/- PmemActs: texts merged, part 6 of 8. The last part proves that the law PmemActs holds for every input. -/
import Derived.Test.YtklhbaghbmndeaaPkPmemActs5
import Derived.ProofKit
import Derived.OpenShut
import Derived.ChangeOld
import Derived.Below
import Derived.SizedLaws
import Derived.WalkKit
/- rickyard/rickyardlaw05.PmemActs: its model, and that the Go function computes it: written by gen.py. -/
set_option linter.unusedVariables false
namespace Go.Proofs.Ytklhbaghbmndeaa
open Go Go.Xw
def rickyardlaw05_PmemActs.s0 (fu : Nat) (a1 : List S_rickyardlaw05_Act) : (Int × (List S_pmem_cell) × (List Int) × Int × Bool × Bool × Int × Int × (List Int) × (List Int) × (List Int) × (List Bool) × (List Int) × Int × Int × Int) → Option (Sum (Sum Bool ((List S_pmem_cell) × (List Int) × Int × Bool × Bool × Int × Int × (List Int) × (List Int) × (List Int) × (List Bool) × (List Int) × Int × Int × Int)) (Int × (List S_pmem_cell) × (List Int) × Int × Bool × Bool × Int × Int × (List Int) × (List Int) × (List Int) × (List Bool) × (List Int) × Int × Int × Int)) := fun s90 => (if (decide (s90.1 < (List.length a1 : Int))) = true then (if 0 ≤ s90.1 ∧ s90.1 < (List.length a1 : Int) then ((rickyardlaw05_Do.f fu (⟨s90.2.1, (⟨s90.2.2.1, s90.2.2.2.1⟩ : S_pmem_plan), s90.2.2.2.2.1, s90.2.2.2.2.2.1, s90.2.2.2.2.2.2.1, s90.2.2.2.2.2.2.2.1⟩ : S_pmem_Device) (ix a1 s90.1) : Option (Int × Int × S_pmem_Device)).bind fun t146 => (if 0 ≤ s90.1 ∧ s90.1 < (List.length a1 : Int) then ((rickyardlaw05_Refs.f fu (⟨s90.2.2.2.2.2.2.2.2.1, s90.2.2.2.2.2.2.2.2.2.1, s90.2.2.2.2.2.2.2.2.2.2.1, s90.2.2.2.2.2.2.2.2.2.2.2.1, s90.2.2.2.2.2.2.2.2.2.2.2.2.1, s90.2.2.2.2.2.2.2.2.2.2.2.2.2.1, s90.2.2.2.2.2.2.2.2.2.2.2.2.2.2.1, s90.2.2.2.2.2.2.2.2.2.2.2.2.2.2.2⟩ : S_rickyardref05_Device) (ix a1 s90.1) : Option (Int × Int × S_rickyardref05_Device)).bind fun t167 => (((if (!decide (t146.1 = t167.1)) = true then some (true) else (if (!decide (t146.2.1 = t167.2.1)) = true then some (true) else ((pmem_Device_Steps.f fu t146.2.2 : Option Int).bind fun t209 => (if (!decide (t209 = t167.2.2.Steps)) = true then some (true) else ((pmem_Device_Up.f fu t146.2.2 : Option Bool).bind fun t216 => (if (!decide (t216 = (!decide (t167.2.2.Left = 0)))) = true then some (true) else ((pmem_Device_Fates.f fu t146.2.2 : Option (List S_api_Fate)).bind fun t223 => ((rickyardref05_Device_Fates.f fu t167.2.2 : Option (List S_api_Fate)).bind fun t229 => ((rickyardref05_Same.f fu t223 t229 : Option Bool).bind fun t235 => some ((!t235))))))))))) : Option Bool).bind fun x199 => (if x199 = true then some (Sum.inl (Sum.inl (false))) else ((((pmem_Device_Image.f fu t146.2.2 : Option (List Int)).bind fun t253 => ((rickyardref05_Text.f fu t167.2.2.Lasts : Option (List UInt8)).bind fun t259 => (if (!decide ((List.map toB t253) = t259)) = true then some (true) else ((pmem_Device_View.f fu t146.2.2 : Option (List Int)).bind fun t266 => ((rickyardref05_Text.f fu t167.2.2.Stored : Option (List UInt8)).bind fun t272 => some ((!decide ((List.map toB t266) = t272)))))))) : Option Bool).bind fun x251 => (if x251 = true then some (Sum.inl (Sum.inl (false))) else some (Sum.inr ((IntKind.i64.wrap (s90.1 + 1)), t146.2.2.cells, t146.2.2.plan.list, t146.2.2.plan.at_, t146.2.2.off, t146.2.2.armed, t146.2.2.left, t146.2.2.steps, t167.2.2.Lasts, t167.2.2.Stored, t167.2.2.Sent, t167.2.2.Flushed, t167.2.2.Plan, t167.2.2.Since, t167.2.2.Left, t167.2.2.Steps))))))) else none)) else none) else some (Sum.inl (Sum.inr (s90.2.1, s90.2.2.1, s90.2.2.2.1, s90.2.2.2.2.1, s90.2.2.2.2.2.1, s90.2.2.2.2.2.2.1, s90.2.2.2.2.2.2.2.1, s90.2.2.2.2.2.2.2.2.1, s90.2.2.2.2.2.2.2.2.2.1, s90.2.2.2.2.2.2.2.2.2.2.1, s90.2.2.2.2.2.2.2.2.2.2.2.1, s90.2.2.2.2.2.2.2.2.2.2.2.2.1, s90.2.2.2.2.2.2.2.2.2.2.2.2.2.1, s90.2.2.2.2.2.2.2.2.2.2.2.2.2.2.1, s90.2.2.2.2.2.2.2.2.2.2.2.2.2.2.2))))
def rickyardlaw05_PmemActs.f (fu : Nat) (a0 : Int) (a1 : List S_rickyardlaw05_Act) : Option Bool := ((((rickyardlaw05_awake.f fu : Option Bool).bind fun t3 => (if (!t3) = true then some (true) else ((rickyardlaw05_Small.f fu a1 60 : Option Bool).bind fun t8 => (if (!t8) = true then some (true) else (if (decide (a0 > 20)) = true then some ((decide (a0 ≤ 4096))) else some (false)))))) : Option Bool).bind fun x1 => (if x1 = true then ((rickyardlaw05_awake.f fu : Option Bool).bind fun t18 => some (t18)) else ((pmem_New.f fu a0 : Option ((Option S_pmem_Device) × Int)).bind fun t22 => (Option.elim t22.1 (if (if (decide (a0 < 0)) = true then true else (decide (a0 > 4096))) = true then some ((decide (t22.2 = 2))) else some (false)) (fun m29 => (if (if (decide (a0 < 0)) = true then true else (decide (a0 > 4096))) = true then some (false) else (((if (!decide (t22.2 = 0)) = true then some (true) else ((pmem_Device_Lines.f fu m29 : Option Int).bind fun t52 => some ((!decide (t52 = a0))))) : Option Bool).bind fun x49 => (if x49 = true then some (false) else ((rickyardref05_New.f fu a0 : Option S_rickyardref05_Device).bind fun t60 => ((loopM (rickyardlaw05_PmemActs.s0 fu a1) fu (0, m29.cells, m29.plan.list, m29.plan.at_, m29.off, m29.armed, m29.left, m29.steps, t60.Lasts, t60.Stored, t60.Sent, t60.Flushed, t60.Plan, t60.Since, t60.Left, t60.Steps)).bind fun e91 => match e91 with | Sum.inl p => some p | Sum.inr x94 => some (true)))))))))))
set_option maxRecDepth 100000 in
set_option maxHeartbeats 400000 in
theorem rickyardlaw05_PmemActs.ok (fu : Nat) (w : World) (a0 : Int) (a1 : List S_rickyardlaw05_Act) (V1_0 : Value) (R1_0 : RdN 4 D_rickyardlaw05_Act w V1_0 a1) (r : Bool) (h : rickyardlaw05_PmemActs.f fu a0 a1 = some r) :
    Calls Try.prog 7 (([.int .i64 a0, V1_0] : List Value).toArray) w (fun e w' => ∃ v, e = .returned v ∧ v = .bool r ∧ Gr w w') := by
  unfold rickyardlaw05_PmemActs.f at h
  have fB : Gr w w := Fr.refl _ _
  refine calls_cw Try.func7 rfl Try.ntmps7 rfl ?_
  refine cw_seq ?_
  refine cw_region ?_
  refine ol_val (v := .bool false) (by exact xr_assign rfl rfl) rfl rfl rfl ?_
  refine ol_nil ?_
  refine cw_seq ?_
  refine cw_seq ?_
  obtain ⟨x1, j2, h⟩ := bs h
  refine cw_mid (fun ρ' w' => ρ' 0 = .int .i64 a0 ∧ ρ' 1 = V1_0 ∧ ρ' 27 = .bool x1 ∧ Gr w w') ?_ ?_
  · skip
    refine cw_region ?_
    obtain ⟨t3, k4, j2⟩ := bs j2
    refine ol_op (by exact opv_call rfl cal24 an (rickyardlaw05_awake.ok fu _ _ k4)) rfl rfl rfl ?_
    rintro _ w6 ⟨rfl, q5⟩
    have fB := fB.gr q5
    refine ol_val (v := .bool (!t3)) (by exact xr_not rfl rfl) rfl rfl rfl ?_
    refine ol_val (v := .bool (!t3)) (by exact xr_move rfl rfl) rfl rfl rfl ?_
    rcases is j2 with ⟨c7, j2⟩ | ⟨c7, j2⟩
    · skip
      refine ol_gskip rfl rfl rfl rfl rfl c7 ?_
      refine ol_gskip rfl rfl rfl rfl rfl c7 ?_
      refine ol_gskip rfl rfl rfl rfl rfl c7 ?_
      refine ol_val (v := .bool true) (by exact xr_pickT rfl rfl c7 rfl) rfl rfl rfl ?_
      refine ol_val (v := .bool true) (by exact xr_move rfl rfl) rfl rfl rfl ?_
      refine ol_gskip rfl rfl rfl rfl rfl rfl ?_
      refine ol_gskip rfl rfl rfl rfl rfl rfl ?_
      refine ol_gskip rfl rfl rfl rfl rfl rfl ?_
      refine ol_uskip rfl rfl rfl rfl rfl ?_
      refine ol_uskip rfl rfl rfl rfl rfl ?_
      refine ol_gskip rfl rfl rfl rfl rfl rfl ?_
      refine ol_val (v := .bool true) (by exact xr_pickT rfl rfl rfl rfl) rfl rfl rfl ?_
      refine ol_nil ?_
      obtain rfl := Option.some.inj j2
      refine thn_i ?_
      exact ⟨rfl, rfl, rfl, q5⟩
    · skip
      refine ol_gval (v := V1_0) (by exact xr_move rfl rfl) rfl rfl rfl rfl rfl c7 ?_
      obtain ⟨t8, k9, j2⟩ := bs j2
      refine ol_gop (by exact opv_call rfl cal25 (ac rfl (ac rfl an)) (rickyardlaw05_Small.ok fu _ a1 V1_0 (RdN.gr R1_0 D_rickyardlaw05_Act.gr fB) 60 _ k9)) rfl rfl rfl rfl rfl c7 ?_
      rintro _ w11 ⟨rfl, q10⟩
      have fB := fB.gr q10
      refine ol_gval (v := .bool (!t8)) (by exact xr_not rfl rfl) rfl rfl rfl rfl rfl c7 ?_
      refine ol_val (v := .bool (!t8)) (by exact xr_pickF rfl rfl c7 rfl) rfl rfl rfl ?_
      refine ol_val (v := .bool (!t8)) (by exact xr_move rfl rfl) rfl rfl rfl ?_
      rcases is j2 with ⟨c12, j2⟩ | ⟨c12, j2⟩
      · skip
        refine ol_gskip rfl rfl rfl rfl rfl c12 ?_
        refine ol_gskip rfl rfl rfl rfl rfl c12 ?_
        refine ol_gskip rfl rfl rfl rfl rfl c12 ?_
        refine ol_uskip rfl rfl rfl rfl rfl ?_
        refine ol_uskip rfl rfl rfl rfl rfl ?_
        refine ol_gskip rfl rfl rfl rfl rfl c12 ?_
        refine ol_val (v := .bool true) (by exact xr_pickT rfl rfl c12 rfl) rfl rfl rfl ?_
        refine ol_nil ?_
        obtain rfl := Option.some.inj j2
        refine thn_i ?_
        exact ⟨rfl, rfl, rfl, (q5.gr q10)⟩
      · skip
        refine ol_gval (v := .int .i64 a0) (by exact xr_move rfl rfl) rfl rfl rfl rfl rfl c12 ?_
        refine ol_gval (v := .bool (decide (a0 > 20))) (by exact xr_gtr rfl rfl rfl) rfl rfl rfl rfl rfl c12 ?_
        refine ol_gval (v := .bool (decide (a0 > 20))) (by exact xr_move rfl rfl) rfl rfl rfl rfl rfl c12 ?_
        rcases is j2 with ⟨c13, j2⟩ | ⟨c13, j2⟩
        · skip
          refine ol_gval (v := .int .i64 a0) (by exact xr_move rfl rfl) rfl rfl rfl rfl rfl c13 ?_
          refine ol_gval (v := .bool (decide (a0 ≤ 4096))) (by exact xr_leq rfl rfl rfl) rfl rfl rfl rfl rfl c13 ?_
          refine ol_gval (v := .bool (decide (a0 ≤ 4096))) (by exact xr_pickT rfl rfl c13 rfl) rfl rfl rfl rfl rfl c12 ?_
          refine ol_val (v := .bool (decide (a0 ≤ 4096))) (by exact xr_pickF rfl rfl c12 rfl) rfl rfl rfl ?_
          refine ol_nil ?_
          obtain rfl := Option.some.inj j2
          refine thn_i ?_
          exact ⟨rfl, rfl, rfl, (q5.gr q10)⟩
        · skip
          refine ol_gskip rfl rfl rfl rfl rfl c13 ?_
          refine ol_gskip rfl rfl rfl rfl rfl c13 ?_
          refine ol_gval (v := .bool false) (by exact xr_pickF rfl rfl c13 rfl) rfl rfl rfl rfl rfl c12 ?_
          refine ol_val (v := .bool false) (by exact xr_pickF rfl rfl c12 rfl) rfl rfl rfl ?_
          refine ol_nil ?_
          obtain rfl := Option.some.inj j2
          refine thn_i ?_
          exact ⟨rfl, rfl, rfl, (q5.gr q10)⟩
  · skip
    rintro ρ14 w15 ⟨e0, e1, e27, q16⟩
    have fB := fB.gr q16
    rcases is h with ⟨c17, h⟩ | ⟨c17, h⟩
    · refine cw_condT e27 c17 ?_
      refine cw_seq ?_
      refine cw_region ?_
      obtain ⟨t18, k19, h⟩ := bs h
      refine ol_op (by exact opv_call rfl cal24 an (rickyardlaw05_awake.ok fu _ _ k19)) rfl rfl rfl ?_
      rintro _ w21 ⟨rfl, q20⟩
      have fB := fB.gr q20
      refine ol_val (v := .bool t18) (by exact xr_assign rfl rfl) rfl rfl rfl ?_
      refine ol_nil ?_
      refine cw_ret ?_
      repeat (first | with_reducible refine thn_r ?_ | with_reducible refine blk_r ?_)
      obtain rfl := Option.some.inj h
      refine fin_ret1 Try.results7 rfl ?_
      exact ⟨_, rfl, rfl, fB⟩
    · refine cw_condF e27 c17 ?_
      refine cw_skip ?_
      refine cw_seq ?_
      refine cw_region ?_
      refine ol_val (v := .int .i64 a0) (by exact xr_move rfl e0) rfl rfl rfl ?_
      obtain ⟨t22, k23, h⟩ := bs h
      refine ol_op (by exact opv_call rfl cal26 (ac rfl an) (pmem_New.ok fu _ a0 _ k23)) rfl rfl rfl ?_
      rintro _ w27 ⟨u24, p25, rfl, q26⟩
      rcases en h with ⟨e28, h⟩ | ⟨m29, e28, h⟩
      · obtain rfl := p25.1 e28
        have fB := fB.gr q26
        refine ol_val (v := .tuple #[.pointer none, .int .i64 t22.2]) (by exact xr_move rfl rfl) rfl rfl rfl ?_
        refine ol_val (v := .pointer none) (by exact xr_extract rfl rfl rfl) rfl rfl rfl ?_
        refine ol_val (v := .int .i64 t22.2) (by exact xr_extract rfl rfl rfl) rfl rfl rfl ?_
        refine ol_val (v := .pointer none) (by exact xr_assign rfl rfl) rfl rfl rfl ?_
        refine ol_val (v := .int .i64 t22.2) (by exact xr_assign rfl rfl) rfl rfl rfl ?_
        refine ol_nil ?_
        refine cw_seq ?_
        refine cw_seq ?_
        refine cw_mid (fun ρ' w' => ρ' 0 = .int .i64 a0 ∧ ρ' 1 = V1_0 ∧ ρ' 5 = .pointer none ∧ ρ' 6 = .int .i64 t22.2 ∧ ρ' 39 = .bool (if (decide (a0 < 0)) = true then true else (decide (a0 > 4096))) ∧ w27 = w') ?_ ?_
        · skip
          refine cw_region ?_
          refine ol_val (v := .int .i64 a0) (by exact xr_move rfl e0) rfl rfl rfl ?_
          refine ol_val (v := .bool (decide (a0 < 0))) (by exact xr_lss rfl rfl rfl) rfl rfl rfl ?_
          refine ol_val (v := .bool (decide (a0 < 0))) (by exact xr_move rfl rfl) rfl rfl rfl ?_
          rcases bt (decide (a0 < 0)) with c30 | c30
          · skip
            refine ol_gskip rfl rfl rfl rfl rfl c30 ?_
            refine ol_gskip rfl rfl rfl rfl rfl c30 ?_
            refine ol_val (v := .bool true) (by exact xr_pickT rfl rfl c30 rfl) rfl rfl rfl ?_
            refine ol_nil ?_
            refine thn_i ?_
            exact ⟨e0, e1, rfl, rfl, (rfl).trans (congrArg (fun z => (.bool z : Value)) (show true = (if (decide (a0 < 0)) = true then true else (decide (a0 > 4096))) from by rw [ite_t c30])), rfl⟩
          · skip
            refine ol_gval (v := .int .i64 a0) (by exact xr_move rfl e0) rfl rfl rfl rfl rfl c30 ?_
            refine ol_gval (v := .bool (decide (a0 > 4096))) (by exact xr_gtr rfl rfl rfl) rfl rfl rfl rfl rfl c30 ?_
            refine ol_val (v := .bool (decide (a0 > 4096))) (by exact xr_pickF rfl rfl c30 rfl) rfl rfl rfl ?_
            refine ol_nil ?_
            refine thn_i ?_
            exact ⟨e0, e1, rfl, rfl, (rfl).trans (congrArg (fun z => (.bool z : Value)) (show (decide (a0 > 4096)) = (if (decide (a0 < 0)) = true then true else (decide (a0 > 4096))) from by rw [ite_f c30])), rfl⟩
        · skip
          rintro ρ31 _ ⟨e0, e1, e5, e6, e39, rfl⟩
          rcases is h with ⟨c32, h⟩ | ⟨c32, h⟩
          · refine cw_condT e39 c32 ?_
            refine cw_seq ?_
            refine cw_mid (fun ρ' w' => ρ' 4 = .bool (decide (t22.2 = 2)) ∧ w27 = w') ?_ ?_
            · skip
              refine cw_region ?_
              refine ol_val (v := .pointer none) (by exact xr_move rfl e5) rfl rfl rfl ?_
              refine ol_val (v := .bool true) (by exact xr_eqP (b := true) rfl Try.underlying30 rfl rfl (by simp) (by simp)) rfl rfl rfl ?_
              refine ol_val (v := .bool true) (by exact xr_move rfl rfl) rfl rfl rfl ?_
              refine ol_gval (v := .int .i64 t22.2) (by exact xr_move rfl e6) rfl rfl rfl rfl rfl rfl ?_
              refine ol_gval (v := .bool (decide (t22.2 = 2))) (by exact xr_eqI rfl Try.underlying31 rfl rfl rfl) rfl rfl rfl rfl rfl rfl ?_
              refine ol_val (v := .bool (decide (t22.2 = 2))) (by exact xr_pickT rfl rfl rfl rfl) rfl rfl rfl ?_
              refine ol_val (v := .bool (decide (t22.2 = 2))) (by exact xr_assign rfl rfl) rfl rfl rfl ?_
              refine ol_nil ?_
              refine thn_i ?_
              exact ⟨rfl, rfl⟩
            · skip
              rintro ρ33 _ ⟨e4, rfl⟩
              refine cw_ret ?_
              repeat (first | with_reducible refine thn_r ?_ | with_reducible refine blk_r ?_)
              obtain rfl := Option.some.inj h
              refine fin_ret1 Try.results7 e4 ?_
              exact ⟨_, rfl, rfl, fB⟩
          · refine cw_condF e39 c32 ?_
            refine cw_skip ?_
            refine cw_seq ?_
            refine cw_seq ?_
            refine cw_mid (fun ρ' w' => ρ' 0 = .int .i64 a0 ∧ ρ' 1 = V1_0 ∧ ρ' 5 = .pointer none ∧ ρ' 57 = .bool true ∧ w27 = w') ?_ ?_
            · skip
              refine cw_region ?_
              refine ol_val (v := .pointer none) (by exact xr_move rfl e5) rfl rfl rfl ?_
              refine ol_val (v := .bool true) (by exact xr_eqP (b := true) rfl Try.underlying30 rfl rfl (by simp) (by simp)) rfl rfl rfl ?_
              refine ol_val (v := .bool true) (by exact xr_move rfl rfl) rfl rfl rfl ?_
              refine ol_gskip rfl rfl rfl rfl rfl rfl ?_
              refine ol_gskip rfl rfl rfl rfl rfl rfl ?_
              refine ol_val (v := .bool true) (by exact xr_pickT rfl rfl rfl rfl) rfl rfl rfl ?_
              refine ol_val (v := .bool true) (by exact xr_move rfl rfl) rfl rfl rfl ?_
              refine ol_gskip rfl rfl rfl rfl rfl rfl ?_
              refine ol_gskip rfl rfl rfl rfl rfl rfl ?_
              refine ol_gskip rfl rfl rfl rfl rfl rfl ?_
              refine ol_gskip rfl rfl rfl rfl rfl rfl ?_
              refine ol_val (v := .bool true) (by exact xr_pickT rfl rfl rfl rfl) rfl rfl rfl ?_
              refine ol_nil ?_
              refine thn_i ?_
              exact ⟨e0, e1, e5, rfl, rfl⟩
            · skip
              rintro ρ34 _ ⟨e0, e1, e5, e57, rfl⟩
              refine cw_condT e57 rfl ?_
              refine cw_seq ?_
              refine cw_region ?_
              refine ol_val (v := .bool false) (by exact xr_assign rfl rfl) rfl rfl rfl ?_
              refine ol_nil ?_
              refine cw_ret ?_
              repeat (first | with_reducible refine thn_r ?_ | with_reducible refine blk_r ?_)
              obtain rfl := Option.some.inj h
              refine fin_ret1 Try.results7 rfl ?_
              exact ⟨_, rfl, rfl, fB⟩
      · skip
        obtain ⟨G35, u39, u42, o40, o43, rfl, z36, b37⟩ := p25.2 _ e28
        have o40 := Own.base o40 fB.size
        have o43 := Own.base o43 fB.size
        have z36 := Nat.le_trans fB.size z36
        have fB := fB.gr q26
        refine ol_val (v := .tuple #[.pointer (some ⟨G35, 0, none⟩), .int .i64 t22.2]) (by exact xr_move rfl rfl) rfl rfl rfl ?_
        refine ol_val (v := .pointer (some ⟨G35, 0, none⟩)) (by exact xr_extract rfl rfl rfl) rfl rfl rfl ?_
        refine ol_val (v := .int .i64 t22.2) (by exact xr_extract rfl rfl rfl) rfl rfl rfl ?_
        refine ol_val (v := .pointer (some ⟨G35, 0, none⟩)) (by exact xr_assign rfl rfl) rfl rfl rfl ?_
        refine ol_val (v := .int .i64 t22.2) (by exact xr_assign rfl rfl) rfl rfl rfl ?_
        refine ol_nil ?_
        refine cw_seq ?_
        refine cw_seq ?_
        refine cw_mid (fun ρ' w' => ρ' 0 = .int .i64 a0 ∧ ρ' 1 = V1_0 ∧ ρ' 5 = .pointer (some ⟨G35, 0, none⟩) ∧ ρ' 6 = .int .i64 t22.2 ∧ ρ' 39 = .bool (if (decide (a0 < 0)) = true then true else (decide (a0 > 4096))) ∧ w27 = w') ?_ ?_
        · skip
          refine cw_region ?_
          refine ol_val (v := .int .i64 a0) (by exact xr_move rfl e0) rfl rfl rfl ?_
          refine ol_val (v := .bool (decide (a0 < 0))) (by exact xr_lss rfl rfl rfl) rfl rfl rfl ?_
          refine ol_val (v := .bool (decide (a0 < 0))) (by exact xr_move rfl rfl) rfl rfl rfl ?_
          rcases bt (decide (a0 < 0)) with c45 | c45
          · skip
            refine ol_gskip rfl rfl rfl rfl rfl c45 ?_
            refine ol_gskip rfl rfl rfl rfl rfl c45 ?_
            refine ol_val (v := .bool true) (by exact xr_pickT rfl rfl c45 rfl) rfl rfl rfl ?_
            refine ol_nil ?_
            refine thn_i ?_
            exact ⟨e0, e1, rfl, rfl, (rfl).trans (congrArg (fun z => (.bool z : Value)) (show true = (if (decide (a0 < 0)) = true then true else (decide (a0 > 4096))) from by rw [ite_t c45])), rfl⟩
          · skip
            refine ol_gval (v := .int .i64 a0) (by exact xr_move rfl e0) rfl rfl rfl rfl rfl c45 ?_
            refine ol_gval (v := .bool (decide (a0 > 4096))) (by exact xr_gtr rfl rfl rfl) rfl rfl rfl rfl rfl c45 ?_
            refine ol_val (v := .bool (decide (a0 > 4096))) (by exact xr_pickF rfl rfl c45 rfl) rfl rfl rfl ?_
            refine ol_nil ?_
            refine thn_i ?_
            exact ⟨e0, e1, rfl, rfl, (rfl).trans (congrArg (fun z => (.bool z : Value)) (show (decide (a0 > 4096)) = (if (decide (a0 < 0)) = true then true else (decide (a0 > 4096))) from by rw [ite_f c45])), rfl⟩
        · skip
          rintro ρ46 _ ⟨e0, e1, e5, e6, e39, rfl⟩
          rcases is h with ⟨c47, h⟩ | ⟨c47, h⟩
          · refine cw_condT e39 c47 ?_
            refine cw_seq ?_
            refine cw_mid (fun ρ' w' => ρ' 4 = .bool false ∧ w27 = w') ?_ ?_
            · skip
              refine cw_region ?_
              refine ol_val (v := .pointer (some ⟨G35, 0, none⟩)) (by exact xr_move rfl e5) rfl rfl rfl ?_
              refine ol_val (v := .bool false) (by exact xr_eqP (b := false) rfl Try.underlying30 rfl rfl (by simp) (by simp)) rfl rfl rfl ?_
              refine ol_val (v := .bool false) (by exact xr_move rfl rfl) rfl rfl rfl ?_
              refine ol_gskip rfl rfl rfl rfl rfl rfl ?_
              refine ol_gskip rfl rfl rfl rfl rfl rfl ?_
              refine ol_val (v := .bool false) (by exact xr_pickF rfl rfl rfl rfl) rfl rfl rfl ?_
              refine ol_val (v := .bool false) (by exact xr_assign rfl rfl) rfl rfl rfl ?_
              refine ol_nil ?_
              refine thn_i ?_
              exact ⟨rfl, rfl⟩
            · skip
              rintro ρ48 _ ⟨e4, rfl⟩
              refine cw_ret ?_
              repeat (first | with_reducible refine thn_r ?_ | with_reducible refine blk_r ?_)
              obtain rfl := Option.some.inj h
              refine fin_ret1 Try.results7 e4 ?_
              exact ⟨_, rfl, rfl, fB⟩
          · refine cw_condF e39 c47 ?_
            refine cw_skip ?_
            refine cw_seq ?_
            refine cw_seq ?_
            obtain ⟨x49, j50, h⟩ := bs h
            refine cw_mid (fun ρ' w' => ρ' 0 = .int .i64 a0 ∧ ρ' 1 = V1_0 ∧ ρ' 5 = .pointer (some ⟨G35, 0, none⟩) ∧ ρ' 57 = .bool x49 ∧ Gr w27 w') ?_ ?_
            · skip
              refine cw_region ?_
              refine ol_val (v := .pointer (some ⟨G35, 0, none⟩)) (by exact xr_move rfl e5) rfl rfl rfl ?_
              refine ol_val (v := .bool false) (by exact xr_eqP (b := false) rfl Try.underlying30 rfl rfl (by simp) (by simp)) rfl rfl rfl ?_
              refine ol_val (v := .bool false) (by exact xr_move rfl rfl) rfl rfl rfl ?_
              refine ol_gval (v := .int .i64 t22.2) (by exact xr_move rfl e6) rfl rfl rfl rfl rfl rfl ?_
              refine ol_gval (v := .bool (!decide (t22.2 = 0))) (by exact xr_neI rfl Try.underlying31 rfl rfl rfl) rfl rfl rfl rfl rfl rfl ?_
              refine ol_val (v := .bool (!decide (t22.2 = 0))) (by exact xr_pickF rfl rfl rfl rfl) rfl rfl rfl ?_
              refine ol_val (v := .bool (!decide (t22.2 = 0))) (by exact xr_move rfl rfl) rfl rfl rfl ?_
              rcases is j50 with ⟨c51, j50⟩ | ⟨c51, j50⟩
              · skip
                refine ol_gskip rfl rfl rfl rfl rfl c51 ?_
                refine ol_gskip rfl rfl rfl rfl rfl c51 ?_
                refine ol_gskip rfl rfl rfl rfl rfl c51 ?_
                refine ol_gskip rfl rfl rfl rfl rfl c51 ?_
                refine ol_val (v := .bool true) (by exact xr_pickT rfl rfl c51 rfl) rfl rfl rfl ?_
                refine ol_nil ?_
                obtain rfl := Option.some.inj j50
                refine thn_i ?_
                exact ⟨e0, e1, e5, rfl, Fr.refl _ _⟩
              · skip
                refine ol_gval (v := .pointer (some ⟨G35, 0, none⟩)) (by exact xr_move rfl e5) rfl rfl rfl rfl rfl c51 ?_
                obtain ⟨t52, k53, j50⟩ := bs j50
                refine ol_gop (by exact opv_call rfl cal43 (ac rfl an) (pmem_Device_Lines.ok fu _ m29 G35 u39 (o40.rd) u42 (o43.rd) b37 _ k53)) rfl rfl rfl rfl rfl c51 ?_
                rintro _ w55 ⟨rfl, q54⟩
                have b37 := b37.gr q54
                have o40 := o40.gr q54
                have o43 := o43.gr q54
                have fB := fB.gr q54
                refine ol_gval (v := .int .i64 a0) (by exact xr_move rfl e0) rfl rfl rfl rfl rfl c51 ?_
                refine ol_gval (v := .bool (!decide (t52 = a0))) (by exact xr_neI rfl Try.underlying3 rfl rfl rfl) rfl rfl rfl rfl rfl c51 ?_
                refine ol_val (v := .bool (!decide (t52 = a0))) (by exact xr_pickF rfl rfl c51 rfl) rfl rfl rfl ?_
                refine ol_nil ?_
                obtain rfl := Option.some.inj j50
                refine thn_i ?_
                exact ⟨e0, e1, e5, rfl, q54⟩
            · skip
              rintro ρ56 w57 ⟨e0, e1, e5, e57, q58⟩
              have b37 := b37.gr q58
              have o40 := o40.gr q58
              have o43 := o43.gr q58
              have fB := fB.gr q58
              rcases is h with ⟨c59, h⟩ | ⟨c59, h⟩
              · refine cw_condT e57 c59 ?_
                refine cw_seq ?_
                refine cw_region ?_
                refine ol_val (v := .bool false) (by exact xr_assign rfl rfl) rfl rfl rfl ?_
                refine ol_nil ?_
                refine cw_ret ?_
                repeat (first | with_reducible refine thn_r ?_ | with_reducible refine blk_r ?_)
                obtain rfl := Option.some.inj h
                refine fin_ret1 Try.results7 rfl ?_
                exact ⟨_, rfl, rfl, fB⟩
              · refine cw_condF e57 c59 ?_
                refine cw_skip ?_
                refine cw_seq ?_
                refine cw_region ?_
                refine ol_val (v := .int .i64 a0) (by exact xr_move rfl e0) rfl rfl rfl ?_
                obtain ⟨t60, k61, h⟩ := bs h
                refine ol_op (by exact opv_call rfl cal44 (ac rfl an) (rickyardref05_New.ok fu _ a0 _ k61)) rfl rfl rfl ?_
                rintro u62 w65 ⟨_, p63, rfl, q64⟩
                obtain ⟨G66, u70, u73, u76, u79, u82, o71, o74, o77, o80, o83, a85, a86, a87, rfl, z67, b68⟩ := p63
                have a88 := OffV.call o43 o83
                have o71 := Own.base o71 fB.size
                have o74 := Own.base o74 fB.size
                have o77 := Own.base o77 fB.size
                have o80 := Own.base o80 fB.size
                have o83 := Own.base o83 fB.size
                have n89 := b37.ne z67
                have z67 := Nat.le_trans fB.size z67
                have b37 := b37.gr q64
                have o40 := o40.gr q64
                have o43 := o43.gr q64
                have fB := fB.gr q64
                refine ol_val (v := .pointer (some ⟨G66, 0, none⟩)) (by exact xr_assign rfl rfl) rfl rfl rfl ?_
                refine ol_nil ?_
                refine cw_seq ?_
                refine cw_seq ?_
                refine cw_region ?_
                refine ol_val (v := .int .i64 0) (by exact xr_assign rfl rfl) rfl rfl rfl ?_
                refine ol_nil ?_
                obtain ⟨e91, l92, h93⟩ := bs h
                refine cw_mid (fun ρ' w' => ∃ x94, e91 = Sum.inr x94 ∧ ∃ v95 : Value, ∃ v98 : Value, ∃ v101 : Value, ∃ v104 : Value, ∃ v107 : Value, ∃ v110 : Value, ∃ v113 : Value, Gr w w') ?_ ?_
                · refine cw_block ?_
                  refine cw_round (fun (s90 : Int × (List S_pmem_cell) × (List Int) × Int × Bool × Bool × Int × Int × (List Int) × (List Int) × (List Int) × (List Bool) × (List Int) × Int × Int × Int) ρ' w' => ∃ v116 : Value, ∃ v119 : Value, ∃ v122 : Value, ∃ v125 : Value, ∃ v128 : Value, ∃ v131 : Value, ∃ v134 : Value, ∃ o117 : Own k_pmem_cell 142 w' w.heap.size v116 s90.2.1, ∃ o120 : Own (kI .i64) 3 w' w.heap.size v119 s90.2.2.1, ∃ o123 : Own (kI .u64) 22 w' w.heap.size v122 s90.2.2.2.2.2.2.2.2.1, ∃ o126 : Own (kI .u64) 22 w' w.heap.size v125 s90.2.2.2.2.2.2.2.2.2.1, ∃ o129 : Own (kI .u64) 22 w' w.heap.size v128 s90.2.2.2.2.2.2.2.2.2.2.1, ∃ o132 : Own kB 4 w' w.heap.size v131 s90.2.2.2.2.2.2.2.2.2.2.2.1, ∃ o135 : Own (kI .i64) 3 w' w.heap.size v134 s90.2.2.2.2.2.2.2.2.2.2.2.2.1, OffV v119 v134 ∧ OffV v122 v125 ∧ OffV v122 v128 ∧ OffV v125 v128 ∧ ρ' 1 = V1_0 ∧ ρ' 5 = .pointer (some ⟨G35, 0, none⟩) ∧ ρ' 7 = .pointer (some ⟨G66, 0, none⟩) ∧ ρ' 8 = .int .i64 s90.1 ∧ Blk w' G35 139 [Seg.cell v116 o117.one, Seg.cell v119 o120.one, Seg.cell (.int .i64 s90.2.2.2.1), Seg.cell (.bool s90.2.2.2.2.1), Seg.cell (.bool s90.2.2.2.2.2.1), Seg.cell (.int .i64 s90.2.2.2.2.2.2.1), Seg.cell (.int .i64 s90.2.2.2.2.2.2.2.1)] ∧ Blk w' G66 65 [Seg.cell v122 o123.one, Seg.cell v125 o126.one, Seg.cell v128 o129.one, Seg.cell v131 o132.one, Seg.cell v134 o135.one, Seg.cell (.int .i64 s90.2.2.2.2.2.2.2.2.2.2.2.2.2.1), Seg.cell (.int .i64 s90.2.2.2.2.2.2.2.2.2.2.2.2.2.2.1), Seg.cell (.int .i64 s90.2.2.2.2.2.2.2.2.2.2.2.2.2.2.2)] ∧ Gr w w') l92 ?_ ?_
                  · skip
                    exact ⟨u39, u42, u70, u73, u76, u79, u82, o40, o43, o71, o74, o77, o80, o83, a88, a85, a86, a87, e1, e5, rfl, rfl, b37, b68, fB⟩
                  · rintro s90 x143 ρ141 w142 ⟨v116, v119, v122, v125, v128, v131, v134, o117, o120, o123, o126, o129, o132, o135, a137, a138, a139, a140, e1, e5, e7, e8, b37, b68, fB⟩ h
                    unfold rickyardlaw05_PmemActs.s0 at h
                    refine cw_seq ?_
                    refine cw_seq ?_
                    refine cw_region ?_
                    refine ol_val (v := .int .i64 s90.1) (by exact xr_move rfl e8) rfl rfl rfl ?_
                    refine ol_val (v := V1_0) (by exact xr_move rfl e1) rfl rfl rfl ?_
                    refine ol_val (v := .int .i64 (List.length a1 : Int)) (by exact xr_lenN rfl Try.underlying24 rfl (RdN.gr R1_0 D_rickyardlaw05_Act.gr fB)) rfl rfl rfl ?_
                    refine ol_val (v := .bool (decide (s90.1 < (List.length a1 : Int)))) (by exact xr_lss rfl rfl rfl) rfl rfl rfl ?_
                    refine ol_nil ?_
                    rcases is h with ⟨c144, h⟩ | ⟨c144, h⟩
                    · refine cw_condT rfl c144 ?_
                      refine cw_skip ?_
                      refine cw_seq ?_
                      refine cw_block ?_
                      refine cw_seq ?_
                      refine cw_region ?_
                      refine ol_val (v := .pointer (some ⟨G35, 0, none⟩)) (by exact xr_move rfl e5) rfl rfl rfl ?_
                      refine ol_val (v := V1_0) (by exact xr_move rfl e1) rfl rfl rfl ?_
                      refine ol_val (v := .int .i64 s90.1) (by exact xr_move rfl e8) rfl rfl rfl ?_
                      obtain ⟨g145, h⟩ := gs h
                      refine ol_val (v := .pointer (some ⟨(sb V1_0), so V1_0 + Int.toNat s90.1 * 4, none⟩)) (by exact xr_indexN (v := V1_0) rfl Try.underlying24 sz39 rfl (RdN.gr R1_0 D_rickyardlaw05_Act.gr fB) rfl g145.1 g145.2) rfl rfl rfl ?_
                      refine ol_val (v := aggV [Seg.cell (.int .i64 ((ix a1 s90.1).Kind)), Seg.cell (.int .i64 ((ix a1 s90.1).At)), Seg.cell (.int .u64 ((ix a1 s90.1).W)), Seg.cell (cellAt w (sb V1_0) (so V1_0 + Int.toNat s90.1 * 4 + 3)) (N_rickyardlaw05_Act R1_0 g145.1 g145.2).2.one]) (by exact xr_loadS (ss := [Seg.cell (.int .i64 ((ix a1 s90.1).Kind)), Seg.cell (.int .i64 ((ix a1 s90.1).At)), Seg.cell (.int .u64 ((ix a1 s90.1).W)), Seg.cell (cellAt w (sb V1_0) (so V1_0 + Int.toNat s90.1 * 4 + 3)) (N_rickyardlaw05_Act R1_0 g145.1 g145.2).2.one]) rfl ag39 sz39 rfl rfl (At.gr (N_rickyardlaw05_Act R1_0 g145.1 g145.2).1 fB)) rfl rfl rfl ?_
                      obtain ⟨t146, k147, h⟩ := bs h
                      have f157 := (nb_or n89.symm (nb_or (nb_off (off_ty b68 o117 (by decide))) (nb_off (off_ty b68 o120 (by decide)))))
                      have f158 := (vo_or (vo_eq (off_ty b37 o123 (by decide))) (vo_or (vo_own (OffV.ty o123 o117 (by decide))) (vo_own (OffV.ty o123 o120 (by decide)))))
                      have f159 := (vo_or (vo_eq (off_ty b37 o126 (by decide))) (vo_or (vo_own (OffV.ty o126 o117 (by decide))) (vo_own (OffV.ty o126 o120 (by decide)))))
                      have f160 := (vo_or (vo_eq (off_ty b37 o129 (by decide))) (vo_or (vo_own (OffV.ty o129 o117 (by decide))) (vo_own (OffV.ty o129 o120 (by decide)))))
                      have f161 := (vo_or (vo_eq (off_ty b37 o132 (by decide))) (vo_or (vo_own (OffV.ty o132 o117 (by decide))) (vo_own (OffV.ty o132 o120 (by decide)))))
                      have f162 := (vo_or (vo_eq (off_ty b37 o135 (by decide))) (vo_or (vo_own (OffV.ty o135 o117 (by decide))) (vo_own a137.symm)))
                      have c163 : ∀ k, (k = G35 ∨ some k = Value.ownBlock v116 ∨ some k = Value.ownBlock v119) → w.heap.size ≤ k := (cv_or (cv_eq z36) (cv_or (cv_own o117.geO) (cv_own o120.geO)))
                      refine ol_op (by exact opv_call rfl cal31 (ac rfl (ac rfl an)) (rickyardlaw05_Do.ok fu _ (⟨s90.2.1, (⟨s90.2.2.1, s90.2.2.2.1⟩ : S_pmem_plan), s90.2.2.2.2.1, s90.2.2.2.2.2.1, s90.2.2.2.2.2.2.1, s90.2.2.2.2.2.2.2.1⟩ : S_pmem_Device) G35 v116 (Own.base o117 (Nat.zero_le _)) v119 (Own.base o120 (Nat.zero_le _)) b37 (ix a1 s90.1) (cellAt w (sb V1_0) (so V1_0 + Int.toNat s90.1 * 4 + 3)) ((N_rickyardlaw05_Act R1_0 g145.1 g145.2).2.gr fB) (OffR.new (N_rickyardlaw05_Act R1_0 g145.1 g145.2).2 z36 rfl) (OffRV.call (N_rickyardlaw05_Act R1_0 g145.1 g145.2).2 o117 rfl) (OffRV.call (N_rickyardlaw05_Act R1_0 g145.1 g145.2).2 o120 rfl) _ k147)) rfl rfl rfl ?_
                      rintro _ w164 ⟨u149, u153, o150, m151, o154, m155, rfl, b37, q148⟩
                      have a165 := ov_new o135 f162 m155
                      have o150 := Own.rebase o150 (fun g hg => (m151 g hg).elim (fun x => Nat.le_trans fB.size x) (c163 g))
                      have o154 := Own.rebase o154 (fun g hg => (m155 g hg).elim (fun x => Nat.le_trans fB.size x) (c163 g))
                      have b68 := b68.fr q148 f157
                      have o123 := o123.fr q148 f158
                      have o126 := o126.fr q148 f159
                      have o129 := o129.fr q148 f160
                      have o132 := o132.fr q148 f161
                      have o135 := o135.fr q148 f162
                      have fB := fB.call q148 (fun k h => .inl (c163 k h))
                      refine ol_val (v := .tuple #[.int .u64 t146.1, .int .i64 t146.2.1]) (by exact xr_move rfl rfl) rfl rfl rfl ?_
                      refine ol_val (v := .int .u64 t146.1) (by exact xr_extract rfl rfl rfl) rfl rfl rfl ?_
                      refine ol_val (v := .int .i64 t146.2.1) (by exact xr_extract rfl rfl rfl) rfl rfl rfl ?_
                      refine ol_val (v := .int .u64 t146.1) (by exact xr_assign rfl rfl) rfl rfl rfl ?_
                      refine ol_val (v := .int .i64 t146.2.1) (by exact xr_assign rfl rfl) rfl rfl rfl ?_
                      refine ol_nil ?_
                      refine cw_seq ?_
                      refine cw_region ?_
                      refine ol_val (v := .pointer (some ⟨G66, 0, none⟩)) (by exact xr_move rfl e7) rfl rfl rfl ?_
                      refine ol_val (v := V1_0) (by exact xr_move rfl e1) rfl rfl rfl ?_
                      refine ol_val (v := .int .i64 s90.1) (by exact xr_move rfl e8) rfl rfl rfl ?_
                      obtain ⟨g166, h⟩ := gs h
                      refine ol_val (v := .pointer (some ⟨(sb V1_0), so V1_0 + Int.toNat s90.1 * 4, none⟩)) (by exact xr_indexN (v := V1_0) rfl Try.underlying24 sz39 rfl (RdN.gr R1_0 D_rickyardlaw05_Act.gr fB) rfl g166.1 g166.2) rfl rfl rfl ?_
                      refine ol_val (v := aggV [Seg.cell (.int .i64 ((ix a1 s90.1).Kind)), Seg.cell (.int .i64 ((ix a1 s90.1).At)), Seg.cell (.int .u64 ((ix a1 s90.1).W)), Seg.cell (cellAt w (sb V1_0) (so V1_0 + Int.toNat s90.1 * 4 + 3)) (N_rickyardlaw05_Act R1_0 g166.1 g166.2).2.one]) (by exact xr_loadS (ss := [Seg.cell (.int .i64 ((ix a1 s90.1).Kind)), Seg.cell (.int .i64 ((ix a1 s90.1).At)), Seg.cell (.int .u64 ((ix a1 s90.1).W)), Seg.cell (cellAt w (sb V1_0) (so V1_0 + Int.toNat s90.1 * 4 + 3)) (N_rickyardlaw05_Act R1_0 g166.1 g166.2).2.one]) rfl ag39 sz39 rfl rfl (At.gr (N_rickyardlaw05_Act R1_0 g166.1 g166.2).1 fB)) rfl rfl rfl ?_
                      obtain ⟨t167, k168, h⟩ := bs h
                      have f193 := (nb_or n89 (nb_or (nb_off (off_ty b37 o123 (by decide))) (nb_or (nb_off (off_ty b37 o126 (by decide))) (nb_or (nb_off (off_ty b37 o129 (by decide))) (nb_or (nb_off (off_ty b37 o132 (by decide))) (nb_off (off_ty b37 o135 (by decide))))))))
                      have f194 := (vo_or (vo_eq (off_ty b68 o150 (by decide))) (vo_or (vo_own (OffV.ty o150 o123 (by decide))) (vo_or (vo_own (OffV.ty o150 o126 (by decide))) (vo_or (vo_own (OffV.ty o150 o129 (by decide))) (vo_or (vo_own (OffV.ty o150 o132 (by decide))) (vo_own (OffV.ty o150 o135 (by decide))))))))
                      have f195 := (vo_or (vo_eq (off_ty b68 o154 (by decide))) (vo_or (vo_own (OffV.ty o154 o123 (by decide))) (vo_or (vo_own (OffV.ty o154 o126 (by decide))) (vo_or (vo_own (OffV.ty o154 o129 (by decide))) (vo_or (vo_own (OffV.ty o154 o132 (by decide))) (vo_own a165.symm))))))
                      have c196 : ∀ k, (k = G66 ∨ some k = Value.ownBlock v122 ∨ some k = Value.ownBlock v125 ∨ some k = Value.ownBlock v128 ∨ some k = Value.ownBlock v131 ∨ some k = Value.ownBlock v134) → w.heap.size ≤ k := (cv_or (cv_eq z67) (cv_or (cv_own o123.geO) (cv_or (cv_own o126.geO) (cv_or (cv_own o129.geO) (cv_or (cv_own o132.geO) (cv_own o135.geO))))))
                      refine ol_op (by exact opv_call rfl cal45 (ac rfl (ac rfl an)) (rickyardlaw05_Refs.ok fu _ (⟨s90.2.2.2.2.2.2.2.2.1, s90.2.2.2.2.2.2.2.2.2.1, s90.2.2.2.2.2.2.2.2.2.2.1, s90.2.2.2.2.2.2.2.2.2.2.2.1, s90.2.2.2.2.2.2.2.2.2.2.2.2.1, s90.2.2.2.2.2.2.2.2.2.2.2.2.2.1, s90.2.2.2.2.2.2.2.2.2.2.2.2.2.2.1, s90.2.2.2.2.2.2.2.2.2.2.2.2.2.2.2⟩ : S_rickyardref05_Device) G66 v122 (Own.base o123 (Nat.zero_le _)) v125 (Own.base o126 (Nat.zero_le _)) v128 (Own.base o129 (Nat.zero_le _)) v131 (Own.base o132 (Nat.zero_le _)) v134 (Own.base o135 (Nat.zero_le _)) b68 (ix a1 s90.1) (cellAt w (sb V1_0) (so V1_0 + Int.toNat s90.1 * 4 + 3)) ((N_rickyardlaw05_Act R1_0 g166.1 g166.2).2.gr fB) a138 a139 a140 (OffR.new (N_rickyardlaw05_Act R1_0 g166.1 g166.2).2 z67 rfl) (OffRV.call (N_rickyardlaw05_Act R1_0 g166.1 g166.2).2 o123 rfl) (OffRV.call (N_rickyardlaw05_Act R1_0 g166.1 g166.2).2 o126 rfl) (OffRV.call (N_rickyardlaw05_Act R1_0 g166.1 g166.2).2 o129 rfl) (OffRV.call (N_rickyardlaw05_Act R1_0 g166.1 g166.2).2 o132 rfl) (OffRV.call (N_rickyardlaw05_Act R1_0 g166.1 g166.2).2 o135 rfl) _ k168)) rfl rfl rfl ?_
                      rintro _ w197 ⟨u170, u174, u178, u182, u186, o171, m172, o175, m176, o179, m180, o183, m184, o187, m188, a190, a191, a192, rfl, b68, q169⟩
                      have a198 := ov_new o154 f195 m188
                      have o171 := Own.rebase o171 (fun g hg => (m172 g hg).elim (fun x => Nat.le_trans fB.size x) (c196 g))
                      have o175 := Own.rebase o175 (fun g hg => (m176 g hg).elim (fun x => Nat.le_trans fB.size x) (c196 g))
                      have o179 := Own.rebase o179 (fun g hg => (m180 g hg).elim (fun x => Nat.le_trans fB.size x) (c196 g))
                      have o183 := Own.rebase o183 (fun g hg => (m184 g hg).elim (fun x => Nat.le_trans fB.size x) (c196 g))
                      have o187 := Own.rebase o187 (fun g hg => (m188 g hg).elim (fun x => Nat.le_trans fB.size x) (c196 g))
                      have b37 := b37.fr q169 f193
                      have o150 := o150.fr q169 f194
                      have o154 := o154.fr q169 f195
                      have fB := fB.call q169 (fun k h => .inl (c196 k h))
                      refine ol_val (v := .tuple #[.int .u64 t167.1, .int .i64 t167.2.1]) (by exact xr_move rfl rfl) rfl rfl rfl ?_
                      refine ol_val (v := .int .u64 t167.1) (by exact xr_extract rfl rfl rfl) rfl rfl rfl ?_
                      refine ol_val (v := .int .i64 t167.2.1) (by exact xr_extract rfl rfl rfl) rfl rfl rfl ?_
                      refine ol_val (v := .int .u64 t167.1) (by exact xr_assign rfl rfl) rfl rfl rfl ?_
                      refine ol_val (v := .int .i64 t167.2.1) (by exact xr_assign rfl rfl) rfl rfl rfl ?_
                      refine ol_nil ?_
                      refine cw_seq ?_
                      refine cw_seq ?_
                      obtain ⟨x199, j200, h⟩ := bs h
                      refine cw_mid (fun ρ' w' => ρ' 1 = V1_0 ∧ ρ' 5 = .pointer (some ⟨G35, 0, none⟩) ∧ ρ' 7 = .pointer (some ⟨G66, 0, none⟩) ∧ ρ' 8 = .int .i64 s90.1 ∧ ρ' 118 = .bool x199 ∧ Gr w197 w') ?_ ?_
                      · skip
                        rcases is j200 with ⟨c201, j200⟩ | ⟨c201, j200⟩
                        · skip
                          refine cw_drawL 34 [fun vz wz => vz = (.int .u64 t146.1 : Value), fun vz wz => vz = (.int .u64 t167.1 : Value), fun vz wz => vz = (.bool (!decide (t146.1 = t167.1)) : Value), fun vz wz => vz = (.bool (!decide (t146.1 = t167.1)) : Value), fun vz _ => vz = undef, fun vz _ => vz = undef, fun vz _ => vz = undef, fun vz wz => vz = (.bool true : Value), fun vz wz => vz = (.bool true : Value), fun vz _ => vz = undef, fun vz _ => vz = undef, fun vz _ => vz = undef, fun vz _ => vz = undef, fun vz _ => vz = undef, fun vz _ => vz = undef, fun vz _ => vz = undef, fun vz wz => vz = (.bool true : Value), fun vz wz => vz = (.bool true : Value), fun vz _ => vz = undef, fun vz _ => vz = undef, fun vz _ => vz = undef, fun vz _ => vz = undef, fun vz _ => vz = undef, fun vz _ => vz = undef, fun vz _ => vz = undef, fun vz _ => vz = undef, fun vz wz => vz = (.bool true : Value), fun vz wz => vz = (.bool true : Value), fun vz _ => vz = undef, fun vz _ => vz = undef, fun vz _ => vz = undef, fun vz _ => vz = undef, fun vz _ => vz = undef, fun vz _ => vz = undef] mo rfl ⟨fun _ _ _ h _ => h, fun _ _ _ h _ => h, fun _ _ _ h _ => h, fun _ _ _ h _ => h, fun _ _ _ h _ => h, fun _ _ _ h _ => h, fun _ _ _ h _ => h, fun _ _ _ h _ => h, fun _ _ _ h _ => h, fun _ _ _ h _ => h, fun _ _ _ h _ => h, fun _ _ _ h _ => h, fun _ _ _ h _ => h, fun _ _ _ h _ => h, fun _ _ _ h _ => h, fun _ _ _ h _ => h, fun _ _ _ h _ => h, fun _ _ _ h _ => h, fun _ _ _ h _ => h, fun _ _ _ h _ => h, fun _ _ _ h _ => h, fun _ _ _ h _ => h, fun _ _ _ h _ => h, fun _ _ _ h _ => h, fun _ _ _ h _ => h, fun _ _ _ h _ => h, fun _ _ _ h _ => h, fun _ _ _ h _ => h, fun _ _ _ h _ => h, fun _ _ _ h _ => h, fun _ _ _ h _ => h, fun _ _ _ h _ => h, fun _ _ _ h _ => h, fun _ _ _ h _ => h, trivial⟩ ?_ ?_
                          · refine ⟨?_, ?_, ?_, ?_, ?_, ?_, ?_, ?_, ?_, ?_, ?_, ?_, ?_, ?_, ?_, ?_, ?_, ?_, ?_, ?_, ?_, ?_, ?_, ?_, ?_, ?_, ?_, ?_, ?_, ?_, ?_, ?_, ?_, ?_, trivial⟩
                            · intro ρz wz hz hk hd
                              exact sk_val (v := .int .u64 t146.1) (by exact xr_move rfl ((hk 9 rfl).trans rfl)) rfl rfl
                            · intro ρz wz hz hk hd
                              exact sk_val (v := .int .u64 t167.1) (by exact xr_move rfl ((hk 11 rfl).trans rfl)) rfl rfl
                            · intro ρz wz hz hk hd
                              have d84 := hd 0 rfl 84 rfl
                              have d85 := hd 1 rfl 85 rfl
                              exact sk_val (v := .bool (!decide (t146.1 = t167.1))) (by exact xr_neI rfl Try.underlying22 rfl d84 d85) rfl rfl
                            · intro ρz wz hz hk hd
                              have d86 := hd 2 rfl 86 rfl
                              exact sk_val (v := .bool (!decide (t146.1 = t167.1))) (by exact xr_move rfl d86) rfl rfl
                            · intro ρz wz hz hk hd
                              have d87 := hd 3 rfl 87 rfl
                              exact sk_skip rfl rfl d87 c201 rfl
                            · intro ρz wz hz hk hd
                              have d87 := hd 3 rfl 87 rfl
                              exact sk_skip rfl rfl d87 c201 rfl
                            · intro ρz wz hz hk hd
                              have d87 := hd 3 rfl 87 rfl
                              exact sk_skip rfl rfl d87 c201 rfl
                            · intro ρz wz hz hk hd
                              have d87 := hd 3 rfl 87 rfl
                              exact sk_val (v := .bool true) (by exact xr_pickT rfl d87 c201 rfl) rfl rfl
                            · intro ρz wz hz hk hd
                              have d91 := hd 7 rfl 91 rfl
                              exact sk_val (v := .bool true) (by exact xr_move rfl d91) rfl rfl
                            · intro ρz wz hz hk hd
                              have d92 := hd 8 rfl 92 rfl
                              exact sk_skip rfl rfl d92 rfl rfl
                            · intro ρz wz hz hk hd
                              have d92 := hd 8 rfl 92 rfl
                              exact sk_skip rfl rfl d92 rfl rfl
                            · intro ρz wz hz hk hd
                              have d92 := hd 8 rfl 92 rfl
                              exact sk_skip rfl rfl d92 rfl rfl
                            · intro ρz wz hz hk hd
                              have d92 := hd 8 rfl 92 rfl
                              exact sk_skip rfl rfl d92 rfl rfl
                            · intro ρz wz hz hk hd
                              have d92 := hd 8 rfl 92 rfl
                              exact sk_skip rfl rfl d92 rfl rfl
                            · intro ρz wz hz hk hd
                              have d92 := hd 8 rfl 92 rfl
                              exact sk_skip rfl rfl d92 rfl rfl
                            · intro ρz wz hz hk hd
                              have d92 := hd 8 rfl 92 rfl
                              exact sk_skip rfl rfl d92 rfl rfl
                            · intro ρz wz hz hk hd
                              have d92 := hd 8 rfl 92 rfl
                              exact sk_val (v := .bool true) (by exact xr_pickT rfl d92 rfl rfl) rfl rfl
                            · intro ρz wz hz hk hd
                              have d100 := hd 16 rfl 100 rfl
                              exact sk_val (v := .bool true) (by exact xr_move rfl d100) rfl rfl
                            · intro ρz wz hz hk hd
                              have d101 := hd 17 rfl 101 rfl
                              exact sk_skip rfl rfl d101 rfl rfl
                            · intro ρz wz hz hk hd
                              have d101 := hd 17 rfl 101 rfl
                              exact sk_skip rfl rfl d101 rfl rfl
                            · intro ρz wz hz hk hd
                              have d101 := hd 17 rfl 101 rfl
                              exact sk_skip rfl rfl d101 rfl rfl
                            · intro ρz wz hz hk hd
                              have d101 := hd 17 rfl 101 rfl
                              exact sk_skip rfl rfl d101 rfl rfl
                            · intro ρz wz hz hk hd
                              have d101 := hd 17 rfl 101 rfl
                              exact sk_skip rfl rfl d101 rfl rfl
                            · intro ρz wz hz hk hd
                              have d101 := hd 17 rfl 101 rfl
                              exact sk_skip rfl rfl d101 rfl rfl
                            · intro ρz wz hz hk hd
                              have d101 := hd 17 rfl 101 rfl
                              exact sk_skip rfl rfl d101 rfl rfl
                            · intro ρz wz hz hk hd
                              have d101 := hd 17 rfl 101 rfl
                              exact sk_skip rfl rfl d101 rfl rfl
                            · intro ρz wz hz hk hd
                              have d101 := hd 17 rfl 101 rfl
                              exact sk_val (v := .bool true) (by exact xr_pickT rfl d101 rfl rfl) rfl rfl
                            · intro ρz wz hz hk hd
                              have d110 := hd 26 rfl 110 rfl
                              exact sk_val (v := .bool true) (by exact xr_move rfl d110) rfl rfl
                            · intro ρz wz hz hk hd
                              have d111 := hd 27 rfl 111 rfl
                              exact sk_skip rfl rfl d111 rfl rfl
                            · intro ρz wz hz hk hd
                              have d111 := hd 27 rfl 111 rfl
                              exact sk_skip rfl rfl d111 rfl rfl
                            · intro ρz wz hz hk hd
                              have d111 := hd 27 rfl 111 rfl
                              exact sk_skip rfl rfl d111 rfl rfl
                            · intro ρz wz hz hk hd
                              have d111 := hd 27 rfl 111 rfl
                              exact sk_skip rfl rfl d111 rfl rfl
                            · intro ρz wz hz hk hd
                              have d111 := hd 27 rfl 111 rfl
                              exact sk_skip rfl rfl d111 rfl rfl
                            · intro ρz wz hz hk hd
                              have d111 := hd 27 rfl 111 rfl
                              exact sk_skip rfl rfl d111 rfl rfl
                          · intro ρ202 w203 q204 hk hd
                            have e1 := (hk 1 rfl).trans e1
                            have e5 := (hk 5 rfl).trans e5
                            have e7 := (hk 7 rfl).trans e7
                            have e8 := (hk 8 rfl).trans e8
                            have e111 := hd 27 rfl 111 rfl
                            have b37 := b37.gr q204
                            have b68 := b68.gr q204
                            have o150 := o150.gr q204
                            have o154 := o154.gr q204
                            have o171 := o171.gr q204
                            have o175 := o175.gr q204
                            have o179 := o179.gr q204
                            have o183 := o183.gr q204
                            have o187 := o187.gr q204
                            have fB := fB.gr q204
                            refine ol_val (v := .bool true) (by exact xr_pickT rfl e111 rfl rfl) rfl rfl rfl ?_
                            refine ol_nil ?_
                            obtain rfl := Option.some.inj j200
                            refine thn_i ?_
                            exact ⟨e1, e5, e7, e8, rfl, q204⟩
                        · skip
                          rcases is j200 with ⟨c205, j200⟩ | ⟨c205, j200⟩
                          · skip
                            refine cw_drawL 34 [fun vz wz => vz = (.int .u64 t146.1 : Value), fun vz wz => vz = (.int .u64 t167.1 : Value), fun vz wz => vz = (.bool (!decide (t146.1 = t167.1)) : Value), fun vz wz => vz = (.bool (!decide (t146.1 = t167.1)) : Value), fun vz wz => vz = (.int .i64 t146.2.1 : Value), fun vz wz => vz = (.int .i64 t167.2.1 : Value), fun vz wz => vz = (.bool (!decide (t146.2.1 = t167.2.1)) : Value), fun vz wz => vz = (.bool (!decide (t146.2.1 = t167.2.1)) : Value), fun vz wz => vz = (.bool (!decide (t146.2.1 = t167.2.1)) : Value), fun vz _ => vz = undef, fun vz _ => vz = undef, fun vz _ => vz = undef, fun vz _ => vz = undef, fun vz _ => vz = undef, fun vz _ => vz = undef, fun vz _ => vz = undef, fun vz wz => vz = (.bool true : Value), fun vz wz => vz = (.bool true : Value), fun vz _ => vz = undef, fun vz _ => vz = undef, fun vz _ => vz = undef, fun vz _ => vz = undef, fun vz _ => vz = undef, fun vz _ => vz = undef, fun vz _ => vz = undef, fun vz _ => vz = undef, fun vz wz => vz = (.bool true : Value), fun vz wz => vz = (.bool true : Value), fun vz _ => vz = undef, fun vz _ => vz = undef, fun vz _ => vz = undef, fun vz _ => vz = undef, fun vz _ => vz = undef, fun vz _ => vz = undef] mo rfl ⟨fun _ _ _ h _ => h, fun _ _ _ h _ => h, fun _ _ _ h _ => h, fun _ _ _ h _ => h, fun _ _ _ h _ => h, fun _ _ _ h _ => h, fun _ _ _ h _ => h, fun _ _ _ h _ => h, fun _ _ _ h _ => h, fun _ _ _ h _ => h, fun _ _ _ h _ => h, fun _ _ _ h _ => h, fun _ _ _ h _ => h, fun _ _ _ h _ => h, fun _ _ _ h _ => h, fun _ _ _ h _ => h, fun _ _ _ h _ => h, fun _ _ _ h _ => h, fun _ _ _ h _ => h, fun _ _ _ h _ => h, fun _ _ _ h _ => h, fun _ _ _ h _ => h, fun _ _ _ h _ => h, fun _ _ _ h _ => h, fun _ _ _ h _ => h, fun _ _ _ h _ => h, fun _ _ _ h _ => h, fun _ _ _ h _ => h, fun _ _ _ h _ => h, fun _ _ _ h _ => h, fun _ _ _ h _ => h, fun _ _ _ h _ => h, fun _ _ _ h _ => h, fun _ _ _ h _ => h, trivial⟩ ?_ ?_
                            · refine ⟨?_, ?_, ?_, ?_, ?_, ?_, ?_, ?_, ?_, ?_, ?_, ?_, ?_, ?_, ?_, ?_, ?_, ?_, ?_, ?_, ?_, ?_, ?_, ?_, ?_, ?_, ?_, ?_, ?_, ?_, ?_, ?_, ?_, ?_, trivial⟩
                              · intro ρz wz hz hk hd
                                exact sk_val (v := .int .u64 t146.1) (by exact xr_move rfl ((hk 9 rfl).trans rfl)) rfl rfl
                              · intro ρz wz hz hk hd
                                exact sk_val (v := .int .u64 t167.1) (by exact xr_move rfl ((hk 11 rfl).trans rfl)) rfl rfl
                              · intro ρz wz hz hk hd
                                have d84 := hd 0 rfl 84 rfl
                                have d85 := hd 1 rfl 85 rfl
                                exact sk_val (v := .bool (!decide (t146.1 = t167.1))) (by exact xr_neI rfl Try.underlying22 rfl d84 d85) rfl rfl
                              · intro ρz wz hz hk hd
                                have d86 := hd 2 rfl 86 rfl
                                exact sk_val (v := .bool (!decide (t146.1 = t167.1))) (by exact xr_move rfl d86) rfl rfl
                              · intro ρz wz hz hk hd
                                have d87 := hd 3 rfl 87 rfl
                                exact sk_gval (v := .int .i64 t146.2.1) (by exact xr_move rfl ((hk 10 rfl).trans rfl)) rfl rfl d87 c201 rfl
                              · intro ρz wz hz hk hd
                                have d87 := hd 3 rfl 87 rfl
                                exact sk_gval (v := .int .i64 t167.2.1) (by exact xr_move rfl ((hk 12 rfl).trans rfl)) rfl rfl d87 c201 rfl
                              · intro ρz wz hz hk hd
                                have d88 := hd 4 rfl 88 rfl
                                have d89 := hd 5 rfl 89 rfl
                                have d87 := hd 3 rfl 87 rfl
                                exact sk_gval (v := .bool (!decide (t146.2.1 = t167.2.1))) (by exact xr_neI rfl Try.underlying3 rfl d88 d89) rfl rfl d87 c201 rfl
                              · intro ρz wz hz hk hd
                                have d87 := hd 3 rfl 87 rfl
                                have d90 := hd 6 rfl 90 rfl
                                exact sk_val (v := .bool (!decide (t146.2.1 = t167.2.1))) (by exact xr_pickF rfl d87 c201 d90) rfl rfl
                              · intro ρz wz hz hk hd
                                have d91 := hd 7 rfl 91 rfl
                                exact sk_val (v := .bool (!decide (t146.2.1 = t167.2.1))) (by exact xr_move rfl d91) rfl rfl
                              · intro ρz wz hz hk hd
                                have d92 := hd 8 rfl 92 rfl
                                exact sk_skip rfl rfl d92 c205 rfl
                              · intro ρz wz hz hk hd
                                have d92 := hd 8 rfl 92 rfl
                                exact sk_skip rfl rfl d92 c205 rfl
                              · intro ρz wz hz hk hd
                                have d92 := hd 8 rfl 92 rfl
                                exact sk_skip rfl rfl d92 c205 rfl
                              · intro ρz wz hz hk hd
                                have d92 := hd 8 rfl 92 rfl
                                exact sk_skip rfl rfl d92 c205 rfl
                              · intro ρz wz hz hk hd
                                have d92 := hd 8 rfl 92 rfl
                                exact sk_skip rfl rfl d92 c205 rfl
                              · intro ρz wz hz hk hd
                                have d92 := hd 8 rfl 92 rfl
                                exact sk_skip rfl rfl d92 c205 rfl
                              · intro ρz wz hz hk hd
                                have d92 := hd 8 rfl 92 rfl
                                exact sk_skip rfl rfl d92 c205 rfl
                              · intro ρz wz hz hk hd
                                have d92 := hd 8 rfl 92 rfl
                                exact sk_val (v := .bool true) (by exact xr_pickT rfl d92 c205 rfl) rfl rfl
                              · intro ρz wz hz hk hd
                                have d100 := hd 16 rfl 100 rfl
                                exact sk_val (v := .bool true) (by exact xr_move rfl d100) rfl rfl
                              · intro ρz wz hz hk hd
                                have d101 := hd 17 rfl 101 rfl
                                exact sk_skip rfl rfl d101 rfl rfl
                              · intro ρz wz hz hk hd
                                have d101 := hd 17 rfl 101 rfl
                                exact sk_skip rfl rfl d101 rfl rfl
                              · intro ρz wz hz hk hd
                                have d101 := hd 17 rfl 101 rfl
                                exact sk_skip rfl rfl d101 rfl rfl
                              · intro ρz wz hz hk hd
                                have d101 := hd 17 rfl 101 rfl
                                exact sk_skip rfl rfl d101 rfl rfl
                              · intro ρz wz hz hk hd
                                have d101 := hd 17 rfl 101 rfl
                                exact sk_skip rfl rfl d101 rfl rfl
                              · intro ρz wz hz hk hd
                                have d101 := hd 17 rfl 101 rfl
                                exact sk_skip rfl rfl d101 rfl rfl
                              · intro ρz wz hz hk hd
                                have d101 := hd 17 rfl 101 rfl
                                exact sk_skip rfl rfl d101 rfl rfl
                              · intro ρz wz hz hk hd
                                have d101 := hd 17 rfl 101 rfl
                                exact sk_skip rfl rfl d101 rfl rfl
                              · intro ρz wz hz hk hd
                                have d101 := hd 17 rfl 101 rfl
                                exact sk_val (v := .bool true) (by exact xr_pickT rfl d101 rfl rfl) rfl rfl
                              · intro ρz wz hz hk hd
                                have d110 := hd 26 rfl 110 rfl
                                exact sk_val (v := .bool true) (by exact xr_move rfl d110) rfl rfl
                              · intro ρz wz hz hk hd
                                have d111 := hd 27 rfl 111 rfl
                                exact sk_skip rfl rfl d111 rfl rfl
                              · intro ρz wz hz hk hd
                                have d111 := hd 27 rfl 111 rfl
                                exact sk_skip rfl rfl d111 rfl rfl
                              · intro ρz wz hz hk hd
                                have d111 := hd 27 rfl 111 rfl
                                exact sk_skip rfl rfl d111 rfl rfl
                              · intro ρz wz hz hk hd
                                have d111 := hd 27 rfl 111 rfl
                                exact sk_skip rfl rfl d111 rfl rfl
                              · intro ρz wz hz hk hd
                                have d111 := hd 27 rfl 111 rfl
                                exact sk_skip rfl rfl d111 rfl rfl
                              · intro ρz wz hz hk hd
                                have d111 := hd 27 rfl 111 rfl
                                exact sk_skip rfl rfl d111 rfl rfl
                            · intro ρ206 w207 q208 hk hd
                              have e1 := (hk 1 rfl).trans e1
                              have e5 := (hk 5 rfl).trans e5
                              have e7 := (hk 7 rfl).trans e7
                              have e8 := (hk 8 rfl).trans e8
                              have e88 := hd 4 rfl 88 rfl
                              have e89 := hd 5 rfl 89 rfl
                              have e90 := hd 6 rfl 90 rfl
                              have e111 := hd 27 rfl 111 rfl
                              have b37 := b37.gr q208
                              have b68 := b68.gr q208
                              have o150 := o150.gr q208
                              have o154 := o154.gr q208
                              have o171 := o171.gr q208
                              have o175 := o175.gr q208
                              have o179 := o179.gr q208
                              have o183 := o183.gr q208
                              have o187 := o187.gr q208
                              have fB := fB.gr q208
                              refine ol_val (v := .bool true) (by exact xr_pickT rfl e111 rfl rfl) rfl rfl rfl ?_
                              refine ol_nil ?_
                              obtain rfl := Option.some.inj j200
                              refine thn_i ?_
                              exact ⟨e1, e5, e7, e8, rfl, q208⟩
                          · skip
                            obtain ⟨t209, k210, j200⟩ := bs j200
                            rcases is j200 with ⟨c212, j200⟩ | ⟨c212, j200⟩
                            · skip
                              refine cw_drawL 34 [fun vz wz => vz = (.int .u64 t146.1 : Value), fun vz wz => vz = (.int .u64 t167.1 : Value), fun vz wz => vz = (.bool (!decide (t146.1 = t167.1)) : Value), fun vz wz => vz = (.bool (!decide (t146.1 = t167.1)) : Value), fun vz wz => vz = (.int .i64 t146.2.1 : Value), fun vz wz => vz = (.int .i64 t167.2.1 : Value), fun vz wz => vz = (.bool (!decide (t146.2.1 = t167.2.1)) : Value), fun vz wz => vz = (.bool (!decide (t146.2.1 = t167.2.1)) : Value), fun vz wz => vz = (.bool (!decide (t146.2.1 = t167.2.1)) : Value), fun vz wz => vz = (.pointer (some ⟨G35, 0, none⟩) : Value), fun vz wz => vz = (.int .i64 t209 : Value), fun vz wz => vz = (.pointer (some ⟨G66, 0, none⟩) : Value), fun vz wz => vz = (.pointer (some ⟨G66, 0, none⟩) : Value), fun vz wz => vz = (.pointer (some ⟨G66, 7, none⟩) : Value), fun vz wz => vz = (.int .i64 t167.2.2.Steps : Value), fun vz wz => vz = (.bool (!decide (t209 = t167.2.2.Steps)) : Value), fun vz wz => vz = (.bool (!decide (t209 = t167.2.2.Steps)) : Value), fun vz wz => vz = (.bool (!decide (t209 = t167.2.2.Steps)) : Value), fun vz _ => vz = undef, fun vz _ => vz = undef, fun vz _ => vz = undef, fun vz _ => vz = undef, fun vz _ => vz = undef, fun vz _ => vz = undef, fun vz _ => vz = undef, fun vz _ => vz = undef, fun vz wz => vz = (.bool true : Value), fun vz wz => vz = (.bool true : Value), fun vz _ => vz = undef, fun vz _ => vz = undef, fun vz _ => vz = undef, fun vz _ => vz = undef, fun vz _ => vz = undef, fun vz _ => vz = undef] mo rfl ⟨fun _ _ _ h _ => h, fun _ _ _ h _ => h, fun _ _ _ h _ => h, fun _ _ _ h _ => h, fun _ _ _ h _ => h, fun _ _ _ h _ => h, fun _ _ _ h _ => h, fun _ _ _ h _ => h, fun _ _ _ h _ => h, fun _ _ _ h _ => h, fun _ _ _ h _ => h, fun _ _ _ h _ => h, fun _ _ _ h _ => h, fun _ _ _ h _ => h, fun _ _ _ h _ => h, fun _ _ _ h _ => h, fun _ _ _ h _ => h, fun _ _ _ h _ => h, fun _ _ _ h _ => h, fun _ _ _ h _ => h, fun _ _ _ h _ => h, fun _ _ _ h _ => h, fun _ _ _ h _ => h, fun _ _ _ h _ => h, fun _ _ _ h _ => h, fun _ _ _ h _ => h, fun _ _ _ h _ => h, fun _ _ _ h _ => h, fun _ _ _ h _ => h, fun _ _ _ h _ => h, fun _ _ _ h _ => h, fun _ _ _ h _ => h, fun _ _ _ h _ => h, fun _ _ _ h _ => h, trivial⟩ ?_ ?_
                              · refine ⟨?_, ?_, ?_, ?_, ?_, ?_, ?_, ?_, ?_, ?_, ?_, ?_, ?_, ?_, ?_, ?_, ?_, ?_, ?_, ?_, ?_, ?_, ?_, ?_, ?_, ?_, ?_, ?_, ?_, ?_, ?_, ?_, ?_, ?_, trivial⟩
                                · intro ρz wz hz hk hd
                                  exact sk_val (v := .int .u64 t146.1) (by exact xr_move rfl ((hk 9 rfl).trans rfl)) rfl rfl
                                · intro ρz wz hz hk hd
                                  exact sk_val (v := .int .u64 t167.1) (by exact xr_move rfl ((hk 11 rfl).trans rfl)) rfl rfl
                                · intro ρz wz hz hk hd
                                  have d84 := hd 0 rfl 84 rfl
                                  have d85 := hd 1 rfl 85 rfl
                                  exact sk_val (v := .bool (!decide (t146.1 = t167.1))) (by exact xr_neI rfl Try.underlying22 rfl d84 d85) rfl rfl
                                · intro ρz wz hz hk hd
                                  have d86 := hd 2 rfl 86 rfl
                                  exact sk_val (v := .bool (!decide (t146.1 = t167.1))) (by exact xr_move rfl d86) rfl rfl
                                · intro ρz wz hz hk hd
                                  have d87 := hd 3 rfl 87 rfl
                                  exact sk_gval (v := .int .i64 t146.2.1) (by exact xr_move rfl ((hk 10 rfl).trans rfl)) rfl rfl d87 c201 rfl
                                · intro ρz wz hz hk hd
                                  have d87 := hd 3 rfl 87 rfl
                                  exact sk_gval (v := .int .i64 t167.2.1) (by exact xr_move rfl ((hk 12 rfl).trans rfl)) rfl rfl d87 c201 rfl
                                · intro ρz wz hz hk hd
                                  have d88 := hd 4 rfl 88 rfl
                                  have d89 := hd 5 rfl 89 rfl
                                  have d87 := hd 3 rfl 87 rfl
                                  exact sk_gval (v := .bool (!decide (t146.2.1 = t167.2.1))) (by exact xr_neI rfl Try.underlying3 rfl d88 d89) rfl rfl d87 c201 rfl
                                · intro ρz wz hz hk hd
                                  have d87 := hd 3 rfl 87 rfl
                                  have d90 := hd 6 rfl 90 rfl
                                  exact sk_val (v := .bool (!decide (t146.2.1 = t167.2.1))) (by exact xr_pickF rfl d87 c201 d90) rfl rfl
                                · intro ρz wz hz hk hd
                                  have d91 := hd 7 rfl 91 rfl
                                  exact sk_val (v := .bool (!decide (t146.2.1 = t167.2.1))) (by exact xr_move rfl d91) rfl rfl
                                · intro ρz wz hz hk hd
                                  have d92 := hd 8 rfl 92 rfl
                                  exact sk_gval (v := .pointer (some ⟨G35, 0, none⟩)) (by exact xr_move rfl ((hk 5 rfl).trans e5)) rfl rfl d92 c205 rfl
                                · intro ρz wz hz hk hd
                                  have d93 := hd 9 rfl 93 rfl
                                  have d92 := hd 8 rfl 92 rfl
                                  refine sk_gop (by exact opv_call rfl cal37 (ac d93 an) (pmem_Device_Steps.ok fu _ t146.2.2 G35 u149 (o150.gr hz).rd u153 (o154.gr hz).rd (b37.gr hz) _ k210)) rfl rfl d92 c205 ?_
                                  rintro _ wy ⟨rfl, q211⟩
                                  exact ⟨rfl, q211⟩
                                · intro ρz wz hz hk hd
                                  have d92 := hd 8 rfl 92 rfl
                                  exact sk_gval (v := .pointer (some ⟨G66, 0, none⟩)) (by exact xr_move rfl ((hk 7 rfl).trans e7)) rfl rfl d92 c205 rfl
                                · intro ρz wz hz hk hd
                                  have d95 := hd 11 rfl 95 rfl
                                  have d92 := hd 8 rfl 92 rfl
                                  exact sk_gval (v := .pointer (some ⟨G66, 0, none⟩)) (by exact xr_nilCheck rfl d95) rfl rfl d92 c205 rfl
                                · intro ρz wz hz hk hd
                                  have d96 := hd 12 rfl 96 rfl
                                  have d92 := hd 8 rfl 92 rfl
                                  exact sk_gval (v := .pointer (some ⟨G66, 7, none⟩)) (by exact xr_fieldAddr (p := 0) (q := 7) rfl fl65_7 d96) rfl rfl d92 c205 rfl
                                · intro ρz wz hz hk hd
                                  have d97 := hd 13 rfl 97 rfl
                                  have d92 := hd 8 rfl 92 rfl
                                  exact sk_gval (v := .int .i64 t167.2.2.Steps) (by exact xr_load1 (v := .int .i64 t167.2.2.Steps) rfl ag3 d97 ((b68.gr hz).seg 7 rfl rfl)) rfl rfl d92 c205 rfl
                                · intro ρz wz hz hk hd
                                  have d94 := hd 10 rfl 94 rfl
                                  have d98 := hd 14 rfl 98 rfl
                                  have d92 := hd 8 rfl 92 rfl
                                  exact sk_gval (v := .bool (!decide (t209 = t167.2.2.Steps))) (by exact xr_neI rfl Try.underlying3 rfl d94 d98) rfl rfl d92 c205 rfl
                                · intro ρz wz hz hk hd
                                  have d92 := hd 8 rfl 92 rfl
                                  have d99 := hd 15 rfl 99 rfl
                                  exact sk_val (v := .bool (!decide (t209 = t167.2.2.Steps))) (by exact xr_pickF rfl d92 c205 d99) rfl rfl
                                · intro ρz wz hz hk hd
                                  have d100 := hd 16 rfl 100 rfl
                                  exact sk_val (v := .bool (!decide (t209 = t167.2.2.Steps))) (by exact xr_move rfl d100) rfl rfl
                                · intro ρz wz hz hk hd
                                  have d101 := hd 17 rfl 101 rfl
                                  exact sk_skip rfl rfl d101 c212 rfl
                                · intro ρz wz hz hk hd
                                  have d101 := hd 17 rfl 101 rfl
                                  exact sk_skip rfl rfl d101 c212 rfl
                                · intro ρz wz hz hk hd
                                  have d101 := hd 17 rfl 101 rfl
                                  exact sk_skip rfl rfl d101 c212 rfl
                                · intro ρz wz hz hk hd
                                  have d101 := hd 17 rfl 101 rfl
                                  exact sk_skip rfl rfl d101 c212 rfl
                                · intro ρz wz hz hk hd
                                  have d101 := hd 17 rfl 101 rfl
                                  exact sk_skip rfl rfl d101 c212 rfl
                                · intro ρz wz hz hk hd
                                  have d101 := hd 17 rfl 101 rfl
                                  exact sk_skip rfl rfl d101 c212 rfl
                                · intro ρz wz hz hk hd
                                  have d101 := hd 17 rfl 101 rfl
                                  exact sk_skip rfl rfl d101 c212 rfl
                                · intro ρz wz hz hk hd
                                  have d101 := hd 17 rfl 101 rfl
                                  exact sk_skip rfl rfl d101 c212 rfl
                                · intro ρz wz hz hk hd
                                  have d101 := hd 17 rfl 101 rfl
                                  exact sk_val (v := .bool true) (by exact xr_pickT rfl d101 c212 rfl) rfl rfl
                                · intro ρz wz hz hk hd
                                  have d110 := hd 26 rfl 110 rfl
                                  exact sk_val (v := .bool true) (by exact xr_move rfl d110) rfl rfl
                                · intro ρz wz hz hk hd
                                  have d111 := hd 27 rfl 111 rfl
                                  exact sk_skip rfl rfl d111 rfl rfl
                                · intro ρz wz hz hk hd
                                  have d111 := hd 27 rfl 111 rfl
                                  exact sk_skip rfl rfl d111 rfl rfl
                                · intro ρz wz hz hk hd
                                  have d111 := hd 27 rfl 111 rfl
                                  exact sk_skip rfl rfl d111 rfl rfl
                                · intro ρz wz hz hk hd
                                  have d111 := hd 27 rfl 111 rfl
                                  exact sk_skip rfl rfl d111 rfl rfl
                                · intro ρz wz hz hk hd
                                  have d111 := hd 27 rfl 111 rfl
                                  exact sk_skip rfl rfl d111 rfl rfl
                                · intro ρz wz hz hk hd
                                  have d111 := hd 27 rfl 111 rfl
                                  exact sk_skip rfl rfl d111 rfl rfl
                              · intro ρ213 w214 q215 hk hd
                                have e1 := (hk 1 rfl).trans e1
                                have e5 := (hk 5 rfl).trans e5
                                have e7 := (hk 7 rfl).trans e7
                                have e8 := (hk 8 rfl).trans e8
                                have e88 := hd 4 rfl 88 rfl
                                have e89 := hd 5 rfl 89 rfl
                                have e90 := hd 6 rfl 90 rfl
                                have e93 := hd 9 rfl 93 rfl
                                have e94 := hd 10 rfl 94 rfl
                                have e95 := hd 11 rfl 95 rfl
                                have e96 := hd 12 rfl 96 rfl
                                have e97 := hd 13 rfl 97 rfl
                                have e98 := hd 14 rfl 98 rfl
                                have e99 := hd 15 rfl 99 rfl
                                have e111 := hd 27 rfl 111 rfl
                                have b37 := b37.gr q215
                                have b68 := b68.gr q215
                                have o150 := o150.gr q215
                                have o154 := o154.gr q215
                                have o171 := o171.gr q215
                                have o175 := o175.gr q215
                                have o179 := o179.gr q215
                                have o183 := o183.gr q215
                                have o187 := o187.gr q215
                                have fB := fB.gr q215
                                refine ol_val (v := .bool true) (by exact xr_pickT rfl e111 rfl rfl) rfl rfl rfl ?_
                                refine ol_nil ?_
                                obtain rfl := Option.some.inj j200
                                refine thn_i ?_
                                exact ⟨e1, e5, e7, e8, rfl, q215⟩
                            · skip
                              obtain ⟨t216, k217, j200⟩ := bs j200
                              rcases is j200 with ⟨c219, j200⟩ | ⟨c219, j200⟩
                              · skip
                                refine cw_drawL 34 [fun vz wz => vz = (.int .u64 t146.1 : Value), fun vz wz => vz = (.int .u64 t167.1 : Value), fun vz wz => vz = (.bool (!decide (t146.1 = t167.1)) : Value), fun vz wz => vz = (.bool (!decide (t146.1 = t167.1)) : Value), fun vz wz => vz = (.int .i64 t146.2.1 : Value), fun vz wz => vz = (.int .i64 t167.2.1 : Value), fun vz wz => vz = (.bool (!decide (t146.2.1 = t167.2.1)) : Value), fun vz wz => vz = (.bool (!decide (t146.2.1 = t167.2.1)) : Value), fun vz wz => vz = (.bool (!decide (t146.2.1 = t167.2.1)) : Value), fun vz wz => vz = (.pointer (some ⟨G35, 0, none⟩) : Value), fun vz wz => vz = (.int .i64 t209 : Value), fun vz wz => vz = (.pointer (some ⟨G66, 0, none⟩) : Value), fun vz wz => vz = (.pointer (some ⟨G66, 0, none⟩) : Value), fun vz wz => vz = (.pointer (some ⟨G66, 7, none⟩) : Value), fun vz wz => vz = (.int .i64 t167.2.2.Steps : Value), fun vz wz => vz = (.bool (!decide (t209 = t167.2.2.Steps)) : Value), fun vz wz => vz = (.bool (!decide (t209 = t167.2.2.Steps)) : Value), fun vz wz => vz = (.bool (!decide (t209 = t167.2.2.Steps)) : Value), fun vz wz => vz = (.pointer (some ⟨G35, 0, none⟩) : Value), fun vz wz => vz = (.bool t216 : Value), fun vz wz => vz = (.pointer (some ⟨G66, 0, none⟩) : Value), fun vz wz => vz = (.pointer (some ⟨G66, 0, none⟩) : Value), fun vz wz => vz = (.pointer (some ⟨G66, 6, none⟩) : Value), fun vz wz => vz = (.int .i64 t167.2.2.Left : Value), fun vz wz => vz = (.bool (!decide (t167.2.2.Left = 0)) : Value), fun vz wz => vz = (.bool (!decide (t216 = (!decide (t167.2.2.Left = 0)))) : Value), fun vz wz => vz = (.bool (!decide (t216 = (!decide (t167.2.2.Left = 0)))) : Value), fun vz wz => vz = (.bool (!decide (t216 = (!decide (t167.2.2.Left = 0)))) : Value), fun vz _ => vz = undef, fun vz _ => vz = undef, fun vz _ => vz = undef, fun vz _ => vz = undef, fun vz _ => vz = undef, fun vz _ => vz = undef] mo rfl ⟨fun _ _ _ h _ => h, fun _ _ _ h _ => h, fun _ _ _ h _ => h, fun _ _ _ h _ => h, fun _ _ _ h _ => h, fun _ _ _ h _ => h, fun _ _ _ h _ => h, fun _ _ _ h _ => h, fun _ _ _ h _ => h, fun _ _ _ h _ => h, fun _ _ _ h _ => h, fun _ _ _ h _ => h, fun _ _ _ h _ => h, fun _ _ _ h _ => h, fun _ _ _ h _ => h, fun _ _ _ h _ => h, fun _ _ _ h _ => h, fun _ _ _ h _ => h, fun _ _ _ h _ => h, fun _ _ _ h _ => h, fun _ _ _ h _ => h, fun _ _ _ h _ => h, fun _ _ _ h _ => h, fun _ _ _ h _ => h, fun _ _ _ h _ => h, fun _ _ _ h _ => h, fun _ _ _ h _ => h, fun _ _ _ h _ => h, fun _ _ _ h _ => h, fun _ _ _ h _ => h, fun _ _ _ h _ => h, fun _ _ _ h _ => h, fun _ _ _ h _ => h, fun _ _ _ h _ => h, trivial⟩ ?_ ?_
                                · refine ⟨?_, ?_, ?_, ?_, ?_, ?_, ?_, ?_, ?_, ?_, ?_, ?_, ?_, ?_, ?_, ?_, ?_, ?_, ?_, ?_, ?_, ?_, ?_, ?_, ?_, ?_, ?_, ?_, ?_, ?_, ?_, ?_, ?_, ?_, trivial⟩
                                  · intro ρz wz hz hk hd
                                    exact sk_val (v := .int .u64 t146.1) (by exact xr_move rfl ((hk 9 rfl).trans rfl)) rfl rfl
                                  · intro ρz wz hz hk hd
                                    exact sk_val (v := .int .u64 t167.1) (by exact xr_move rfl ((hk 11 rfl).trans rfl)) rfl rfl
                                  · intro ρz wz hz hk hd
                                    have d84 := hd 0 rfl 84 rfl
                                    have d85 := hd 1 rfl 85 rfl
                                    exact sk_val (v := .bool (!decide (t146.1 = t167.1))) (by exact xr_neI rfl Try.underlying22 rfl d84 d85) rfl rfl
                                  · intro ρz wz hz hk hd
                                    have d86 := hd 2 rfl 86 rfl
                                    exact sk_val (v := .bool (!decide (t146.1 = t167.1))) (by exact xr_move rfl d86) rfl rfl
                                  · intro ρz wz hz hk hd
                                    have d87 := hd 3 rfl 87 rfl
                                    exact sk_gval (v := .int .i64 t146.2.1) (by exact xr_move rfl ((hk 10 rfl).trans rfl)) rfl rfl d87 c201 rfl
                                  · intro ρz wz hz hk hd
                                    have d87 := hd 3 rfl 87 rfl
                                    exact sk_gval (v := .int .i64 t167.2.1) (by exact xr_move rfl ((hk 12 rfl).trans rfl)) rfl rfl d87 c201 rfl
                                  · intro ρz wz hz hk hd
                                    have d88 := hd 4 rfl 88 rfl
                                    have d89 := hd 5 rfl 89 rfl
                                    have d87 := hd 3 rfl 87 rfl
                                    exact sk_gval (v := .bool (!decide (t146.2.1 = t167.2.1))) (by exact xr_neI rfl Try.underlying3 rfl d88 d89) rfl rfl d87 c201 rfl
                                  · intro ρz wz hz hk hd
                                    have d87 := hd 3 rfl 87 rfl
                                    have d90 := hd 6 rfl 90 rfl
                                    exact sk_val (v := .bool (!decide (t146.2.1 = t167.2.1))) (by exact xr_pickF rfl d87 c201 d90) rfl rfl
                                  · intro ρz wz hz hk hd
                                    have d91 := hd 7 rfl 91 rfl
                                    exact sk_val (v := .bool (!decide (t146.2.1 = t167.2.1))) (by exact xr_move rfl d91) rfl rfl
                                  · intro ρz wz hz hk hd
                                    have d92 := hd 8 rfl 92 rfl
                                    exact sk_gval (v := .pointer (some ⟨G35, 0, none⟩)) (by exact xr_move rfl ((hk 5 rfl).trans e5)) rfl rfl d92 c205 rfl
                                  · intro ρz wz hz hk hd
                                    have d93 := hd 9 rfl 93 rfl
                                    have d92 := hd 8 rfl 92 rfl
                                    refine sk_gop (by exact opv_call rfl cal37 (ac d93 an) (pmem_Device_Steps.ok fu _ t146.2.2 G35 u149 (o150.gr hz).rd u153 (o154.gr hz).rd (b37.gr hz) _ k210)) rfl rfl d92 c205 ?_
                                    rintro _ wy ⟨rfl, q211⟩
                                    exact ⟨rfl, q211⟩
                                  · intro ρz wz hz hk hd
                                    have d92 := hd 8 rfl 92 rfl
                                    exact sk_gval (v := .pointer (some ⟨G66, 0, none⟩)) (by exact xr_move rfl ((hk 7 rfl).trans e7)) rfl rfl d92 c205 rfl
                                  · intro ρz wz hz hk hd
                                    have d95 := hd 11 rfl 95 rfl
                                    have d92 := hd 8 rfl 92 rfl
                                    exact sk_gval (v := .pointer (some ⟨G66, 0, none⟩)) (by exact xr_nilCheck rfl d95) rfl rfl d92 c205 rfl
                                  · intro ρz wz hz hk hd
                                    have d96 := hd 12 rfl 96 rfl
                                    have d92 := hd 8 rfl 92 rfl
                                    exact sk_gval (v := .pointer (some ⟨G66, 7, none⟩)) (by exact xr_fieldAddr (p := 0) (q := 7) rfl fl65_7 d96) rfl rfl d92 c205 rfl
                                  · intro ρz wz hz hk hd
                                    have d97 := hd 13 rfl 97 rfl
                                    have d92 := hd 8 rfl 92 rfl
                                    exact sk_gval (v := .int .i64 t167.2.2.Steps) (by exact xr_load1 (v := .int .i64 t167.2.2.Steps) rfl ag3 d97 ((b68.gr hz).seg 7 rfl rfl)) rfl rfl d92 c205 rfl
                                  · intro ρz wz hz hk hd
                                    have d94 := hd 10 rfl 94 rfl
                                    have d98 := hd 14 rfl 98 rfl
                                    have d92 := hd 8 rfl 92 rfl
                                    exact sk_gval (v := .bool (!decide (t209 = t167.2.2.Steps))) (by exact xr_neI rfl Try.underlying3 rfl d94 d98) rfl rfl d92 c205 rfl
                                  · intro ρz wz hz hk hd
                                    have d92 := hd 8 rfl 92 rfl
                                    have d99 := hd 15 rfl 99 rfl
                                    exact sk_val (v := .bool (!decide (t209 = t167.2.2.Steps))) (by exact xr_pickF rfl d92 c205 d99) rfl rfl
                                  · intro ρz wz hz hk hd
                                    have d100 := hd 16 rfl 100 rfl
                                    exact sk_val (v := .bool (!decide (t209 = t167.2.2.Steps))) (by exact xr_move rfl d100) rfl rfl
                                  · intro ρz wz hz hk hd
                                    have d101 := hd 17 rfl 101 rfl
                                    exact sk_gval (v := .pointer (some ⟨G35, 0, none⟩)) (by exact xr_move rfl ((hk 5 rfl).trans e5)) rfl rfl d101 c212 rfl
                                  · intro ρz wz hz hk hd
                                    have d102 := hd 18 rfl 102 rfl
                                    have d101 := hd 17 rfl 101 rfl
                                    refine sk_gop (by exact opv_call rfl cal39 (ac d102 an) (pmem_Device_Up.ok fu _ t146.2.2 G35 u149 (o150.gr hz).rd u153 (o154.gr hz).rd (b37.gr hz) _ k217)) rfl rfl d101 c212 ?_
                                    rintro _ wy ⟨rfl, q218⟩
                                    exact ⟨rfl, q218⟩
                                  · intro ρz wz hz hk hd
                                    have d101 := hd 17 rfl 101 rfl
                                    exact sk_gval (v := .pointer (some ⟨G66, 0, none⟩)) (by exact xr_move rfl ((hk 7 rfl).trans e7)) rfl rfl d101 c212 rfl
                                  · intro ρz wz hz hk hd
                                    have d104 := hd 20 rfl 104 rfl
                                    have d101 := hd 17 rfl 101 rfl
                                    exact sk_gval (v := .pointer (some ⟨G66, 0, none⟩)) (by exact xr_nilCheck rfl d104) rfl rfl d101 c212 rfl
                                  · intro ρz wz hz hk hd
                                    have d105 := hd 21 rfl 105 rfl
                                    have d101 := hd 17 rfl 101 rfl
                                    exact sk_gval (v := .pointer (some ⟨G66, 6, none⟩)) (by exact xr_fieldAddr (p := 0) (q := 6) rfl fl65_6 d105) rfl rfl d101 c212 rfl
                                  · intro ρz wz hz hk hd
                                    have d106 := hd 22 rfl 106 rfl
                                    have d101 := hd 17 rfl 101 rfl
                                    exact sk_gval (v := .int .i64 t167.2.2.Left) (by exact xr_load1 (v := .int .i64 t167.2.2.Left) rfl ag3 d106 ((b68.gr hz).seg 6 rfl rfl)) rfl rfl d101 c212 rfl
                                  · intro ρz wz hz hk hd
                                    have d107 := hd 23 rfl 107 rfl
                                    have d101 := hd 17 rfl 101 rfl
                                    exact sk_gval (v := .bool (!decide (t167.2.2.Left = 0))) (by exact xr_neI rfl Try.underlying3 rfl d107 rfl) rfl rfl d101 c212 rfl
                                  · intro ρz wz hz hk hd
                                    have d103 := hd 19 rfl 103 rfl
                                    have d108 := hd 24 rfl 108 rfl
                                    have d101 := hd 17 rfl 101 rfl
                                    exact sk_gval (v := .bool (!decide (t216 = (!decide (t167.2.2.Left = 0))))) (by exact xr_neB rfl Try.underlying4 d103 d108) rfl rfl d101 c212 rfl
                                  · intro ρz wz hz hk hd
                                    have d101 := hd 17 rfl 101 rfl
                                    have d109 := hd 25 rfl 109 rfl
                                    exact sk_val (v := .bool (!decide (t216 = (!decide (t167.2.2.Left = 0))))) (by exact xr_pickF rfl d101 c212 d109) rfl rfl
                                  · intro ρz wz hz hk hd
                                    have d110 := hd 26 rfl 110 rfl
                                    exact sk_val (v := .bool (!decide (t216 = (!decide (t167.2.2.Left = 0))))) (by exact xr_move rfl d110) rfl rfl
                                  · intro ρz wz hz hk hd
                                    have d111 := hd 27 rfl 111 rfl
                                    exact sk_skip rfl rfl d111 c219 rfl
                                  · intro ρz wz hz hk hd
                                    have d111 := hd 27 rfl 111 rfl
                                    exact sk_skip rfl rfl d111 c219 rfl
                                  · intro ρz wz hz hk hd
                                    have d111 := hd 27 rfl 111 rfl
                                    exact sk_skip rfl rfl d111 c219 rfl
                                  · intro ρz wz hz hk hd
                                    have d111 := hd 27 rfl 111 rfl
                                    exact sk_skip rfl rfl d111 c219 rfl
                                  · intro ρz wz hz hk hd
                                    have d111 := hd 27 rfl 111 rfl
                                    exact sk_skip rfl rfl d111 c219 rfl
                                  · intro ρz wz hz hk hd
                                    have d111 := hd 27 rfl 111 rfl
                                    exact sk_skip rfl rfl d111 c219 rfl
                                · intro ρ220 w221 q222 hk hd
                                  have e1 := (hk 1 rfl).trans e1
                                  have e5 := (hk 5 rfl).trans e5
                                  have e7 := (hk 7 rfl).trans e7
                                  have e8 := (hk 8 rfl).trans e8
                                  have e88 := hd 4 rfl 88 rfl
                                  have e89 := hd 5 rfl 89 rfl
                                  have e90 := hd 6 rfl 90 rfl
                                  have e93 := hd 9 rfl 93 rfl
                                  have e94 := hd 10 rfl 94 rfl
                                  have e95 := hd 11 rfl 95 rfl
                                  have e96 := hd 12 rfl 96 rfl
                                  have e97 := hd 13 rfl 97 rfl
                                  have e98 := hd 14 rfl 98 rfl
                                  have e99 := hd 15 rfl 99 rfl
                                  have e102 := hd 18 rfl 102 rfl
                                  have e103 := hd 19 rfl 103 rfl
                                  have e104 := hd 20 rfl 104 rfl
                                  have e105 := hd 21 rfl 105 rfl
                                  have e106 := hd 22 rfl 106 rfl
                                  have e107 := hd 23 rfl 107 rfl
                                  have e108 := hd 24 rfl 108 rfl
                                  have e109 := hd 25 rfl 109 rfl
                                  have e111 := hd 27 rfl 111 rfl
                                  have b37 := b37.gr q222
                                  have b68 := b68.gr q222
                                  have o150 := o150.gr q222
                                  have o154 := o154.gr q222
                                  have o171 := o171.gr q222
                                  have o175 := o175.gr q222
                                  have o179 := o179.gr q222
                                  have o183 := o183.gr q222
                                  have o187 := o187.gr q222
                                  have fB := fB.gr q222
                                  refine ol_val (v := .bool true) (by exact xr_pickT rfl e111 c219 rfl) rfl rfl rfl ?_
                                  refine ol_nil ?_
                                  obtain rfl := Option.some.inj j200
                                  refine thn_i ?_
                                  exact ⟨e1, e5, e7, e8, rfl, q222⟩
                              · skip
                                obtain ⟨t223, k224, j200⟩ := bs j200
                                obtain ⟨t229, k230, j200⟩ := bs j200
                                obtain ⟨t235, k236, j200⟩ := bs j200
                                refine cw_drawL 34 [fun vz wz => vz = (.int .u64 t146.1 : Value), fun vz wz => vz = (.int .u64 t167.1 : Value), fun vz wz => vz = (.bool (!decide (t146.1 = t167.1)) : Value), fun vz wz => vz = (.bool (!decide (t146.1 = t167.1)) : Value), fun vz wz => vz = (.int .i64 t146.2.1 : Value), fun vz wz => vz = (.int .i64 t167.2.1 : Value), fun vz wz => vz = (.bool (!decide (t146.2.1 = t167.2.1)) : Value), fun vz wz => vz = (.bool (!decide (t146.2.1 = t167.2.1)) : Value), fun vz wz => vz = (.bool (!decide (t146.2.1 = t167.2.1)) : Value), fun vz wz => vz = (.pointer (some ⟨G35, 0, none⟩) : Value), fun vz wz => vz = (.int .i64 t209 : Value), fun vz wz => vz = (.pointer (some ⟨G66, 0, none⟩) : Value), fun vz wz => vz = (.pointer (some ⟨G66, 0, none⟩) : Value), fun vz wz => vz = (.pointer (some ⟨G66, 7, none⟩) : Value), fun vz wz => vz = (.int .i64 t167.2.2.Steps : Value), fun vz wz => vz = (.bool (!decide (t209 = t167.2.2.Steps)) : Value), fun vz wz => vz = (.bool (!decide (t209 = t167.2.2.Steps)) : Value), fun vz wz => vz = (.bool (!decide (t209 = t167.2.2.Steps)) : Value), fun vz wz => vz = (.pointer (some ⟨G35, 0, none⟩) : Value), fun vz wz => vz = (.bool t216 : Value), fun vz wz => vz = (.pointer (some ⟨G66, 0, none⟩) : Value), fun vz wz => vz = (.pointer (some ⟨G66, 0, none⟩) : Value), fun vz wz => vz = (.pointer (some ⟨G66, 6, none⟩) : Value), fun vz wz => vz = (.int .i64 t167.2.2.Left : Value), fun vz wz => vz = (.bool (!decide (t167.2.2.Left = 0)) : Value), fun vz wz => vz = (.bool (!decide (t216 = (!decide (t167.2.2.Left = 0)))) : Value), fun vz wz => vz = (.bool (!decide (t216 = (!decide (t167.2.2.Left = 0)))) : Value), fun vz wz => vz = (.bool (!decide (t216 = (!decide (t167.2.2.Left = 0)))) : Value), fun vz wz => vz = (.pointer (some ⟨G35, 0, none⟩) : Value), fun vz wz => ∃ u225 : Value, ∃ o226 : Own k_api_Fate 55 wz w.heap.size u225 t223, vz = (u225 : Value), fun vz wz => vz = (.pointer (some ⟨G66, 0, none⟩) : Value), fun vz wz => ∃ u231 : Value, ∃ o232 : Own k_api_Fate 55 wz w.heap.size u231 t229, vz = (u231 : Value), fun vz wz => vz = (.bool t235 : Value), fun vz wz => vz = (.bool (!t235) : Value)] mo rfl ⟨fun _ _ _ h _ => h, fun _ _ _ h _ => h, fun _ _ _ h _ => h, fun _ _ _ h _ => h, fun _ _ _ h _ => h, fun _ _ _ h _ => h, fun _ _ _ h _ => h, fun _ _ _ h _ => h, fun _ _ _ h _ => h, fun _ _ _ h _ => h, fun _ _ _ h _ => h, fun _ _ _ h _ => h, fun _ _ _ h _ => h, fun _ _ _ h _ => h, fun _ _ _ h _ => h, fun _ _ _ h _ => h, fun _ _ _ h _ => h, fun _ _ _ h _ => h, fun _ _ _ h _ => h, fun _ _ _ h _ => h, fun _ _ _ h _ => h, fun _ _ _ h _ => h, fun _ _ _ h _ => h, fun _ _ _ h _ => h, fun _ _ _ h _ => h, fun _ _ _ h _ => h, fun _ _ _ h _ => h, fun _ _ _ h _ => h, fun _ _ _ h _ => h, fun _ _ _ ⟨u225, o226, h⟩ q => ⟨u225, o226.gr q, h⟩, fun _ _ _ h _ => h, fun _ _ _ ⟨u231, o232, h⟩ q => ⟨u231, o232.gr q, h⟩, fun _ _ _ h _ => h, fun _ _ _ h _ => h, trivial⟩ ?_ ?_
                                · refine ⟨?_, ?_, ?_, ?_, ?_, ?_, ?_, ?_, ?_, ?_, ?_, ?_, ?_, ?_, ?_, ?_, ?_, ?_, ?_, ?_, ?_, ?_, ?_, ?_, ?_, ?_, ?_, ?_, ?_, ?_, ?_, ?_, ?_, ?_, trivial⟩
                                  · intro ρz wz hz hk hd
                                    exact sk_val (v := .int .u64 t146.1) (by exact xr_move rfl ((hk 9 rfl).trans rfl)) rfl rfl
                                  · intro ρz wz hz hk hd
                                    exact sk_val (v := .int .u64 t167.1) (by exact xr_move rfl ((hk 11 rfl).trans rfl)) rfl rfl
                                  · intro ρz wz hz hk hd
                                    have d84 := hd 0 rfl 84 rfl
                                    have d85 := hd 1 rfl 85 rfl
                                    exact sk_val (v := .bool (!decide (t146.1 = t167.1))) (by exact xr_neI rfl Try.underlying22 rfl d84 d85) rfl rfl
                                  · intro ρz wz hz hk hd
                                    have d86 := hd 2 rfl 86 rfl
                                    exact sk_val (v := .bool (!decide (t146.1 = t167.1))) (by exact xr_move rfl d86) rfl rfl
                                  · intro ρz wz hz hk hd
                                    have d87 := hd 3 rfl 87 rfl
                                    exact sk_gval (v := .int .i64 t146.2.1) (by exact xr_move rfl ((hk 10 rfl).trans rfl)) rfl rfl d87 c201 rfl
                                  · intro ρz wz hz hk hd
                                    have d87 := hd 3 rfl 87 rfl
                                    exact sk_gval (v := .int .i64 t167.2.1) (by exact xr_move rfl ((hk 12 rfl).trans rfl)) rfl rfl d87 c201 rfl
                                  · intro ρz wz hz hk hd
                                    have d88 := hd 4 rfl 88 rfl
                                    have d89 := hd 5 rfl 89 rfl
                                    have d87 := hd 3 rfl 87 rfl
                                    exact sk_gval (v := .bool (!decide (t146.2.1 = t167.2.1))) (by exact xr_neI rfl Try.underlying3 rfl d88 d89) rfl rfl d87 c201 rfl
                                  · intro ρz wz hz hk hd
                                    have d87 := hd 3 rfl 87 rfl
                                    have d90 := hd 6 rfl 90 rfl
                                    exact sk_val (v := .bool (!decide (t146.2.1 = t167.2.1))) (by exact xr_pickF rfl d87 c201 d90) rfl rfl
                                  · intro ρz wz hz hk hd
                                    have d91 := hd 7 rfl 91 rfl
                                    exact sk_val (v := .bool (!decide (t146.2.1 = t167.2.1))) (by exact xr_move rfl d91) rfl rfl
                                  · intro ρz wz hz hk hd
                                    have d92 := hd 8 rfl 92 rfl
                                    exact sk_gval (v := .pointer (some ⟨G35, 0, none⟩)) (by exact xr_move rfl ((hk 5 rfl).trans e5)) rfl rfl d92 c205 rfl
                                  · intro ρz wz hz hk hd
                                    have d93 := hd 9 rfl 93 rfl
                                    have d92 := hd 8 rfl 92 rfl
                                    refine sk_gop (by exact opv_call rfl cal37 (ac d93 an) (pmem_Device_Steps.ok fu _ t146.2.2 G35 u149 (o150.gr hz).rd u153 (o154.gr hz).rd (b37.gr hz) _ k210)) rfl rfl d92 c205 ?_
                                    rintro _ wy ⟨rfl, q211⟩
                                    exact ⟨rfl, q211⟩
                                  · intro ρz wz hz hk hd
                                    have d92 := hd 8 rfl 92 rfl
                                    exact sk_gval (v := .pointer (some ⟨G66, 0, none⟩)) (by exact xr_move rfl ((hk 7 rfl).trans e7)) rfl rfl d92 c205 rfl
                                  · intro ρz wz hz hk hd
                                    have d95 := hd 11 rfl 95 rfl
                                    have d92 := hd 8 rfl 92 rfl
                                    exact sk_gval (v := .pointer (some ⟨G66, 0, none⟩)) (by exact xr_nilCheck rfl d95) rfl rfl d92 c205 rfl
                                  · intro ρz wz hz hk hd
                                    have d96 := hd 12 rfl 96 rfl
                                    have d92 := hd 8 rfl 92 rfl
                                    exact sk_gval (v := .pointer (some ⟨G66, 7, none⟩)) (by exact xr_fieldAddr (p := 0) (q := 7) rfl fl65_7 d96) rfl rfl d92 c205 rfl
                                  · intro ρz wz hz hk hd
                                    have d97 := hd 13 rfl 97 rfl
                                    have d92 := hd 8 rfl 92 rfl
                                    exact sk_gval (v := .int .i64 t167.2.2.Steps) (by exact xr_load1 (v := .int .i64 t167.2.2.Steps) rfl ag3 d97 ((b68.gr hz).seg 7 rfl rfl)) rfl rfl d92 c205 rfl
                                  · intro ρz wz hz hk hd
                                    have d94 := hd 10 rfl 94 rfl
                                    have d98 := hd 14 rfl 98 rfl
                                    have d92 := hd 8 rfl 92 rfl
                                    exact sk_gval (v := .bool (!decide (t209 = t167.2.2.Steps))) (by exact xr_neI rfl Try.underlying3 rfl d94 d98) rfl rfl d92 c205 rfl
                                  · intro ρz wz hz hk hd
                                    have d92 := hd 8 rfl 92 rfl
                                    have d99 := hd 15 rfl 99 rfl
                                    exact sk_val (v := .bool (!decide (t209 = t167.2.2.Steps))) (by exact xr_pickF rfl d92 c205 d99) rfl rfl
                                  · intro ρz wz hz hk hd
                                    have d100 := hd 16 rfl 100 rfl
                                    exact sk_val (v := .bool (!decide (t209 = t167.2.2.Steps))) (by exact xr_move rfl d100) rfl rfl
                                  · intro ρz wz hz hk hd
                                    have d101 := hd 17 rfl 101 rfl
                                    exact sk_gval (v := .pointer (some ⟨G35, 0, none⟩)) (by exact xr_move rfl ((hk 5 rfl).trans e5)) rfl rfl d101 c212 rfl
                                  · intro ρz wz hz hk hd
                                    have d102 := hd 18 rfl 102 rfl
                                    have d101 := hd 17 rfl 101 rfl
                                    refine sk_gop (by exact opv_call rfl cal39 (ac d102 an) (pmem_Device_Up.ok fu _ t146.2.2 G35 u149 (o150.gr hz).rd u153 (o154.gr hz).rd (b37.gr hz) _ k217)) rfl rfl d101 c212 ?_
                                    rintro _ wy ⟨rfl, q218⟩
                                    exact ⟨rfl, q218⟩
                                  · intro ρz wz hz hk hd
                                    have d101 := hd 17 rfl 101 rfl
                                    exact sk_gval (v := .pointer (some ⟨G66, 0, none⟩)) (by exact xr_move rfl ((hk 7 rfl).trans e7)) rfl rfl d101 c212 rfl
                                  · intro ρz wz hz hk hd
                                    have d104 := hd 20 rfl 104 rfl
                                    have d101 := hd 17 rfl 101 rfl
                                    exact sk_gval (v := .pointer (some ⟨G66, 0, none⟩)) (by exact xr_nilCheck rfl d104) rfl rfl d101 c212 rfl
                                  · intro ρz wz hz hk hd
                                    have d105 := hd 21 rfl 105 rfl
                                    have d101 := hd 17 rfl 101 rfl
                                    exact sk_gval (v := .pointer (some ⟨G66, 6, none⟩)) (by exact xr_fieldAddr (p := 0) (q := 6) rfl fl65_6 d105) rfl rfl d101 c212 rfl
                                  · intro ρz wz hz hk hd
                                    have d106 := hd 22 rfl 106 rfl
                                    have d101 := hd 17 rfl 101 rfl
                                    exact sk_gval (v := .int .i64 t167.2.2.Left) (by exact xr_load1 (v := .int .i64 t167.2.2.Left) rfl ag3 d106 ((b68.gr hz).seg 6 rfl rfl)) rfl rfl d101 c212 rfl
                                  · intro ρz wz hz hk hd
                                    have d107 := hd 23 rfl 107 rfl
                                    have d101 := hd 17 rfl 101 rfl
                                    exact sk_gval (v := .bool (!decide (t167.2.2.Left = 0))) (by exact xr_neI rfl Try.underlying3 rfl d107 rfl) rfl rfl d101 c212 rfl
                                  · intro ρz wz hz hk hd
                                    have d103 := hd 19 rfl 103 rfl
                                    have d108 := hd 24 rfl 108 rfl
                                    have d101 := hd 17 rfl 101 rfl
                                    exact sk_gval (v := .bool (!decide (t216 = (!decide (t167.2.2.Left = 0))))) (by exact xr_neB rfl Try.underlying4 d103 d108) rfl rfl d101 c212 rfl
                                  · intro ρz wz hz hk hd
                                    have d101 := hd 17 rfl 101 rfl
                                    have d109 := hd 25 rfl 109 rfl
                                    exact sk_val (v := .bool (!decide (t216 = (!decide (t167.2.2.Left = 0))))) (by exact xr_pickF rfl d101 c212 d109) rfl rfl
                                  · intro ρz wz hz hk hd
                                    have d110 := hd 26 rfl 110 rfl
                                    exact sk_val (v := .bool (!decide (t216 = (!decide (t167.2.2.Left = 0))))) (by exact xr_move rfl d110) rfl rfl
                                  · intro ρz wz hz hk hd
                                    have d111 := hd 27 rfl 111 rfl
                                    exact sk_gval (v := .pointer (some ⟨G35, 0, none⟩)) (by exact xr_move rfl ((hk 5 rfl).trans e5)) rfl rfl d111 c219 rfl
                                  · intro ρz wz hz hk hd
                                    have d112 := hd 28 rfl 112 rfl
                                    have d111 := hd 27 rfl 111 rfl
                                    refine sk_gop (by exact opv_call rfl cal40 (ac d112 an) (pmem_Device_Fates.ok fu _ t146.2.2 G35 u149 (o150.gr hz).rd u153 (o154.gr hz).rd (b37.gr hz) _ k224)) rfl rfl d111 c219 ?_
                                    rintro u225 wy ⟨_, o226, rfl, q228⟩
                                    exact ⟨⟨u225, Own.base o226 ((Nat.le_trans fB.size hz.size)), rfl⟩, q228⟩
                                  · intro ρz wz hz hk hd
                                    have d111 := hd 27 rfl 111 rfl
                                    exact sk_gval (v := .pointer (some ⟨G66, 0, none⟩)) (by exact xr_move rfl ((hk 7 rfl).trans e7)) rfl rfl d111 c219 rfl
                                  · intro ρz wz hz hk hd
                                    have d114 := hd 30 rfl 114 rfl
                                    have d111 := hd 27 rfl 111 rfl
                                    refine sk_gop (by exact opv_call rfl cal47 (ac d114 an) (rickyardref05_Device_Fates.ok fu _ t167.2.2 G66 u170 (o171.gr hz).rd u174 (o175.gr hz).rd u178 (o179.gr hz).rd u182 (o183.gr hz).rd u186 (o187.gr hz).rd (b68.gr hz) _ k230)) rfl rfl d111 c219 ?_
                                    rintro u231 wy ⟨_, o232, rfl, q234⟩
                                    exact ⟨⟨u231, Own.base o232 ((Nat.le_trans fB.size hz.size)), rfl⟩, q234⟩
                                  · intro ρz wz hz hk hd
                                    obtain ⟨u225, o226, d113⟩ := hd 29 rfl 113 rfl
                                    obtain ⟨u231, o232, d115⟩ := hd 31 rfl 115 rfl
                                    have d111 := hd 27 rfl 111 rfl
                                    refine sk_gop (by exact opv_call rfl cal46 (ac d113 (ac d115 an)) (rickyardref05_Same.ok fu _ t223 u225 (o226.rd) t229 u231 (o232.rd) _ k236)) rfl rfl d111 c219 ?_
                                    rintro _ wy ⟨rfl, q237⟩
                                    exact ⟨rfl, q237⟩
                                  · intro ρz wz hz hk hd
                                    have d116 := hd 32 rfl 116 rfl
                                    have d111 := hd 27 rfl 111 rfl
                                    exact sk_gval (v := .bool (!t235)) (by exact xr_not rfl d116) rfl rfl d111 c219 rfl
                                · intro ρ238 w239 q240 hk hd
                                  have e1 := (hk 1 rfl).trans e1
                                  have e5 := (hk 5 rfl).trans e5
                                  have e7 := (hk 7 rfl).trans e7
                                  have e8 := (hk 8 rfl).trans e8
                                  have e88 := hd 4 rfl 88 rfl
                                  have e89 := hd 5 rfl 89 rfl
                                  have e90 := hd 6 rfl 90 rfl
                                  have e93 := hd 9 rfl 93 rfl
                                  have e94 := hd 10 rfl 94 rfl
                                  have e95 := hd 11 rfl 95 rfl
                                  have e96 := hd 12 rfl 96 rfl
                                  have e97 := hd 13 rfl 97 rfl
                                  have e98 := hd 14 rfl 98 rfl
                                  have e99 := hd 15 rfl 99 rfl
                                  have e102 := hd 18 rfl 102 rfl
                                  have e103 := hd 19 rfl 103 rfl
                                  have e104 := hd 20 rfl 104 rfl
                                  have e105 := hd 21 rfl 105 rfl
                                  have e106 := hd 22 rfl 106 rfl
                                  have e107 := hd 23 rfl 107 rfl
                                  have e108 := hd 24 rfl 108 rfl
                                  have e109 := hd 25 rfl 109 rfl
                                  have e111 := hd 27 rfl 111 rfl
                                  have e112 := hd 28 rfl 112 rfl
                                  obtain ⟨u241, o242, e113⟩ := hd 29 rfl 113 rfl
                                  have e114 := hd 30 rfl 114 rfl
                                  obtain ⟨u243, o244, e115⟩ := hd 31 rfl 115 rfl
                                  have e116 := hd 32 rfl 116 rfl
                                  have e117 := hd 33 rfl 117 rfl
                                  have b37 := b37.gr q240
                                  have b68 := b68.gr q240
                                  have o150 := o150.gr q240
                                  have o154 := o154.gr q240
                                  have o171 := o171.gr q240
                                  have o175 := o175.gr q240
                                  have o179 := o179.gr q240
                                  have o183 := o183.gr q240
                                  have o187 := o187.gr q240
                                  have fB := fB.gr q240
                                  refine ol_val (v := .bool (!t235)) (by exact xr_pickF rfl e111 c219 e117) rfl rfl rfl ?_
                                  refine ol_nil ?_
                                  obtain rfl := Option.some.inj j200
                                  refine thn_i ?_
                                  exact ⟨e1, e5, e7, e8, rfl, q240⟩
                      · skip
                        rintro ρ247 w248 ⟨e1, e5, e7, e8, e118, q249⟩
                        have b37 := b37.gr q249
                        have b68 := b68.gr q249
                        have o150 := o150.gr q249
                        have o154 := o154.gr q249
                        have o171 := o171.gr q249
                        have o175 := o175.gr q249
                        have o179 := o179.gr q249
                        have o183 := o183.gr q249
                        have o187 := o187.gr q249
                        have fB := fB.gr q249
                        rcases is h with ⟨c250, h⟩ | ⟨c250, h⟩
                        · refine cw_condT e118 c250 ?_
                          refine cw_seq ?_
                          refine cw_region ?_
                          refine ol_val (v := .bool false) (by exact xr_assign rfl rfl) rfl rfl rfl ?_
                          refine ol_nil ?_
                          refine cw_ret ?_
                          repeat (first | with_reducible refine thn_r ?_ | with_reducible refine blk_r ?_)
                          obtain rfl := Option.some.inj h
                          refine lp_ret ?_
                          rintro rfl
                          repeat (first | with_reducible refine thn_r ?_ | with_reducible refine blk_r ?_)
                          have h := h93
                          obtain rfl := Option.some.inj h
                          refine fin_ret1 Try.results7 rfl ?_
                          exact ⟨_, rfl, rfl, fB⟩
                        · refine cw_condF e118 c250 ?_
                          refine cw_skip ?_
                          refine cw_seq ?_
                          obtain ⟨x251, j252, h⟩ := bs h
                          refine cw_mid (fun ρ' w' => ρ' 1 = V1_0 ∧ ρ' 5 = .pointer (some ⟨G35, 0, none⟩) ∧ ρ' 7 = .pointer (some ⟨G66, 0, none⟩) ∧ ρ' 8 = .int .i64 s90.1 ∧ ρ' 138 = .bool x251 ∧ Gr w248 w') ?_ ?_
                          · skip
                            obtain ⟨t253, k254, j252⟩ := bs j252
                            obtain ⟨t259, k260, j252⟩ := bs j252
                            rcases is j252 with ⟨c262, j252⟩ | ⟨c262, j252⟩
                            · skip
                              refine cw_drawL 19 [fun vz wz => vz = (.pointer (some ⟨G35, 0, none⟩) : Value), fun vz wz => ∃ u255 : Value, ∃ o256 : Own (kI .u8) 5 wz w.heap.size u255 t253, vz = (u255 : Value), fun vz wz => vz = (sv (List.map toB t253) : Value), fun vz wz => vz = (.pointer (some ⟨G66, 0, none⟩) : Value), fun vz wz => vz = (.pointer (some ⟨G66, 0, none⟩) : Value), fun vz wz => vz = (.pointer (some ⟨G66, 0, none⟩) : Value), fun vz wz => vz = (u170 : Value), fun vz wz => vz = (sv t259 : Value), fun vz wz => vz = (.bool (!decide ((List.map toB t253) = t259)) : Value), fun vz wz => vz = (.bool (!decide ((List.map toB t253) = t259)) : Value), fun vz _ => vz = undef, fun vz _ => vz = undef, fun vz _ => vz = undef, fun vz _ => vz = undef, fun vz _ => vz = undef, fun vz _ => vz = undef, fun vz _ => vz = undef, fun vz _ => vz = undef, fun vz _ => vz = undef] mo rfl ⟨fun _ _ _ h _ => h, fun _ _ _ ⟨u255, o256, h⟩ q => ⟨u255, o256.gr q, h⟩, fun _ _ _ h _ => h, fun _ _ _ h _ => h, fun _ _ _ h _ => h, fun _ _ _ h _ => h, fun _ _ _ h _ => h, fun _ _ _ h _ => h, fun _ _ _ h _ => h, fun _ _ _ h _ => h, fun _ _ _ h _ => h, fun _ _ _ h _ => h, fun _ _ _ h _ => h, fun _ _ _ h _ => h, fun _ _ _ h _ => h, fun _ _ _ h _ => h, fun _ _ _ h _ => h, fun _ _ _ h _ => h, fun _ _ _ h _ => h, trivial⟩ ?_ ?_
                              · refine ⟨?_, ?_, ?_, ?_, ?_, ?_, ?_, ?_, ?_, ?_, ?_, ?_, ?_, ?_, ?_, ?_, ?_, ?_, ?_, trivial⟩
                                · intro ρz wz hz hk hd
                                  exact sk_val (v := .pointer (some ⟨G35, 0, none⟩)) (by exact xr_move rfl ((hk 5 rfl).trans e5)) rfl rfl
                                · intro ρz wz hz hk hd
                                  have d119 := hd 0 rfl 119 rfl
                                  refine sk_op (by exact opv_call rfl cal33 (ac d119 an) (pmem_Device_Image.ok fu _ t146.2.2 G35 u149 (o150.gr hz).rd u153 (o154.gr hz).rd (b37.gr hz) _ k254)) rfl ?_
                                  rintro u255 wy ⟨_, o256, rfl, q258⟩
                                  exact ⟨⟨u255, Own.base o256 ((Nat.le_trans fB.size hz.size)), rfl⟩, q258⟩
                                · intro ρz wz hz hk hd
                                  obtain ⟨u255, o256, d120⟩ := hd 1 rfl 120 rfl
                                  exact sk_val (v := sv (List.map toB t253)) (by exact xr_toStr rfl Try.underlying43 Try.underlying5 Try.underlying9 d120 o256.rd) rfl rfl
                                · intro ρz wz hz hk hd
                                  exact sk_val (v := .pointer (some ⟨G66, 0, none⟩)) (by exact xr_move rfl ((hk 7 rfl).trans e7)) rfl rfl
                                · intro ρz wz hz hk hd
                                  have d122 := hd 3 rfl 122 rfl
                                  exact sk_val (v := .pointer (some ⟨G66, 0, none⟩)) (by exact xr_nilCheck rfl d122) rfl rfl
                                · intro ρz wz hz hk hd
                                  have d123 := hd 4 rfl 123 rfl
                                  exact sk_val (v := .pointer (some ⟨G66, 0, none⟩)) (by exact xr_fieldAddr (p := 0) (q := 0) rfl fl65_0 d123) rfl rfl
                                · intro ρz wz hz hk hd
                                  have d124 := hd 5 rfl 124 rfl
                                  exact sk_val (v := u170) (by exact xr_load1 (v := u170) rfl ag46 d124 ((b68.gr hz).seg 0 rfl rfl)) rfl rfl
                                · intro ρz wz hz hk hd
                                  have d125 := hd 6 rfl 125 rfl
                                  refine sk_op (by exact opv_call rfl cal34 (ac d125 an) (rickyardref05_Text.ok fu _ t167.2.2.Lasts u170 (o171.gr hz).rd _ k260)) rfl ?_
                                  rintro _ wy ⟨rfl, q261⟩
                                  exact ⟨rfl, q261⟩
                                · intro ρz wz hz hk hd
                                  have d121 := hd 2 rfl 121 rfl
                                  have d126 := hd 7 rfl 126 rfl
                                  exact sk_val (v := .bool (!decide ((List.map toB t253) = t259))) (by exact xr_neStr rfl Try.underlying9 d121 d126) rfl rfl
                                · intro ρz wz hz hk hd
                                  have d127 := hd 8 rfl 127 rfl
                                  exact sk_val (v := .bool (!decide ((List.map toB t253) = t259))) (by exact xr_move rfl d127) rfl rfl
                                · intro ρz wz hz hk hd
                                  have d128 := hd 9 rfl 128 rfl
                                  exact sk_skip rfl rfl d128 c262 rfl
                                · intro ρz wz hz hk hd
                                  have d128 := hd 9 rfl 128 rfl
                                  exact sk_skip rfl rfl d128 c262 rfl
                                · intro ρz wz hz hk hd
                                  have d128 := hd 9 rfl 128 rfl
                                  exact sk_skip rfl rfl d128 c262 rfl
                                · intro ρz wz hz hk hd
                                  have d128 := hd 9 rfl 128 rfl
                                  exact sk_skip rfl rfl d128 c262 rfl
                                · intro ρz wz hz hk hd
                                  have d128 := hd 9 rfl 128 rfl
                                  exact sk_skip rfl rfl d128 c262 rfl
                                · intro ρz wz hz hk hd
                                  have d128 := hd 9 rfl 128 rfl
                                  exact sk_skip rfl rfl d128 c262 rfl
                                · intro ρz wz hz hk hd
                                  have d128 := hd 9 rfl 128 rfl
                                  exact sk_skip rfl rfl d128 c262 rfl
                                · intro ρz wz hz hk hd
                                  have d128 := hd 9 rfl 128 rfl
                                  exact sk_skip rfl rfl d128 c262 rfl
                                · intro ρz wz hz hk hd
                                  have d128 := hd 9 rfl 128 rfl
                                  exact sk_skip rfl rfl d128 c262 rfl
                              · intro ρ263 w264 q265 hk hd
                                have e1 := (hk 1 rfl).trans e1
                                have e5 := (hk 5 rfl).trans e5
                                have e7 := (hk 7 rfl).trans e7
                                have e8 := (hk 8 rfl).trans e8
                                have e128 := hd 9 rfl 128 rfl
                                have b37 := b37.gr q265
                                have b68 := b68.gr q265
                                have o150 := o150.gr q265
                                have o154 := o154.gr q265
                                have o171 := o171.gr q265
                                have o175 := o175.gr q265
                                have o179 := o179.gr q265
                                have o183 := o183.gr q265
                                have o187 := o187.gr q265
                                have fB := fB.gr q265
                                refine ol_val (v := .bool true) (by exact xr_pickT rfl e128 c262 rfl) rfl rfl rfl ?_
                                refine ol_nil ?_
                                obtain rfl := Option.some.inj j252
                                refine thn_i ?_
                                exact ⟨e1, e5, e7, e8, rfl, q265⟩
                            · skip
                              obtain ⟨t266, k267, j252⟩ := bs j252
                              obtain ⟨t272, k273, j252⟩ := bs j252
                              refine cw_drawL 19 [fun vz wz => vz = (.pointer (some ⟨G35, 0, none⟩) : Value), fun vz wz => ∃ u255 : Value, ∃ o256 : Own (kI .u8) 5 wz w.heap.size u255 t253, vz = (u255 : Value), fun vz wz => vz = (sv (List.map toB t253) : Value), fun vz wz => vz = (.pointer (some ⟨G66, 0, none⟩) : Value), fun vz wz => vz = (.pointer (some ⟨G66, 0, none⟩) : Value), fun vz wz => vz = (.pointer (some ⟨G66, 0, none⟩) : Value), fun vz wz => vz = (u170 : Value), fun vz wz => vz = (sv t259 : Value), fun vz wz => vz = (.bool (!decide ((List.map toB t253) = t259)) : Value), fun vz wz => vz = (.bool (!decide ((List.map toB t253) = t259)) : Value), fun vz wz => vz = (.pointer (some ⟨G35, 0, none⟩) : Value), fun vz wz => ∃ u268 : Value, ∃ o269 : Own (kI .u8) 5 wz w.heap.size u268 t266, vz = (u268 : Value), fun vz wz => vz = (sv (List.map toB t266) : Value), fun vz wz => vz = (.pointer (some ⟨G66, 0, none⟩) : Value), fun vz wz => vz = (.pointer (some ⟨G66, 0, none⟩) : Value), fun vz wz => vz = (.pointer (some ⟨G66, 1, none⟩) : Value), fun vz wz => vz = (u174 : Value), fun vz wz => vz = (sv t272 : Value), fun vz wz => vz = (.bool (!decide ((List.map toB t266) = t272)) : Value)] mo rfl ⟨fun _ _ _ h _ => h, fun _ _ _ ⟨u255, o256, h⟩ q => ⟨u255, o256.gr q, h⟩, fun _ _ _ h _ => h, fun _ _ _ h _ => h, fun _ _ _ h _ => h, fun _ _ _ h _ => h, fun _ _ _ h _ => h, fun _ _ _ h _ => h, fun _ _ _ h _ => h, fun _ _ _ h _ => h, fun _ _ _ h _ => h, fun _ _ _ ⟨u268, o269, h⟩ q => ⟨u268, o269.gr q, h⟩, fun _ _ _ h _ => h, fun _ _ _ h _ => h, fun _ _ _ h _ => h, fun _ _ _ h _ => h, fun _ _ _ h _ => h, fun _ _ _ h _ => h, fun _ _ _ h _ => h, trivial⟩ ?_ ?_
                              · refine ⟨?_, ?_, ?_, ?_, ?_, ?_, ?_, ?_, ?_, ?_, ?_, ?_, ?_, ?_, ?_, ?_, ?_, ?_, ?_, trivial⟩
                                · intro ρz wz hz hk hd
                                  exact sk_val (v := .pointer (some ⟨G35, 0, none⟩)) (by exact xr_move rfl ((hk 5 rfl).trans e5)) rfl rfl
                                · intro ρz wz hz hk hd
                                  have d119 := hd 0 rfl 119 rfl
                                  refine sk_op (by exact opv_call rfl cal33 (ac d119 an) (pmem_Device_Image.ok fu _ t146.2.2 G35 u149 (o150.gr hz).rd u153 (o154.gr hz).rd (b37.gr hz) _ k254)) rfl ?_
                                  rintro u255 wy ⟨_, o256, rfl, q258⟩
                                  exact ⟨⟨u255, Own.base o256 ((Nat.le_trans fB.size hz.size)), rfl⟩, q258⟩
                                · intro ρz wz hz hk hd
                                  obtain ⟨u255, o256, d120⟩ := hd 1 rfl 120 rfl
                                  exact sk_val (v := sv (List.map toB t253)) (by exact xr_toStr rfl Try.underlying43 Try.underlying5 Try.underlying9 d120 o256.rd) rfl rfl
                                · intro ρz wz hz hk hd
                                  exact sk_val (v := .pointer (some ⟨G66, 0, none⟩)) (by exact xr_move rfl ((hk 7 rfl).trans e7)) rfl rfl
                                · intro ρz wz hz hk hd
                                  have d122 := hd 3 rfl 122 rfl
                                  exact sk_val (v := .pointer (some ⟨G66, 0, none⟩)) (by exact xr_nilCheck rfl d122) rfl rfl
                                · intro ρz wz hz hk hd
                                  have d123 := hd 4 rfl 123 rfl
                                  exact sk_val (v := .pointer (some ⟨G66, 0, none⟩)) (by exact xr_fieldAddr (p := 0) (q := 0) rfl fl65_0 d123) rfl rfl
                                · intro ρz wz hz hk hd
                                  have d124 := hd 5 rfl 124 rfl
                                  exact sk_val (v := u170) (by exact xr_load1 (v := u170) rfl ag46 d124 ((b68.gr hz).seg 0 rfl rfl)) rfl rfl
                                · intro ρz wz hz hk hd
                                  have d125 := hd 6 rfl 125 rfl
                                  refine sk_op (by exact opv_call rfl cal34 (ac d125 an) (rickyardref05_Text.ok fu _ t167.2.2.Lasts u170 (o171.gr hz).rd _ k260)) rfl ?_
                                  rintro _ wy ⟨rfl, q261⟩
                                  exact ⟨rfl, q261⟩
                                · intro ρz wz hz hk hd
                                  have d121 := hd 2 rfl 121 rfl
                                  have d126 := hd 7 rfl 126 rfl
                                  exact sk_val (v := .bool (!decide ((List.map toB t253) = t259))) (by exact xr_neStr rfl Try.underlying9 d121 d126) rfl rfl
                                · intro ρz wz hz hk hd
                                  have d127 := hd 8 rfl 127 rfl
                                  exact sk_val (v := .bool (!decide ((List.map toB t253) = t259))) (by exact xr_move rfl d127) rfl rfl
                                · intro ρz wz hz hk hd
                                  have d128 := hd 9 rfl 128 rfl
                                  exact sk_gval (v := .pointer (some ⟨G35, 0, none⟩)) (by exact xr_move rfl ((hk 5 rfl).trans e5)) rfl rfl d128 c262 rfl
                                · intro ρz wz hz hk hd
                                  have d129 := hd 10 rfl 129 rfl
                                  have d128 := hd 9 rfl 128 rfl
                                  refine sk_gop (by exact opv_call rfl cal36 (ac d129 an) (pmem_Device_View.ok fu _ t146.2.2 G35 u149 (o150.gr hz).rd u153 (o154.gr hz).rd (b37.gr hz) _ k267)) rfl rfl d128 c262 ?_
                                  rintro u268 wy ⟨_, o269, rfl, q271⟩
                                  exact ⟨⟨u268, Own.base o269 ((Nat.le_trans fB.size hz.size)), rfl⟩, q271⟩
                                · intro ρz wz hz hk hd
                                  obtain ⟨u268, o269, d130⟩ := hd 11 rfl 130 rfl
                                  have d128 := hd 9 rfl 128 rfl
                                  exact sk_gval (v := sv (List.map toB t266)) (by exact xr_toStr rfl Try.underlying43 Try.underlying5 Try.underlying9 d130 o269.rd) rfl rfl d128 c262 rfl
                                · intro ρz wz hz hk hd
                                  have d128 := hd 9 rfl 128 rfl
                                  exact sk_gval (v := .pointer (some ⟨G66, 0, none⟩)) (by exact xr_move rfl ((hk 7 rfl).trans e7)) rfl rfl d128 c262 rfl
                                · intro ρz wz hz hk hd
                                  have d132 := hd 13 rfl 132 rfl
                                  have d128 := hd 9 rfl 128 rfl
                                  exact sk_gval (v := .pointer (some ⟨G66, 0, none⟩)) (by exact xr_nilCheck rfl d132) rfl rfl d128 c262 rfl
                                · intro ρz wz hz hk hd
                                  have d133 := hd 14 rfl 133 rfl
                                  have d128 := hd 9 rfl 128 rfl
                                  exact sk_gval (v := .pointer (some ⟨G66, 1, none⟩)) (by exact xr_fieldAddr (p := 0) (q := 1) rfl fl65_1 d133) rfl rfl d128 c262 rfl
                                · intro ρz wz hz hk hd
                                  have d134 := hd 15 rfl 134 rfl
                                  have d128 := hd 9 rfl 128 rfl
                                  exact sk_gval (v := u174) (by exact xr_load1 (v := u174) rfl ag46 d134 ((b68.gr hz).seg 1 rfl rfl)) rfl rfl d128 c262 rfl
                                · intro ρz wz hz hk hd
                                  have d135 := hd 16 rfl 135 rfl
                                  have d128 := hd 9 rfl 128 rfl
                                  refine sk_gop (by exact opv_call rfl cal34 (ac d135 an) (rickyardref05_Text.ok fu _ t167.2.2.Stored u174 (o175.gr hz).rd _ k273)) rfl rfl d128 c262 ?_
                                  rintro _ wy ⟨rfl, q274⟩
                                  exact ⟨rfl, q274⟩
                                · intro ρz wz hz hk hd
                                  have d131 := hd 12 rfl 131 rfl
                                  have d136 := hd 17 rfl 136 rfl
                                  have d128 := hd 9 rfl 128 rfl
                                  exact sk_gval (v := .bool (!decide ((List.map toB t266) = t272))) (by exact xr_neStr rfl Try.underlying9 d131 d136) rfl rfl d128 c262 rfl
                              · intro ρ275 w276 q277 hk hd
                                have e1 := (hk 1 rfl).trans e1
                                have e5 := (hk 5 rfl).trans e5
                                have e7 := (hk 7 rfl).trans e7
                                have e8 := (hk 8 rfl).trans e8
                                have e128 := hd 9 rfl 128 rfl
                                have e129 := hd 10 rfl 129 rfl
                                obtain ⟨u278, o279, e130⟩ := hd 11 rfl 130 rfl
                                have e131 := hd 12 rfl 131 rfl
                                have e132 := hd 13 rfl 132 rfl
                                have e133 := hd 14 rfl 133 rfl
                                have e134 := hd 15 rfl 134 rfl
                                have e135 := hd 16 rfl 135 rfl
                                have e136 := hd 17 rfl 136 rfl
                                have e137 := hd 18 rfl 137 rfl
                                have b37 := b37.gr q277
                                have b68 := b68.gr q277
                                have o150 := o150.gr q277
                                have o154 := o154.gr q277
                                have o171 := o171.gr q277
                                have o175 := o175.gr q277
                                have o179 := o179.gr q277
                                have o183 := o183.gr q277
                                have o187 := o187.gr q277
                                have fB := fB.gr q277
                                refine ol_val (v := .bool (!decide ((List.map toB t266) = t272))) (by exact xr_pickF rfl e128 c262 e137) rfl rfl rfl ?_
                                refine ol_nil ?_
                                obtain rfl := Option.some.inj j252
                                refine thn_i ?_
                                exact ⟨e1, e5, e7, e8, rfl, q277⟩
                          · skip
                            rintro ρ281 w282 ⟨e1, e5, e7, e8, e138, q283⟩
                            have b37 := b37.gr q283
                            have b68 := b68.gr q283
                            have o150 := o150.gr q283
                            have o154 := o154.gr q283
                            have o171 := o171.gr q283
                            have o175 := o175.gr q283
                            have o179 := o179.gr q283
                            have o183 := o183.gr q283
                            have o187 := o187.gr q283
                            have fB := fB.gr q283
                            rcases is h with ⟨c284, h⟩ | ⟨c284, h⟩
                            · refine cw_condT e138 c284 ?_
                              refine cw_seq ?_
                              refine cw_region ?_
                              refine ol_val (v := .bool false) (by exact xr_assign rfl rfl) rfl rfl rfl ?_
                              refine ol_nil ?_
                              refine cw_ret ?_
                              repeat (first | with_reducible refine thn_r ?_ | with_reducible refine blk_r ?_)
                              obtain rfl := Option.some.inj h
                              refine lp_ret ?_
                              rintro rfl
                              repeat (first | with_reducible refine thn_r ?_ | with_reducible refine blk_r ?_)
                              have h := h93
                              obtain rfl := Option.some.inj h
                              refine fin_ret1 Try.results7 rfl ?_
                              exact ⟨_, rfl, rfl, fB⟩
                            · refine cw_condF e138 c284 ?_
                              refine cw_skip ?_
                              refine blk_i ?_
                              refine cw_region ?_
                              refine ol_val (v := .int .i64 s90.1) (by exact xr_move rfl e8) rfl rfl rfl ?_
                              refine ol_val (v := .int .i64 (IntKind.i64.wrap (s90.1 + 1))) (by exact xr_add rfl rfl rfl) rfl rfl rfl ?_
                              refine ol_val (v := .int .i64 (IntKind.i64.wrap (s90.1 + 1))) (by exact xr_assign rfl rfl) rfl rfl rfl ?_
                              refine ol_nil ?_
                              obtain rfl := Option.some.inj h
                              refine lp_in ?_
                              exact ⟨u149, u153, u170, u174, u178, u182, u186, o150, o154, o171, o175, o179, o183, o187, a198, a190, a191, a192, e1, e5, e7, rfl, b37, b68, fB⟩
                    · refine cw_condF rfl c144 ?_
                      refine cw_exit ?_
                      repeat (first | with_reducible refine thn_e ?_ | with_reducible refine blk_e rfl ?_)
                      obtain rfl := Option.some.inj h
                      refine lp_exit ?_
                      rintro rfl
                      refine thn_x ?_
                      exact ⟨_, rfl, v116, v119, v122, v125, v128, v131, v134, fB⟩
                · rintro ρ285 w286 ⟨x94, rfl, v95, v98, v101, v104, v107, v110, v113, fB⟩
                  have h := h93
                  refine cw_seq ?_
                  refine cw_region ?_
                  refine ol_val (v := .bool true) (by exact xr_assign rfl rfl) rfl rfl rfl ?_
                  refine ol_nil ?_
                  refine cw_ret ?_
                  repeat (first | with_reducible refine thn_r ?_ | with_reducible refine blk_r ?_)
                  obtain rfl := Option.some.inj h
                  refine fin_ret1 Try.results7 rfl ?_
                  exact ⟨_, rfl, rfl, fB⟩
end Go.Proofs.Ytklhbaghbmndeaa

/- What a row's arguments are: the readings of arguments opened into records, lists and their facts. -/
set_option linter.unusedVariables false
set_option linter.unusedSimpArgs false
namespace Go.Xw
open Go
variable {P : Program} {w : World}
def Opn {α : Type} (P : Program) (w : World) (T : TypeId) (K : Kd α) (ok : α → Prop) : Prop :=
  ∀ {H : Type} (enc : TypeId × Value → H) (base : Nat) (sp : Nat → Bool) (held : Bool) (fuel : Nat) (cs : List Value) (x : DataW H × List MemPlace), DataW.trod enc P w base sp held fuel T cs = some x → ∃ a : α, cs = K.enc a ∧ ok a
theorem opn_int {T : TypeId} {k : IntKind} (ht : P.underlying T = some (.int k)) : Opn P w T (kI k) (fun n => (Lit.int k n).wf = true) := by
  intro H enc base sp held fuel cs x h
  obtain ⟨n, rfl, _, hw⟩ := DataW.trod_int ht h
  exact ⟨n, rfl, hw⟩
theorem opn_bool {T : TypeId} (ht : P.underlying T = some .bool) : Opn P w T kB (fun _ => True) := by
  intro H enc base sp held fuel cs x h
  obtain ⟨b, rfl, _⟩ := DataW.trod_bool ht h
  exact ⟨b, rfl, trivial⟩
theorem opn_str {T : TypeId} (ht : P.underlying T = some .string) : Opn P w T kS (fun l => l.length ≤ maxLen) := by
  intro H enc base sp held fuel cs x h
  obtain ⟨⟨⟨l⟩⟩, rfl, _, hs⟩ := DataW.trod_string ht h
  exact ⟨l, rfl, by simpa [ByteArray.size] using hs⟩
theorem chunks {α : Type} (K : Kd α) (ok : α → Prop) : ∀ (n : Nat) (cs : List Value), cs.length = n * K.size → (∀ i, i < n → ∃ a, (cs.drop (i * K.size)).take K.size = K.enc a ∧ ok a) → ∃ l : List α, l.length = n ∧ cs = l.flatMap K.enc ∧ ∀ a ∈ l, ok a
  | 0, cs, hl, _ => ⟨[], rfl, by simpa using hl, by simp⟩
  | n + 1, cs, hl, h => by
    obtain ⟨a, ha, hok⟩ := h 0 (by omega)
    rw [Nat.zero_mul, List.drop_zero] at ha
    have hl' : cs.length = n * K.size + K.size := by rw [hl, Nat.succ_mul]
    obtain ⟨l, h1, h2, h3⟩ := chunks K ok n (cs.drop K.size) (by rw [List.length_drop]; omega) (fun i hi => by
      have := h (i + 1) (by omega)
      rw [List.drop_drop, Nat.add_comm, ← Nat.succ_mul]
      exact this)
    refine ⟨a :: l, by simp [h1], ?_, ?_⟩
    · rw [List.flatMap_cons, ← h2, ← ha, List.take_append_drop]
    · intro b hb
      rcases List.mem_cons.1 hb with rfl | hb
      · exact hok
      · exact h3 b hb
theorem ms_len {α β : Type} {f : α → Option β} : ∀ {l : List α} {ys : List β}, l.mapM f = some ys → ys.length = l.length
  | [], ys, h => by simp at h; subst h; rfl
  | a :: l, ys, h => by
    rw [List.mapM_cons] at h
    obtain ⟨b, _, h⟩ := Option.bind_eq_some_iff.1 h
    obtain ⟨bs, hb, h⟩ := Option.bind_eq_some_iff.1 h
    simp at h
    subst h
    simp [ms_len hb]
theorem ms_get {α β : Type} {f : α → Option β} : ∀ {l : List α} {ys : List β}, l.mapM f = some ys → ∀ (i : Nat) (a : α), l[i]? = some a → ∃ y, ys[i]? = some y ∧ f a = some y
  | [], ys, h, i, a, ha => by simp at ha
  | b :: l, ys, h, i, a, ha => by
    rw [List.mapM_cons] at h
    obtain ⟨c, hc, h⟩ := Option.bind_eq_some_iff.1 h
    obtain ⟨bs, hb, h⟩ := Option.bind_eq_some_iff.1 h
    simp at h
    subst h
    cases i with
    | zero =>
      simp at ha
      subst ha
      exact ⟨c, rfl, hc⟩
    | succ i =>
      simp at ha
      obtain ⟨y, h1, h2⟩ := ms_get hb i a ha
      exact ⟨y, by simpa using h1, h2⟩
theorem trod_arr {H : Type} {enc : TypeId × Value → H} {base : Nat} {sp : Nat → Bool} {held : Bool} {fuel : Nat} {T e : TypeId} {n : Nat} {cs : List Value} {x : DataW H × List MemPlace} (ht : P.underlying T = some (.array n e)) (h : DataW.trod enc P w base sp held fuel T cs = some x) :
    cs.length = P.cellsOf T ∧ ∃ m, ∀ i, i < n → ∃ y, DataW.trod enc P w base sp held m e ((cs.drop (i * P.cellsOf e)).take (P.cellsOf e)) = some y := by
  cases fuel with
  | zero => simp [DataW.trod] at h
  | succ m =>
    unfold DataW.trod at h
    rw [ht] at h
    simp only at h
    split at h
    · rename_i hl
      refine ⟨hl, m, fun i hi => ?_⟩
      obtain ⟨xs, hx, _⟩ := Option.map_eq_some_iff.1 h
      obtain ⟨y, _, hy⟩ := ms_get hx i i (by simp [hi])
      exact ⟨y, hy⟩
    · cases h
theorem opn_arr {α : Type} {K : Kd α} {ok : α → Prop} {T e : TypeId} {n : Nat} (ht : P.underlying T = some (.array n e)) (hc : P.cellsOf T = n * P.cellsOf e) (he : P.cellsOf e = K.size) (ho : Opn P w e K ok) : Opn P w T (kA n K) (fun a => ∀ x ∈ a.l, ok x) := by
  intro H enc base sp held fuel cs x h
  obtain ⟨hl, m, hm⟩ := trod_arr ht h
  obtain ⟨l, h1, h2, h3⟩ := chunks K ok n cs (by rw [hl, hc, he]) (fun i hi => by
    obtain ⟨y, hy⟩ := hm i hi
    obtain ⟨a, ha⟩ := ho enc base sp held m _ y hy
    rw [he] at ha
    exact ⟨a, ha⟩)
  exact ⟨⟨l, h1⟩, h2, h3⟩
/-- The fields of a struct, one behind another. -/
theorem fld_cons {cs : List Value} {o n : Nat} {c r : List Value} (h : (cs.drop o).take n = c) (hr : cs.drop (o + n) = r) : cs.drop o = c ++ r := by
  rw [← h, ← hr, ← List.drop_drop, List.take_append_drop]
theorem trod_st {H : Type} {enc : TypeId × Value → H} {base : Nat} {sp : Nat → Bool} {held : Bool} {fuel : Nat} {T : TypeId} {fs : Array Field} {cs : List Value} {x : DataW H × List MemPlace} (ht : P.underlying T = some (.struct fs)) (h : DataW.trod enc P w base sp held fuel T cs = some x) :
    cs.length = P.cellsOf T ∧ ∃ m, ∀ (i : Nat) (f : Field), fs[i]? = some f → ∃ y, DataW.trod enc P w base sp held m f.type ((cs.drop f.offset).take (P.cellsOf f.type)) = some y := by
  obtain ⟨xs, m, _, _, hl, hn, hf⟩ := DataW.trod_struct ht h
  refine ⟨hl, m, fun i f hi => ?_⟩
  have hx : i < xs.length := by rw [hn]; exact (Array.getElem?_eq_some_iff.1 hi).1
  exact ⟨xs[i], by rw [hf i f hi, List.getElem?_eq_getElem hx]⟩
/-- Slices: a cell that reads as a list. -/
def OpnS {α : Type} (P : Program) (w : World) (T : TypeId) (K : Kd α) (ok : α → Prop) : Prop :=
  ∀ {H : Type} (enc : TypeId × Value → H) (base : Nat) (sp : Nat → Bool) (held : Bool) (fuel : Nat) (cs : List Value) (x : DataW H × List MemPlace), DataW.trod enc P w base sp held fuel T cs = some x → ∃ (l : List α) (V : Value), cs = [V] ∧ Rd K w V l ∧ (∀ a ∈ l, ok a) ∧ l.length ≤ maxLen ∧ (sb V < w.heap.size ∨ l = [])
theorem cells_get {base : Nat} {a : Addr} {n : Nat} {cs : List Value} (h : w.cells? base a n = some cs) : cs.length = n ∧ ∀ j, j < n → w.cell? (a.add j) = cs[j]? := by
  unfold World.cells? at h
  split at h
  · refine ⟨by simpa using ms_len h, fun j hj => ?_⟩
    obtain ⟨y, h1, h2⟩ := ms_get h j j (by simp [hj])
    rw [h1, h2]
  · cases h
theorem opn_slice {α : Type} {K : Kd α} {ok : α → Prop} {T e : TypeId} (ht : P.underlying T = some (.slice e)) (he : P.cellsOf e = K.size) (hk : 0 < K.size) (ho : Opn P w e K ok) : OpnS P w T K ok := by
  intro H enc base sp held fuel cs x h
  rcases DataW.trod_slice ht h with ⟨rfl, _⟩ | ⟨a, len, cap, elems, rest, n, rfl, rfl, _, _, hl, hm, hlen, hel, _, _⟩
  · exact ⟨[], _, rfl, Rd.nil K w, by simp, by simp, .inr rfl⟩
  · have hex : ∀ i, i < len → ∃ b, (∀ j z, (K.enc b)[j]? = some z → w.cell? (a.add (i * K.size + j)) = some z) ∧ ok b := by
      intro i hi
      have h1 := hel i hi
      rw [List.getElem?_eq_getElem (by omega)] at h1
      obtain ⟨cs, h2, h3⟩ := Option.bind_eq_some_iff.1 h1
      obtain ⟨b, rfl, hb⟩ := ho enc base sp held n cs _ h3
      obtain ⟨h4, h5⟩ := cells_get h2
      rw [he] at h4 h5
      refine ⟨b, fun j z hz => ?_, hb⟩
      have hj : j < K.size := by rw [← h4]; exact (List.getElem?_eq_some_iff.1 hz).1
      have := h5 j hj
      rw [hz] at this
      rw [← this]
      congr 1
      unfold Addr.add
      by_cases hi0 : i * K.size = 0
      · by_cases hj0 : j = 0
        · simp [hi0, hj0]
        · simp [hi0, hj0]
      · by_cases hj0 : j = 0
        · simp [hi0, hj0]
        · have : i * K.size + j ≠ 0 := by omega
          simp [hi0, hj0, this, Nat.add_assoc]
    have hlist : ∀ m, m ≤ len → ∃ l : List α, l.length = m ∧ (∀ b ∈ l, ok b) ∧ ∀ j z, (l.flatMap K.enc)[j]? = some z → w.cell? (a.add j) = some z := by
      intro m
      induction m with
      | zero => intro _; exact ⟨[], rfl, by simp, by simp⟩
      | succ m ih =>
        intro hm
        obtain ⟨l, h1, h2, h3⟩ := ih (by omega)
        obtain ⟨b, h4, h5⟩ := hex m (by omega)
        refine ⟨l ++ [b], by simp [h1], ?_, ?_⟩
        · intro c hc
          rcases List.mem_append.1 hc with hc | hc
          · exact h2 c hc
          · obtain rfl := List.mem_singleton.1 hc
            exact h5
        · intro j z hz
          have hL : (l.flatMap K.enc).length = m * K.size := by rw [len_flat, h1]
          simp only [List.flatMap_append, List.flatMap_cons, List.flatMap_nil, List.append_nil] at hz
          by_cases hj : j < m * K.size
          · rw [List.getElem?_append_left (by omega)] at hz
            exact h3 j z hz
          · rw [List.getElem?_append_right (by omega), hL] at hz
            have := h4 (j - m * K.size) z hz
            rwa [show m * K.size + (j - m * K.size) = j from by omega] at this
    obtain ⟨l, h1, h2, h3⟩ := hlist len (Nat.le_refl _)
    have hpos : 0 < l.length → ∃ z, w.cell? a = some z := by
      intro hp
      cases l with
      | nil => simp at hp
      | cons b l =>
        have hb : (K.enc b).length = K.size := K.len b
        have : ∃ z, ((b :: l).flatMap K.enc)[0]? = some z := ⟨_, List.getElem?_eq_getElem (by simp [List.flatMap_cons, hb]; omega)⟩
        obtain ⟨z, hz⟩ := this
        have := h3 0 z hz
        exact ⟨z, by simpa [Addr.add] using this⟩
    refine ⟨l, _, rfl, ⟨some a, cap, by rw [h1], by omega, fun hp => ?_⟩, h2, by omega, ?_⟩
    · obtain ⟨z, hz⟩ := hpos hp
      obtain ⟨b, o, s⟩ := a
      have hs : s = none := by
        unfold World.cell? at hz
        split at hz
        · cases s with
          | none => rfl
          | some _ => simp at hz
        · cases hz
      subst hs
      refine ⟨b, o, rfl, fun j v hv => ?_⟩
      have := h3 j v hv
      rwa [Addr.add_lit] at this
    · rcases Nat.eq_zero_or_pos l.length with h0 | hp
      · exact .inr (List.eq_nil_of_length_eq_zero h0)
      · obtain ⟨z, hz⟩ := hpos hp
        refine .inl ?_
        unfold World.cell? at hz
        split at hz
        · rename_i hh
          exact (Array.getElem?_eq_some_iff.1 hh).1
        · cases hz
theorem agg_of {T : TypeId} {v : Value} {cs : List Value} {base : Nat} (h : aggB P T = some true) (hv : Value.okWide P w .any base T v) (hc : v.cells.toList = cs) : v = .agg cs.toArray := by
  unfold aggB at h
  obtain ⟨d, hu, hd⟩ := Option.map_eq_some_iff.1 h
  unfold Value.okWide at hv
  rw [hu] at hv
  cases d <;> simp at hd <;> (obtain ⟨c2, rfl, _⟩ := hv; subst hc; simp [Value.cells])
end Go.Xw

/- What a row's arguments are: slices of records that hold slices. -/
set_option linter.unusedVariables false
set_option linter.unusedSimpArgs false
namespace Go.Xw
open Go
theorem opn_sliceN {P : Program} {w : World} {α : Type} {n : Nat} {D : World → List Value → α → Prop} {ok : α → Prop} {T e : TypeId} (ht : P.underlying T = some (.slice e)) (he : P.cellsOf e = n) (hk : 0 < n)
    (ho : ∀ {H : Type} (enc : TypeId × Value → H) (base : Nat) (sp : Nat → Bool) (held : Bool) (fuel : Nat) (cs : List Value) (x : DataW H × List MemPlace), DataW.trod enc P w base sp held fuel e cs = some x → ∃ a : α, D w cs a ∧ ok a ∧ cs.length = n ∧ ∀ v ∈ cs, v.oneCell' = true)
    {H : Type} (enc : TypeId × Value → H) (base : Nat) (sp : Nat → Bool) (held : Bool) (fuel : Nat) (cs : List Value) (x : DataW H × List MemPlace) (h : DataW.trod enc P w base sp held fuel T cs = some x) :
    ∃ (l : List α) (V : Value), cs = [V] ∧ RdN n D w V l ∧ (∀ a ∈ l, ok a) ∧ l.length ≤ maxLen ∧ (sb V < w.heap.size ∨ l = []) := by
  let β := { p : { l : List Value // l.length = n ∧ ∀ v ∈ l, v.oneCell' = true } × α // D w p.1.1 p.2 ∧ ok p.2 }
  let K : Kd β := ⟨fun p => p.1.1.1, n, fun p => p.1.1.2.1, fun p => p.1.1.2.2⟩
  have hp : Opn P w e K (fun _ => True) := by
    intro H enc base sp held fuel cs x h
    obtain ⟨a, hd, hok, hl, h1⟩ := ho enc base sp held fuel cs x h
    exact ⟨⟨(⟨cs, hl, h1⟩, a), hd, hok⟩, rfl, trivial⟩
  obtain ⟨l, V, e1, r, _, hm, hs⟩ := opn_slice (K := K) ht he hk hp enc base sp held fuel cs x h
  refine ⟨l.map (fun p => p.1.2), V, e1, ⟨l.map (fun p => p.1.1), ?_, by simp, ?_⟩, ?_, by simpa using hm, ?_⟩
  · obtain ⟨A, c, rfl, hc, hr⟩ := r
    refine ⟨A, c, by simp, by simpa using hc, fun hpos => ?_⟩
    obtain ⟨b, o, ea, hat⟩ := hr (by simpa using hpos)
    refine ⟨b, o, ea, ?_⟩
    rw [List.flatMap_map]
    exact hat
  · intro i h1 h2
    have hi : i < l.length := by simpa using h1
    simp only [List.getElem_map]
    exact (l[i]).2.1
  · intro a ha
    obtain ⟨p, _, rfl⟩ := List.mem_map.1 ha
    exact p.2.2
  · rcases hs with hs | rfl
    · exact .inl hs
    · exact .inr rfl
end Go.Xw

/- What the laws' arguments open into: written by rows.py. -/
set_option linter.unusedVariables false
set_option linter.unusedSimpArgs false
namespace Go.Proofs.Ytklhbaghbmndeaa
open Go Go.Xw
def ok_rickyardlaw05_Act (a : S_rickyardlaw05_Act) : Prop := (Lit.int .i64 a.Kind).wf = true ∧ (Lit.int .i64 a.At).wf = true ∧ (Lit.int .u64 a.W).wf = true ∧ ((∀ x ∈ a.L, (Lit.int .i64 x).wf = true) ∧ List.length a.L ≤ maxLen)
theorem opn_rickyardlaw05_Act {w : World} {H : Type} (enc : TypeId × Value → H) (base : Nat) (sp : Nat → Bool) (held : Bool) (fuel : Nat) (cs : List Value) (x : DataW H × List MemPlace) (h : DataW.trod enc Try.prog w base sp held fuel 39 cs = some x) : ∃ a : S_rickyardlaw05_Act, ∃ V0 : Value, ∃ R0 : Rd (kI .i64) w V0 a.L, cs = cellsOf [Seg.cell (.int .i64 a.Kind), Seg.cell (.int .i64 a.At), Seg.cell (.int .u64 a.W), Seg.cell V0 R0.one] ∧ ok_rickyardlaw05_Act a := by
  obtain ⟨hl, m, hf⟩ := trod_st Try.underlying39 h
  obtain ⟨y0, h0⟩ := hf 0 _ rfl
  have c0 : Try.prog.cellsOf 3 = 1 := by kernel_rfl
  obtain ⟨b0, e0, o0⟩ := (opn_int Try.underlying3) enc base sp held m _ y0 h0
  have e0 : (cs.drop 0).take 1 = (kI .i64).enc b0 := (congrArg (fun n => (cs.drop 0).take n) c0).symm.trans e0
  obtain ⟨y1, h1⟩ := hf 1 _ rfl
  have c1 : Try.prog.cellsOf 3 = 1 := by kernel_rfl
  obtain ⟨b1, e1, o1⟩ := (opn_int Try.underlying3) enc base sp held m _ y1 h1
  have e1 : (cs.drop 1).take 1 = (kI .i64).enc b1 := (congrArg (fun n => (cs.drop 1).take n) c1).symm.trans e1
  obtain ⟨y2, h2⟩ := hf 2 _ rfl
  have c2 : Try.prog.cellsOf 22 = 1 := by kernel_rfl
  obtain ⟨b2, e2, o2⟩ := (opn_int Try.underlying22) enc base sp held m _ y2 h2
  have e2 : (cs.drop 2).take 1 = (kI .u64).enc b2 := (congrArg (fun n => (cs.drop 2).take n) c2).symm.trans e2
  obtain ⟨y3, h3⟩ := hf 3 _ rfl
  have c3 : Try.prog.cellsOf 25 = 1 := by kernel_rfl
  obtain ⟨b3, W3, e3, r3, o3, l3, _⟩ := (opn_slice (K := (kI .i64)) Try.underlying25 (by kernel_rfl) (by decide) (opn_int Try.underlying3)) enc base sp held m _ y3 h3
  have e3 : (cs.drop 3).take 1 = [W3] := (congrArg (fun n => (cs.drop 3).take n) c3).symm.trans e3
  have hn : cs.drop 4 = [] := List.drop_eq_nil_of_le (by rw [hl]; exact Nat.le_of_eq (by kernel_rfl))
  have hc : cs = (kI .i64).enc b0 ++ ((kI .i64).enc b1 ++ ((kI .u64).enc b2 ++ ([W3] ++ []))) := (fld_cons (o := 0) (n := 1) e0 (fld_cons (o := 1) (n := 1) e1 (fld_cons (o := 2) (n := 1) e2 (fld_cons (o := 3) (n := 1) e3 hn))))
  refine ⟨⟨b0, b1, b2, b3⟩, W3, r3, ?_, o0, o1, o2, ⟨o3, l3⟩⟩
  rw [hc]
  simp [kA, kI, kB, kS, kT, cellsOf, Seg.cell, Kd.seg]
def ok_rickyardlaw05_Fenced (a : S_rickyardlaw05_Fenced) : Prop := (Lit.int .i64 a.Line).wf = true ∧ (∀ x ∈ a.Ws.l, (Lit.int .u64 x).wf = true) ∧ ((∀ x ∈ a.Acts, ok_rickyardlaw05_Act x) ∧ List.length a.Acts ≤ maxLen) ∧ ((∀ x ∈ a.L, (Lit.int .i64 x).wf = true) ∧ List.length a.L ≤ maxLen)
theorem opn_rickyardlaw05_Fenced {w : World} {H : Type} (enc : TypeId × Value → H) (base : Nat) (sp : Nat → Bool) (held : Bool) (fuel : Nat) (cs : List Value) (x : DataW H × List MemPlace) (h : DataW.trod enc Try.prog w base sp held fuel 27 cs = some x) : ∃ a : S_rickyardlaw05_Fenced, ∃ V0 : Value, ∃ V1 : Value, ∃ R0 : RdN 4 D_rickyardlaw05_Act w V0 a.Acts, ∃ R1 : Rd (kI .i64) w V1 a.L, cs = cellsOf [Seg.cell (.int .i64 a.Line), Kd.seg (kA 8 (kI .u64)) a.Ws, Seg.cell V0 R0.one, Seg.cell V1 R1.one] ∧ ok_rickyardlaw05_Fenced a := by
  obtain ⟨hl, m, hf⟩ := trod_st Try.underlying27 h
  obtain ⟨y0, h0⟩ := hf 0 _ rfl
  have c0 : Try.prog.cellsOf 3 = 1 := by kernel_rfl
  obtain ⟨b0, e0, o0⟩ := (opn_int Try.underlying3) enc base sp held m _ y0 h0
  have e0 : (cs.drop 0).take 1 = (kI .i64).enc b0 := (congrArg (fun n => (cs.drop 0).take n) c0).symm.trans e0
  obtain ⟨y1, h1⟩ := hf 1 _ rfl
  have c1 : Try.prog.cellsOf 23 = 8 := by kernel_rfl
  obtain ⟨b1, e1, o1⟩ := (opn_arr Try.underlying23 (by kernel_rfl) (by kernel_rfl) (opn_int Try.underlying22)) enc base sp held m _ y1 h1
  have e1 : (cs.drop 1).take 8 = (kA 8 (kI .u64)).enc b1 := (congrArg (fun n => (cs.drop 1).take n) c1).symm.trans e1
  obtain ⟨y2, h2⟩ := hf 2 _ rfl
  have c2 : Try.prog.cellsOf 24 = 1 := by kernel_rfl
  obtain ⟨b2, W2, e2, r2, o2, l2, _⟩ := (opn_sliceN (n := 4) (D := D_rickyardlaw05_Act) (ok := ok_rickyardlaw05_Act) (w := w) Try.underlying24 (by kernel_rfl) (by decide) (fun enc base sp held fuel cs x h => by obtain ⟨a, V0, R0, e, o⟩ := opn_rickyardlaw05_Act enc base sp held fuel cs x h; exact ⟨a, ⟨V0, R0, e⟩, o, by rw [e, len_cellsOf]; rfl, by rw [e]; exact one_cellsOf _⟩)) enc base sp held m _ y2 h2
  have e2 : (cs.drop 9).take 1 = [W2] := (congrArg (fun n => (cs.drop 9).take n) c2).symm.trans e2
  obtain ⟨y3, h3⟩ := hf 3 _ rfl
  have c3 : Try.prog.cellsOf 25 = 1 := by kernel_rfl
  obtain ⟨b3, W3, e3, r3, o3, l3, _⟩ := (opn_slice (K := (kI .i64)) Try.underlying25 (by kernel_rfl) (by decide) (opn_int Try.underlying3)) enc base sp held m _ y3 h3
  have e3 : (cs.drop 10).take 1 = [W3] := (congrArg (fun n => (cs.drop 10).take n) c3).symm.trans e3
  have hn : cs.drop 11 = [] := List.drop_eq_nil_of_le (by rw [hl]; exact Nat.le_of_eq (by kernel_rfl))
  have hc : cs = (kI .i64).enc b0 ++ ((kA 8 (kI .u64)).enc b1 ++ ([W2] ++ ([W3] ++ []))) := (fld_cons (o := 0) (n := 1) e0 (fld_cons (o := 1) (n := 8) e1 (fld_cons (o := 9) (n := 1) e2 (fld_cons (o := 10) (n := 1) e3 hn))))
  refine ⟨⟨b0, b1, b2, b3⟩, W2, W3, r2, r3, ?_, o0, o1, ⟨o2, l2⟩, ⟨o3, l3⟩⟩
  rw [hc]
  simp [kA, kI, kB, kS, kT, cellsOf, Seg.cell, Kd.seg]
def ok_api_Fate (a : S_api_Fate) : Prop := (Lit.int .i64 a.At).wf = true ∧ (Lit.int .u64 a.Lasts).wf = true ∧ True ∧ (Lit.int .u64 a.Sent).wf = true ∧ (Lit.int .u64 a.Stored).wf = true
theorem opn_api_Fate {w : World} : Opn Try.prog w 55 k_api_Fate ok_api_Fate := by
  intro H enc base sp held fuel cs x h
  obtain ⟨hl, m, hf⟩ := trod_st Try.underlying55 h
  obtain ⟨y0, h0⟩ := hf 0 _ rfl
  have c0 : Try.prog.cellsOf 3 = 1 := by kernel_rfl
  obtain ⟨b0, e0, o0⟩ := (opn_int Try.underlying3) enc base sp held m _ y0 h0
  have e0 : (cs.drop 0).take 1 = (kI .i64).enc b0 := (congrArg (fun n => (cs.drop 0).take n) c0).symm.trans e0
  obtain ⟨y1, h1⟩ := hf 1 _ rfl
  have c1 : Try.prog.cellsOf 22 = 1 := by kernel_rfl
  obtain ⟨b1, e1, o1⟩ := (opn_int Try.underlying22) enc base sp held m _ y1 h1
  have e1 : (cs.drop 1).take 1 = (kI .u64).enc b1 := (congrArg (fun n => (cs.drop 1).take n) c1).symm.trans e1
  obtain ⟨y2, h2⟩ := hf 2 _ rfl
  have c2 : Try.prog.cellsOf 4 = 1 := by kernel_rfl
  obtain ⟨b2, e2, o2⟩ := (opn_bool Try.underlying4) enc base sp held m _ y2 h2
  have e2 : (cs.drop 2).take 1 = kB.enc b2 := (congrArg (fun n => (cs.drop 2).take n) c2).symm.trans e2
  obtain ⟨y3, h3⟩ := hf 3 _ rfl
  have c3 : Try.prog.cellsOf 22 = 1 := by kernel_rfl
  obtain ⟨b3, e3, o3⟩ := (opn_int Try.underlying22) enc base sp held m _ y3 h3
  have e3 : (cs.drop 3).take 1 = (kI .u64).enc b3 := (congrArg (fun n => (cs.drop 3).take n) c3).symm.trans e3
  obtain ⟨y4, h4⟩ := hf 4 _ rfl
  have c4 : Try.prog.cellsOf 22 = 1 := by kernel_rfl
  obtain ⟨b4, e4, o4⟩ := (opn_int Try.underlying22) enc base sp held m _ y4 h4
  have e4 : (cs.drop 4).take 1 = (kI .u64).enc b4 := (congrArg (fun n => (cs.drop 4).take n) c4).symm.trans e4
  have hn : cs.drop 5 = [] := List.drop_eq_nil_of_le (by rw [hl]; exact Nat.le_of_eq (by kernel_rfl))
  have hc : cs = (kI .i64).enc b0 ++ ((kI .u64).enc b1 ++ (kB.enc b2 ++ ((kI .u64).enc b3 ++ ((kI .u64).enc b4 ++ [])))) := (fld_cons (o := 0) (n := 1) e0 (fld_cons (o := 1) (n := 1) e1 (fld_cons (o := 2) (n := 1) e2 (fld_cons (o := 3) (n := 1) e3 (fld_cons (o := 4) (n := 1) e4 hn)))))
  refine ⟨⟨b0, b1, b2, b3, b4⟩, ?_, o0, o1, o2, o3, o4⟩
  rw [hc]
  simp [kA, kI, kB, kS, kT, cellsOf, Seg.cell, Kd.seg, k_api_Fate, segs_api_Fate]
def ok_api_Geometry (a : S_api_Geometry) : Prop := (Lit.int .i64 a.Blocks).wf = true ∧ (Lit.int .i64 a.Slots).wf = true ∧ (Lit.int .i64 a.Gens).wf = true
theorem opn_api_Geometry {w : World} : Opn Try.prog w 106 k_api_Geometry ok_api_Geometry := by
  intro H enc base sp held fuel cs x h
  obtain ⟨hl, m, hf⟩ := trod_st Try.underlying106 h
  obtain ⟨y0, h0⟩ := hf 0 _ rfl
  have c0 : Try.prog.cellsOf 3 = 1 := by kernel_rfl
  obtain ⟨b0, e0, o0⟩ := (opn_int Try.underlying3) enc base sp held m _ y0 h0
  have e0 : (cs.drop 0).take 1 = (kI .i64).enc b0 := (congrArg (fun n => (cs.drop 0).take n) c0).symm.trans e0
  obtain ⟨y1, h1⟩ := hf 1 _ rfl
  have c1 : Try.prog.cellsOf 3 = 1 := by kernel_rfl
  obtain ⟨b1, e1, o1⟩ := (opn_int Try.underlying3) enc base sp held m _ y1 h1
  have e1 : (cs.drop 1).take 1 = (kI .i64).enc b1 := (congrArg (fun n => (cs.drop 1).take n) c1).symm.trans e1
  obtain ⟨y2, h2⟩ := hf 2 _ rfl
  have c2 : Try.prog.cellsOf 3 = 1 := by kernel_rfl
  obtain ⟨b2, e2, o2⟩ := (opn_int Try.underlying3) enc base sp held m _ y2 h2
  have e2 : (cs.drop 2).take 1 = (kI .i64).enc b2 := (congrArg (fun n => (cs.drop 2).take n) c2).symm.trans e2
  have hn : cs.drop 3 = [] := List.drop_eq_nil_of_le (by rw [hl]; exact Nat.le_of_eq (by kernel_rfl))
  have hc : cs = (kI .i64).enc b0 ++ ((kI .i64).enc b1 ++ ((kI .i64).enc b2 ++ [])) := (fld_cons (o := 0) (n := 1) e0 (fld_cons (o := 1) (n := 1) e1 (fld_cons (o := 2) (n := 1) e2 hn)))
  refine ⟨⟨b0, b1, b2⟩, ?_, o0, o1, o2⟩
  rw [hc]
  simp [kA, kI, kB, kS, kT, cellsOf, Seg.cell, Kd.seg, k_api_Fate, k_api_Geometry, k_api_Tickets, segs_api_Fate, segs_api_Geometry, segs_api_Tickets]
def ok_api_Tickets (a : S_api_Tickets) : Prop := ok_api_Geometry a.Geometry ∧ (Lit.int .i64 a.Top).wf = true ∧ (Lit.int .i64 a.High).wf = true ∧ (Lit.int .i64 a.Free).wf = true
theorem opn_api_Tickets {w : World} : Opn Try.prog w 108 k_api_Tickets ok_api_Tickets := by
  intro H enc base sp held fuel cs x h
  obtain ⟨hl, m, hf⟩ := trod_st Try.underlying108 h
  obtain ⟨y0, h0⟩ := hf 0 _ rfl
  have c0 : Try.prog.cellsOf 106 = 3 := by kernel_rfl
  obtain ⟨b0, e0, o0⟩ := (opn_api_Geometry (w := w)) enc base sp held m _ y0 h0
  have e0 : (cs.drop 0).take 3 = k_api_Geometry.enc b0 := (congrArg (fun n => (cs.drop 0).take n) c0).symm.trans e0
  obtain ⟨y1, h1⟩ := hf 1 _ rfl
  have c1 : Try.prog.cellsOf 3 = 1 := by kernel_rfl
  obtain ⟨b1, e1, o1⟩ := (opn_int Try.underlying3) enc base sp held m _ y1 h1
  have e1 : (cs.drop 3).take 1 = (kI .i64).enc b1 := (congrArg (fun n => (cs.drop 3).take n) c1).symm.trans e1
  obtain ⟨y2, h2⟩ := hf 2 _ rfl
  have c2 : Try.prog.cellsOf 3 = 1 := by kernel_rfl
  obtain ⟨b2, e2, o2⟩ := (opn_int Try.underlying3) enc base sp held m _ y2 h2
  have e2 : (cs.drop 4).take 1 = (kI .i64).enc b2 := (congrArg (fun n => (cs.drop 4).take n) c2).symm.trans e2
  obtain ⟨y3, h3⟩ := hf 3 _ rfl
  have c3 : Try.prog.cellsOf 3 = 1 := by kernel_rfl
  obtain ⟨b3, e3, o3⟩ := (opn_int Try.underlying3) enc base sp held m _ y3 h3
  have e3 : (cs.drop 5).take 1 = (kI .i64).enc b3 := (congrArg (fun n => (cs.drop 5).take n) c3).symm.trans e3
  have hn : cs.drop 6 = [] := List.drop_eq_nil_of_le (by rw [hl]; exact Nat.le_of_eq (by kernel_rfl))
  have hc : cs = k_api_Geometry.enc b0 ++ ((kI .i64).enc b1 ++ ((kI .i64).enc b2 ++ ((kI .i64).enc b3 ++ []))) := (fld_cons (o := 0) (n := 3) e0 (fld_cons (o := 3) (n := 1) e1 (fld_cons (o := 4) (n := 1) e2 (fld_cons (o := 5) (n := 1) e3 hn))))
  refine ⟨⟨b0, b1, b2, b3⟩, ?_, o0, o1, o2, o3⟩
  rw [hc]
  simp [kA, kI, kB, kS, kT, cellsOf, Seg.cell, Kd.seg, k_api_Fate, k_api_Geometry, k_api_Tickets, segs_api_Fate, segs_api_Geometry, segs_api_Tickets]
def ok_api_Super (a : S_api_Super) : Prop := (Lit.int .i64 a.Epoch).wf = true ∧ ok_api_Tickets a.Tickets ∧ (Lit.int .i64 a.Dir).wf = true ∧ ((∀ x ∈ a.Charts, (Lit.int .i64 x).wf = true) ∧ List.length a.Charts ≤ maxLen)
theorem opn_api_Super {w : World} {H : Type} (enc : TypeId × Value → H) (base : Nat) (sp : Nat → Bool) (held : Bool) (fuel : Nat) (cs : List Value) (x : DataW H × List MemPlace) (h : DataW.trod enc Try.prog w base sp held fuel 110 cs = some x) : ∃ a : S_api_Super, ∃ V0 : Value, ∃ R0 : Rd (kI .i64) w V0 a.Charts, cs = cellsOf [Seg.cell (.int .i64 a.Epoch), Seg.cell (.int .i64 a.Tickets.Geometry.Blocks), Seg.cell (.int .i64 a.Tickets.Geometry.Slots), Seg.cell (.int .i64 a.Tickets.Geometry.Gens), Seg.cell (.int .i64 a.Tickets.Top), Seg.cell (.int .i64 a.Tickets.High), Seg.cell (.int .i64 a.Tickets.Free), Seg.cell (.int .i64 a.Dir), Seg.cell V0 R0.one] ∧ ok_api_Super a := by
  obtain ⟨hl, m, hf⟩ := trod_st Try.underlying110 h
  obtain ⟨y0, h0⟩ := hf 0 _ rfl
  have c0 : Try.prog.cellsOf 3 = 1 := by kernel_rfl
  obtain ⟨b0, e0, o0⟩ := (opn_int Try.underlying3) enc base sp held m _ y0 h0
  have e0 : (cs.drop 0).take 1 = (kI .i64).enc b0 := (congrArg (fun n => (cs.drop 0).take n) c0).symm.trans e0
  obtain ⟨y1, h1⟩ := hf 1 _ rfl
  have c1 : Try.prog.cellsOf 108 = 6 := by kernel_rfl
  obtain ⟨b1, e1, o1⟩ := (opn_api_Tickets (w := w)) enc base sp held m _ y1 h1
  have e1 : (cs.drop 1).take 6 = k_api_Tickets.enc b1 := (congrArg (fun n => (cs.drop 1).take n) c1).symm.trans e1
  obtain ⟨y2, h2⟩ := hf 2 _ rfl
  have c2 : Try.prog.cellsOf 3 = 1 := by kernel_rfl
  obtain ⟨b2, e2, o2⟩ := (opn_int Try.underlying3) enc base sp held m _ y2 h2
  have e2 : (cs.drop 7).take 1 = (kI .i64).enc b2 := (congrArg (fun n => (cs.drop 7).take n) c2).symm.trans e2
  obtain ⟨y3, h3⟩ := hf 3 _ rfl
  have c3 : Try.prog.cellsOf 25 = 1 := by kernel_rfl
  obtain ⟨b3, W3, e3, r3, o3, l3, _⟩ := (opn_slice (K := (kI .i64)) Try.underlying25 (by kernel_rfl) (by decide) (opn_int Try.underlying3)) enc base sp held m _ y3 h3
  have e3 : (cs.drop 8).take 1 = [W3] := (congrArg (fun n => (cs.drop 8).take n) c3).symm.trans e3
  have hn : cs.drop 9 = [] := List.drop_eq_nil_of_le (by rw [hl]; exact Nat.le_of_eq (by kernel_rfl))
  have hc : cs = (kI .i64).enc b0 ++ (k_api_Tickets.enc b1 ++ ((kI .i64).enc b2 ++ ([W3] ++ []))) := (fld_cons (o := 0) (n := 1) e0 (fld_cons (o := 1) (n := 6) e1 (fld_cons (o := 7) (n := 1) e2 (fld_cons (o := 8) (n := 1) e3 hn))))
  refine ⟨⟨b0, b1, b2, b3⟩, W3, r3, ?_, o0, o1, o2, ⟨o3, l3⟩⟩
  rw [hc]
  simp [kA, kI, kB, kS, kT, cellsOf, Seg.cell, Kd.seg, k_api_Fate, k_api_Geometry, k_api_Tickets, segs_api_Fate, segs_api_Geometry, segs_api_Tickets]
def ok_rickyardlaw16_Cut (a : S_rickyardlaw16_Cut) : Prop := (Lit.int .u8 a.Steps).wf = true ∧ ((∀ x ∈ a.Plan, (Lit.int .i64 x).wf = true) ∧ List.length a.Plan ≤ maxLen) ∧ ((∀ x ∈ a.L, (Lit.int .i64 x).wf = true) ∧ List.length a.L ≤ maxLen)
theorem opn_rickyardlaw16_Cut {w : World} {H : Type} (enc : TypeId × Value → H) (base : Nat) (sp : Nat → Bool) (held : Bool) (fuel : Nat) (cs : List Value) (x : DataW H × List MemPlace) (h : DataW.trod enc Try.prog w base sp held fuel 129 cs = some x) : ∃ a : S_rickyardlaw16_Cut, ∃ V0 : Value, ∃ V1 : Value, ∃ R0 : Rd (kI .i64) w V0 a.Plan, ∃ R1 : Rd (kI .i64) w V1 a.L, cs = cellsOf [Seg.cell (.int .u8 a.Steps), Seg.cell V0 R0.one, Seg.cell V1 R1.one] ∧ ok_rickyardlaw16_Cut a := by
  obtain ⟨hl, m, hf⟩ := trod_st Try.underlying129 h
  obtain ⟨y0, h0⟩ := hf 0 _ rfl
  have c0 : Try.prog.cellsOf 5 = 1 := by kernel_rfl
  obtain ⟨b0, e0, o0⟩ := (opn_int Try.underlying5) enc base sp held m _ y0 h0
  have e0 : (cs.drop 0).take 1 = (kI .u8).enc b0 := (congrArg (fun n => (cs.drop 0).take n) c0).symm.trans e0
  obtain ⟨y1, h1⟩ := hf 1 _ rfl
  have c1 : Try.prog.cellsOf 25 = 1 := by kernel_rfl
  obtain ⟨b1, W1, e1, r1, o1, l1, _⟩ := (opn_slice (K := (kI .i64)) Try.underlying25 (by kernel_rfl) (by decide) (opn_int Try.underlying3)) enc base sp held m _ y1 h1
  have e1 : (cs.drop 1).take 1 = [W1] := (congrArg (fun n => (cs.drop 1).take n) c1).symm.trans e1
  obtain ⟨y2, h2⟩ := hf 2 _ rfl
  have c2 : Try.prog.cellsOf 25 = 1 := by kernel_rfl
  obtain ⟨b2, W2, e2, r2, o2, l2, _⟩ := (opn_slice (K := (kI .i64)) Try.underlying25 (by kernel_rfl) (by decide) (opn_int Try.underlying3)) enc base sp held m _ y2 h2
  have e2 : (cs.drop 2).take 1 = [W2] := (congrArg (fun n => (cs.drop 2).take n) c2).symm.trans e2
  have hn : cs.drop 3 = [] := List.drop_eq_nil_of_le (by rw [hl]; exact Nat.le_of_eq (by kernel_rfl))
  have hc : cs = (kI .u8).enc b0 ++ ([W1] ++ ([W2] ++ [])) := (fld_cons (o := 0) (n := 1) e0 (fld_cons (o := 1) (n := 1) e1 (fld_cons (o := 2) (n := 1) e2 hn)))
  refine ⟨⟨b0, b1, b2⟩, W1, W2, r1, r2, ?_, o0, ⟨o1, l1⟩, ⟨o2, l2⟩⟩
  rw [hc]
  simp [kA, kI, kB, kS, kT, cellsOf, Seg.cell, Kd.seg, k_api_Fate, k_api_Geometry, k_api_Tickets, segs_api_Fate, segs_api_Geometry, segs_api_Tickets]
end Go.Proofs.Ytklhbaghbmndeaa

/- Rows turned one by one. -/
set_option linter.unusedVariables false
set_option linter.unusedSimpArgs false
namespace Go.Proofs.Ytklhbaghbmndeaa.Pure
open Go Go.Xw
/-- Of the places from `lo` on the first `j`, each turned by `g`. -/
def upd {α : Type} (g : Nat → α → α) (lo j : Nat) (cs : List α) : List α := cs.mapIdx fun i c => if lo ≤ i ∧ i < lo + j then g i c else c
theorem upd_len {α : Type} (g : Nat → α → α) (lo j : Nat) (cs : List α) : (upd g lo j cs).length = cs.length := by simp [upd]
theorem upd_zero {α : Type} (g : Nat → α → α) (lo : Nat) (cs : List α) : upd g lo 0 cs = cs := by
  apply List.ext_getElem (by simp [upd])
  intro i h1 h2
  simp only [upd, List.getElem_mapIdx]
  rw [if_neg (by omega)]
theorem upd_get {α : Type} (g : Nat → α → α) (lo j : Nat) (cs : List α) (i : Nat) (h : i < (upd g lo j cs).length) : (upd g lo j cs)[i] = if lo ≤ i ∧ i < lo + j then g i (cs[i]'(by simpa [upd] using h)) else cs[i]'(by simpa [upd] using h) := by
  simp only [upd, List.getElem_mapIdx]
theorem upd_next {α : Type} (g : Nat → α → α) (lo j : Nat) (cs : List α) (h : lo + j < cs.length) : (upd g lo j cs)[lo + j]'(by rw [upd_len]; exact h) = cs[lo + j] := by
  rw [upd_get, if_neg (by omega)]
theorem upd_set {α : Type} (g : Nat → α → α) (lo j : Nat) (cs : List α) (h : lo + j < cs.length) : (upd g lo j cs).set (lo + j) (g (lo + j) cs[lo + j]) = upd g lo (j + 1) cs := by
  apply List.ext_getElem (by simp [upd])
  intro i h1 h2
  rw [List.getElem_set, upd_get g lo (j + 1)]
  by_cases e : lo + j = i
  · subst e
    rw [if_pos rfl, if_pos (by omega)]
  · rw [if_neg e, upd_get]
    by_cases c : lo ≤ i ∧ i < lo + j
    · rw [if_pos c, if_pos (by omega)]
    · rw [if_neg c, if_neg (by omega)]
theorem upd_same {α : Type} (g : Nat → α → α) (lo j : Nat) (cs : List α) (h : lo + j < cs.length) (e : g (lo + j) cs[lo + j] = cs[lo + j]) : upd g lo j cs = upd g lo (j + 1) cs := by
  apply List.ext_getElem (by simp [upd])
  intro i h1 h2
  rw [upd_get g lo j, upd_get g lo (j + 1)]
  by_cases e' : lo + j = i
  · subst e'
    rw [if_neg (by omega), if_pos (by omega), e]
  · by_cases c : lo ≤ i ∧ i < lo + j
    · rw [if_pos c, if_pos (by omega)]
    · rw [if_neg c, if_neg (by omega)]
theorem upd_all {α : Type} (g : Nat → α → α) (cs : List α) : upd g 0 cs.length cs = cs.mapIdx g := by
  apply List.ext_getElem (by simp [upd])
  intro i h1 h2
  rw [upd_get, if_pos ⟨by omega, by rw [upd_len] at h1; omega⟩, List.getElem_mapIdx]
theorem getD_set {α : Type} (cs : List α) (i k : Nat) (v d : α) (hi : i < cs.length) : (cs.set i v).getD k d = if i = k then v else cs.getD k d := by
  simp only [List.getD_eq_getElem?_getD, List.getElem?_set]
  by_cases h : i = k
  · subst h
    simp [hi]
  · simp [h]
theorem getD_of {α : Type} (cs : List α) (i : Nat) (d : α) (hi : i < cs.length) : cs.getD i d = cs[i] := by
  simp [List.getD_eq_getElem?_getD, List.getElem?_eq_getElem hi]
end Go.Proofs.Ytklhbaghbmndeaa.Pure

/- rickyard/crc.step: its model, and that the Go function computes it: written by gen.py. -/
set_option linter.unusedVariables false
namespace Go.Proofs.Ytklhbaghbmndeaa
open Go Go.Xw
def crc_step.f (fu : Nat) (a0 : Int) : Option Int := (if (decide ((bAnd .u32 a0 1) = 1)) = true then some ((bXor .u32 (shR .u32 a0 1) 2197175160)) else some ((shR .u32 a0 1)))
set_option maxRecDepth 100000 in
set_option maxHeartbeats 400000 in
theorem crc_step.ok (fu : Nat) (w : World) (a0 : Int) (r : Int) (h : crc_step.f fu a0 = some r) :
    Calls Try.prog 156 (([.int .u32 a0] : List Value).toArray) w (fun e w' => ∃ v, e = .returned v ∧ v = .int .u32 r ∧ Gr w w') := by
  unfold crc_step.f at h
  have fB : Gr w w := Fr.refl _ _
  refine calls_cw Try.func156 rfl Try.ntmps156 rfl ?_
  refine cw_seq ?_
  refine cw_region ?_
  refine ol_val (v := .int .u32 0) (by exact xr_assign rfl rfl) rfl rfl rfl ?_
  refine ol_nil ?_
  refine cw_seq ?_
  refine cw_seq ?_
  refine cw_region ?_
  refine ol_val (v := .int .u32 a0) (by exact xr_move rfl rfl) rfl rfl rfl ?_
  refine ol_val (v := .int .u32 (bAnd .u32 a0 1)) (by exact xr_and rfl rfl rfl) rfl rfl rfl ?_
  refine ol_val (v := .bool (decide ((bAnd .u32 a0 1) = 1))) (by exact xr_eqI rfl Try.underlying191 rfl rfl rfl) rfl rfl rfl ?_
  refine ol_nil ?_
  rcases is h with ⟨c1, h⟩ | ⟨c1, h⟩
  · refine cw_condT rfl c1 ?_
    refine cw_seq ?_
    refine cw_region ?_
    refine ol_val (v := .int .u32 a0) (by exact xr_move rfl rfl) rfl rfl rfl ?_
    refine ol_val (v := .int .u32 (shR .u32 a0 1)) (by exact xr_shr rfl rfl rfl (by decide)) rfl rfl rfl ?_
    refine ol_val (v := .int .u32 (bXor .u32 (shR .u32 a0 1) 2197175160)) (by exact xr_xor rfl rfl rfl) rfl rfl rfl ?_
    refine ol_val (v := .int .u32 (bXor .u32 (shR .u32 a0 1) 2197175160)) (by exact xr_assign rfl rfl) rfl rfl rfl ?_
    refine ol_nil ?_
    refine cw_ret ?_
    repeat (first | with_reducible refine thn_r ?_ | with_reducible refine blk_r ?_)
    obtain rfl := Option.some.inj h
    refine fin_ret1 Try.results156 rfl ?_
    exact ⟨_, rfl, rfl, fB⟩
  · refine cw_condF rfl c1 ?_
    refine cw_skip ?_
    refine cw_seq ?_
    refine cw_region ?_
    refine ol_val (v := .int .u32 a0) (by exact xr_move rfl rfl) rfl rfl rfl ?_
    refine ol_val (v := .int .u32 (shR .u32 a0 1)) (by exact xr_shr rfl rfl rfl (by decide)) rfl rfl rfl ?_
    refine ol_val (v := .int .u32 (shR .u32 a0 1)) (by exact xr_assign rfl rfl) rfl rfl rfl ?_
    refine ol_nil ?_
    refine cw_ret ?_
    repeat (first | with_reducible refine thn_r ?_ | with_reducible refine blk_r ?_)
    obtain rfl := Option.some.inj h
    refine fin_ret1 Try.results156 rfl ?_
    exact ⟨_, rfl, rfl, fB⟩
end Go.Proofs.Ytklhbaghbmndeaa

/- rickyard/crc.Table: its model, and that the Go function computes it: written by gen.py. -/
set_option linter.unusedVariables false
namespace Go.Proofs.Ytklhbaghbmndeaa
open Go Go.Xw
def crc_Table.s3 (fu : Nat) : (Int × Int) → Option (Sum Int (Int × Int)) := fun s22 => (if (decide (s22.2 < 4)) = true then ((crc_step.f fu s22.1 : Option Int).bind fun t30 => some (Sum.inr (t30, (IntKind.i64.wrap (s22.2 + 1))))) else some (Sum.inl (s22.1)))
def crc_Table.s2 (fu : Nat) : (Int × (Arr 16 Int)) → Option (Sum (Arr 16 Int) (Int × (Arr 16 Int))) := fun s14 => (if (decide (s14.1 < 16)) = true then ((loopM (crc_Table.s3 fu) fu ((IntKind.u32.wrap s14.1), 0)).bind fun e23 => (if 0 ≤ s14.1 ∧ s14.1 < 16 then some (Sum.inr ((IntKind.i64.wrap (s14.1 + 1)), (Arr.set s14.2 s14.1 e23))) else none)) else some (Sum.inl (s14.2)))
def crc_Table.f (fu : Nat) : Option (Arr 16 Int) := ((loopM (crc_Table.s2 fu) fu (0, (Arr.rep 16 (0 : Int)))).bind fun e15 => some (e15))
set_option maxRecDepth 100000 in
set_option maxHeartbeats 400000 in
theorem crc_Table.ok (fu : Nat) (w : World)  (r : (Arr 16 Int)) (h : crc_Table.f fu = some r) :
    Calls Try.prog 154 (([] : List Value).toArray) w (fun e w' => ∃ v, e = .returned v ∧ v = aggV [Kd.seg (kA 16 (kI .u32)) r] ∧ Gr w w') := by
  unfold crc_Table.f at h
  have fB : Gr w w := Fr.refl _ _
  refine calls_cw Try.func154 rfl Try.ntmps154 rfl ?_
  refine cw_seq ?_
  refine cw_region ?_
  refine ol_op (by exact opv_alloc (ss := [Kd.seg (kA 16 (kI .u32)) (Arr.rep 16 (0 : Int))]) rfl ze205 rfl) rfl rfl rfl ?_
  rintro _ w6 ⟨G1, rfl, b2, q3, z4⟩
  have z4 := Nat.le_trans fB.size z4
  have fB := fB.gr q3
  refine ol_nil ?_
  refine cw_seq ?_
  refine cw_region ?_
  refine ol_op (by exact opv_alloc (ss := [Kd.seg (kA 16 (kI .u32)) (Arr.rep 16 (0 : Int))]) rfl ze205 rfl) rfl rfl rfl ?_
  rintro _ w12 ⟨G7, rfl, b8, q9, z10⟩
  have n13 := b2.ne z10
  have z10 := Nat.le_trans fB.size z10
  have b2 := b2.gr q9
  have fB := fB.gr q9
  refine ol_nil ?_
  refine cw_seq ?_
  refine cw_seq ?_
  refine cw_region ?_
  refine ol_val (v := .int .i64 0) (by exact xr_move rfl rfl) rfl rfl rfl ?_
  refine ol_nil ?_
  obtain ⟨e15, l16, h17⟩ := bs h
  refine cw_mid (fun ρ' w' => ρ' 0 = .pointer (some ⟨G1, 0, none⟩) ∧ ρ' 1 = .pointer (some ⟨G7, 0, none⟩) ∧ Blk w' G1 205 [Kd.seg (kA 16 (kI .u32)) (Arr.rep 16 (0 : Int))] ∧ Blk w' G7 205 [Kd.seg (kA 16 (kI .u32)) e15] ∧ Gr w w') ?_ ?_
  · refine cw_block ?_
    refine cw_round (fun (s14 : Int × (Arr 16 Int)) ρ' w' => ρ' 0 = .pointer (some ⟨G1, 0, none⟩) ∧ ρ' 1 = .pointer (some ⟨G7, 0, none⟩) ∧ ρ' 4 = .int .i64 s14.1 ∧ Blk w' G1 205 [Kd.seg (kA 16 (kI .u32)) (Arr.rep 16 (0 : Int))] ∧ Blk w' G7 205 [Kd.seg (kA 16 (kI .u32)) s14.2] ∧ Gr w w') l16 ?_ ?_
    · skip
      exact ⟨rfl, rfl, rfl, b2, b8, fB⟩
    · rintro s14 x20 ρ18 w19 ⟨e0, e1, e4, b2, b8, fB⟩ h
      unfold crc_Table.s2 at h
      refine cw_seq ?_
      refine cw_region ?_
      refine ol_val (v := .bool (decide (s14.1 < 16))) (by exact xr_lss rfl e4 rfl) rfl rfl rfl ?_
      refine ol_nil ?_
      refine cw_seq ?_
      rcases is h with ⟨c21, h⟩ | ⟨c21, h⟩
      · refine cw_condT rfl c21 ?_
        refine cw_skip ?_
        refine cw_seq ?_
        refine cw_block ?_
        refine cw_seq ?_
        refine cw_region ?_
        refine ol_val (v := .int .i64 s14.1) (by exact xr_move rfl e4) rfl rfl rfl ?_
        refine ol_val (v := .int .i64 s14.1) (by exact xr_assign rfl rfl) rfl rfl rfl ?_
        refine ol_nil ?_
        refine cw_seq ?_
        refine cw_region ?_
        refine ol_val (v := .int .i64 s14.1) (by exact xr_move rfl rfl) rfl rfl rfl ?_
        refine ol_val (v := .int .u32 (IntKind.u32.wrap s14.1)) (by exact xr_conv rfl Try.underlying3 Try.underlying191 rfl) rfl rfl rfl ?_
        refine ol_val (v := .int .u32 (IntKind.u32.wrap s14.1)) (by exact xr_assign rfl rfl) rfl rfl rfl ?_
        refine ol_nil ?_
        refine cw_seq ?_
        refine cw_seq ?_
        refine cw_region ?_
        refine ol_val (v := .int .i64 0) (by exact xr_move rfl rfl) rfl rfl rfl ?_
        refine ol_nil ?_
        obtain ⟨e23, l24, h25⟩ := bs h
        refine cw_mid (fun ρ' w' => ρ' 0 = .pointer (some ⟨G1, 0, none⟩) ∧ ρ' 1 = .pointer (some ⟨G7, 0, none⟩) ∧ ρ' 2 = .int .i64 s14.1 ∧ ρ' 3 = .int .u32 e23 ∧ ρ' 4 = .int .i64 s14.1 ∧ Blk w' G1 205 [Kd.seg (kA 16 (kI .u32)) (Arr.rep 16 (0 : Int))] ∧ Blk w' G7 205 [Kd.seg (kA 16 (kI .u32)) s14.2] ∧ Gr w w') ?_ ?_
        · refine cw_block ?_
          refine cw_round (fun (s22 : Int × Int) ρ' w' => ρ' 0 = .pointer (some ⟨G1, 0, none⟩) ∧ ρ' 1 = .pointer (some ⟨G7, 0, none⟩) ∧ ρ' 2 = .int .i64 s14.1 ∧ ρ' 3 = .int .u32 s22.1 ∧ ρ' 4 = .int .i64 s14.1 ∧ ρ' 9 = .int .i64 s22.2 ∧ Blk w' G1 205 [Kd.seg (kA 16 (kI .u32)) (Arr.rep 16 (0 : Int))] ∧ Blk w' G7 205 [Kd.seg (kA 16 (kI .u32)) s14.2] ∧ Gr w w') l24 ?_ ?_
          · skip
            exact ⟨e0, e1, rfl, rfl, e4, rfl, b2, b8, fB⟩
          · rintro s22 x28 ρ26 w27 ⟨e0, e1, e2, e3, e4, e9, b2, b8, fB⟩ h
            unfold crc_Table.s3 at h
            refine cw_seq ?_
            refine cw_region ?_
            refine ol_val (v := .bool (decide (s22.2 < 4))) (by exact xr_lss rfl e9 rfl) rfl rfl rfl ?_
            refine ol_nil ?_
            refine cw_seq ?_
            rcases is h with ⟨c29, h⟩ | ⟨c29, h⟩
            · refine cw_condT rfl c29 ?_
              refine cw_skip ?_
              refine cw_seq ?_
              refine cw_block ?_
              refine cw_region ?_
              refine ol_val (v := .int .u32 s22.1) (by exact xr_move rfl e3) rfl rfl rfl ?_
              obtain ⟨t30, k31, h⟩ := bs h
              refine ol_op (by exact opv_call rfl cal156 (ac rfl an) (crc_step.ok fu _ s22.1 _ k31)) rfl rfl rfl ?_
              rintro _ w33 ⟨rfl, q32⟩
              have b2 := b2.gr q32
              have b8 := b8.gr q32
              have fB := fB.gr q32
              refine ol_val (v := .int .u32 t30) (by exact xr_assign rfl rfl) rfl rfl rfl ?_
              refine ol_nil ?_
              refine blk_i ?_
              refine cw_region ?_
              refine ol_val (v := .int .i64 (IntKind.i64.wrap (s22.2 + 1))) (by exact xr_add rfl e9 rfl) rfl rfl rfl ?_
              refine ol_val (v := .int .i64 (IntKind.i64.wrap (s22.2 + 1))) (by exact xr_move rfl rfl) rfl rfl rfl ?_
              refine ol_nil ?_
              obtain rfl := Option.some.inj h
              refine lp_in ?_
              exact ⟨e0, e1, e2, rfl, e4, rfl, b2, b8, fB⟩
            · refine cw_condF rfl c29 ?_
              refine cw_exit ?_
              repeat (first | with_reducible refine thn_e ?_ | with_reducible refine blk_e rfl ?_)
              obtain rfl := Option.some.inj h
              refine lp_exit ?_
              rintro rfl
              refine thn_x ?_
              exact ⟨e0, e1, e2, e3, e4, b2, b8, fB⟩
        · rintro ρ34 w35 ⟨e0, e1, e2, e3, e4, b2, b8, fB⟩
          have h := h25
          refine cw_region ?_
          refine ol_val (v := .int .i64 s14.1) (by exact xr_move rfl e2) rfl rfl rfl ?_
          refine ol_val (v := .int .u32 e23) (by exact xr_move rfl e3) rfl rfl rfl ?_
          obtain ⟨g36, h⟩ := gs h
          refine ol_val (v := .pointer (some ⟨G7, 0 + Int.toNat s14.1 * 1, none⟩)) (by exact xr_indexA (p := 0) (s := 1) rfl Try.underlying205 sz191 e1 rfl g36.1 g36.2) rfl rfl rfl ?_
          refine ol_op0 (by exact opv_store (ss' := [Kd.seg (kA 16 (kI .u32)) (Arr.set s14.2 s14.1 e23)]) (xs := cellsOf [Seg.cell (.int .u32 e23)]) rfl sz191 rfl rfl rfl (len_cellsOf _) (one_cellsOf _) b8 (Spl.seg_in _ 0 (Kd.seg (kA 16 (kI .u32)) (Arr.set s14.2 s14.1 e23)) rfl rfl (Spl.arr s14.2 s14.1 e23 g36.1 g36.2 (Spl.whole ((Kd.len _ _).trans (Kd.len _ _).symm))))) rfl rfl ?_
          rintro _ w38 ⟨b8, q37⟩
          have b2 := b2.wr q37 n13
          have fB := fB.wr q37 z10
          refine ol_nil ?_
          refine blk_i ?_
          refine cw_region ?_
          refine ol_val (v := .int .i64 (IntKind.i64.wrap (s14.1 + 1))) (by exact xr_add rfl e4 rfl) rfl rfl rfl ?_
          refine ol_val (v := .int .i64 (IntKind.i64.wrap (s14.1 + 1))) (by exact xr_move rfl rfl) rfl rfl rfl ?_
          refine ol_nil ?_
          obtain rfl := Option.some.inj h
          refine lp_in ?_
          exact ⟨e0, e1, rfl, b2, b8, fB⟩
      · refine cw_condF rfl c21 ?_
        refine cw_exit ?_
        repeat (first | with_reducible refine thn_e ?_ | with_reducible refine blk_e rfl ?_)
        obtain rfl := Option.some.inj h
        refine lp_exit ?_
        rintro rfl
        refine thn_x ?_
        exact ⟨e0, e1, b2, b8, fB⟩
  · rintro ρ39 w40 ⟨e0, e1, b2, b8, fB⟩
    have h := h17
    refine cw_seq ?_
    refine cw_region ?_
    refine ol_val (v := aggV [Kd.seg (kA 16 (kI .u32)) e15]) (by exact xr_loadS (ss := [Kd.seg (kA 16 (kI .u32)) e15]) rfl ag205 sz205 rfl e1 (b8.segs 0 1 rfl)) rfl rfl rfl ?_
    refine ol_op0 (by exact opv_store (ss' := [Kd.seg (kA 16 (kI .u32)) e15]) (xs := cellsOf [Kd.seg (kA 16 (kI .u32)) e15]) rfl sz205 e0 rfl rfl (len_cellsOf _) (one_cellsOf _) b2 (Spl.segs _ 0 1 [Kd.seg (kA 16 (kI .u32)) e15] rfl rfl)) rfl rfl ?_
    rintro _ w42 ⟨b2, q41⟩
    have fB := fB.wr q41 z4
    refine ol_nil ?_
    refine cw_ret ?_
    repeat (first | with_reducible refine thn_r ?_ | with_reducible refine blk_r ?_)
    obtain rfl := Option.some.inj h
    refine fin_cell Try.results154 e0 ag205 sz205 b2 (by rfl) ?_
    exact ⟨_, rfl, rfl, fB⟩
end Go.Proofs.Ytklhbaghbmndeaa

/- rickyard/crc.register: its model, and that the Go function computes it: written by gen.py. -/
set_option linter.unusedVariables false
namespace Go.Proofs.Ytklhbaghbmndeaa
open Go Go.Xw
def crc_register.s0 (fu : Nat) (a0 : Arr 16 Int) (a2 : List Int) : (Int × Int) → Option (Sum Int (Int × Int)) := fun s1 => (if (decide (s1.2 < (List.length a2 : Int))) = true then (if 0 ≤ s1.2 ∧ s1.2 < (List.length a2 : Int) then (if 0 ≤ (bAnd .u32 (bXor .u32 s1.1 (IntKind.u32.wrap (ix a2 s1.2))) 15) ∧ (bAnd .u32 (bXor .u32 s1.1 (IntKind.u32.wrap (ix a2 s1.2))) 15) < 16 then (if 0 ≤ (bAnd .u32 (bXor .u32 (shR .u32 (bXor .u32 s1.1 (IntKind.u32.wrap (ix a2 s1.2))) 4) (Arr.get a0 (bAnd .u32 (bXor .u32 s1.1 (IntKind.u32.wrap (ix a2 s1.2))) 15))) 15) ∧ (bAnd .u32 (bXor .u32 (shR .u32 (bXor .u32 s1.1 (IntKind.u32.wrap (ix a2 s1.2))) 4) (Arr.get a0 (bAnd .u32 (bXor .u32 s1.1 (IntKind.u32.wrap (ix a2 s1.2))) 15))) 15) < 16 then some (Sum.inr ((bXor .u32 (shR .u32 (bXor .u32 (shR .u32 (bXor .u32 s1.1 (IntKind.u32.wrap (ix a2 s1.2))) 4) (Arr.get a0 (bAnd .u32 (bXor .u32 s1.1 (IntKind.u32.wrap (ix a2 s1.2))) 15))) 4) (Arr.get a0 (bAnd .u32 (bXor .u32 (shR .u32 (bXor .u32 s1.1 (IntKind.u32.wrap (ix a2 s1.2))) 4) (Arr.get a0 (bAnd .u32 (bXor .u32 s1.1 (IntKind.u32.wrap (ix a2 s1.2))) 15))) 15))), (IntKind.i64.wrap (s1.2 + 1)))) else none) else none) else none) else some (Sum.inl (s1.1)))
def crc_register.f (fu : Nat) (a0 : Arr 16 Int) (a1 : Int) (a2 : List Int) : Option Int := ((loopM (crc_register.s0 fu a0 a2) fu (a1, 0)).bind fun e2 => some (e2))
set_option maxRecDepth 100000 in
set_option maxHeartbeats 400000 in
theorem crc_register.ok (fu : Nat) (w : World) (a0 : Arr 16 Int) (G_0 : Nat) (b_0 : Blk w G_0 205 [Kd.seg (kA 16 (kI .u32)) a0]) (a1 : Int) (a2 : List Int) (V2_0 : Value) (R2_0 : Rd (kI .u8) w V2_0 a2) (r : Int) (h : crc_register.f fu a0 a1 a2 = some r) :
    Calls Try.prog 155 (([.pointer (some ⟨G_0, 0, none⟩), .int .u32 a1, V2_0] : List Value).toArray) w (fun e w' => ∃ v, e = .returned v ∧ v = .int .u32 r ∧ Gr w w') := by
  unfold crc_register.f at h
  have fB : Gr w w := Fr.refl _ _
  refine calls_cw Try.func155 rfl Try.ntmps155 rfl ?_
  refine cw_seq ?_
  refine cw_region ?_
  refine ol_val (v := .int .u32 0) (by exact xr_assign rfl rfl) rfl rfl rfl ?_
  refine ol_nil ?_
  refine cw_seq ?_
  refine cw_seq ?_
  refine cw_region ?_
  refine ol_val (v := V2_0) (by exact xr_move rfl rfl) rfl rfl rfl ?_
  refine ol_val (v := .int .i64 (List.length a2 : Int)) (by exact xr_lenR rfl Try.underlying43 rfl (R2_0.gr fB)) rfl rfl rfl ?_
  refine ol_val (v := .int .i64 0) (by exact xr_move rfl rfl) rfl rfl rfl ?_
  refine ol_nil ?_
  obtain ⟨e2, l3, h4⟩ := bs h
  refine cw_mid (fun ρ' w' => ρ' 1 = .int .u32 e2 ∧ Blk w' G_0 205 [Kd.seg (kA 16 (kI .u32)) a0] ∧ Gr w w') ?_ ?_
  · refine cw_block ?_
    refine cw_round (fun (s1 : Int × Int) ρ' w' => ρ' 0 = .pointer (some ⟨G_0, 0, none⟩) ∧ ρ' 1 = .int .u32 s1.1 ∧ ρ' 9 = V2_0 ∧ ρ' 10 = .int .i64 (List.length a2 : Int) ∧ ρ' 11 = .int .i64 s1.2 ∧ Blk w' G_0 205 [Kd.seg (kA 16 (kI .u32)) a0] ∧ Gr w w') l3 ?_ ?_
    · skip
      exact ⟨rfl, rfl, rfl, rfl, rfl, b_0, fB⟩
    · rintro s1 x7 ρ5 w6 ⟨e0, e1, e9, e10, e11, b_0, fB⟩ h
      unfold crc_register.s0 at h
      refine cw_seq ?_
      refine cw_region ?_
      refine ol_val (v := .bool (decide (s1.2 < (List.length a2 : Int)))) (by exact xr_lss rfl e11 e10) rfl rfl rfl ?_
      refine ol_nil ?_
      refine cw_seq ?_
      rcases is h with ⟨c8, h⟩ | ⟨c8, h⟩
      · refine cw_condT rfl c8 ?_
        refine cw_skip ?_
        refine cw_seq ?_
        refine cw_block ?_
        refine cw_seq ?_
        refine cw_region ?_
        obtain ⟨g9, h⟩ := gs h
        refine ol_val (v := .pointer (some ⟨(sb V2_0), so V2_0 + Int.toNat s1.2 * 1, none⟩)) (by exact xr_indexR (K := (kI .u8)) (v := V2_0) rfl Try.underlying43 sz5 e9 (R2_0.gr fB) e11 g9.1 g9.2) rfl rfl rfl ?_
        refine ol_val (v := .int .u8 (ix a2 s1.2)) (by exact xr_load1 (v := .int .u8 (ix a2 s1.2)) rfl ag5 rfl ((R2_0.gr fB).elem g9.1 g9.2)) rfl rfl rfl ?_
        refine ol_val (v := .int .u8 (ix a2 s1.2)) (by exact xr_assign rfl rfl) rfl rfl rfl ?_
        refine ol_nil ?_
        refine cw_seq ?_
        refine cw_region ?_
        refine ol_val (v := .int .u32 s1.1) (by exact xr_move rfl e1) rfl rfl rfl ?_
        refine ol_val (v := .int .u8 (ix a2 s1.2)) (by exact xr_move rfl rfl) rfl rfl rfl ?_
        refine ol_val (v := .int .u32 (IntKind.u32.wrap (ix a2 s1.2))) (by exact xr_conv rfl Try.underlying5 Try.underlying191 rfl) rfl rfl rfl ?_
        refine ol_val (v := .int .u32 (bXor .u32 s1.1 (IntKind.u32.wrap (ix a2 s1.2)))) (by exact xr_xor rfl rfl rfl) rfl rfl rfl ?_
        refine ol_val (v := .int .u32 (bXor .u32 s1.1 (IntKind.u32.wrap (ix a2 s1.2)))) (by exact xr_assign rfl rfl) rfl rfl rfl ?_
        refine ol_nil ?_
        refine cw_seq ?_
        refine cw_region ?_
        refine ol_val (v := .int .u32 (bXor .u32 s1.1 (IntKind.u32.wrap (ix a2 s1.2)))) (by exact xr_move rfl rfl) rfl rfl rfl ?_
        refine ol_val (v := .int .u32 (shR .u32 (bXor .u32 s1.1 (IntKind.u32.wrap (ix a2 s1.2))) 4)) (by exact xr_shr rfl rfl rfl (by decide)) rfl rfl rfl ?_
        refine ol_val (v := .pointer (some ⟨G_0, 0, none⟩)) (by exact xr_move rfl e0) rfl rfl rfl ?_
        refine ol_val (v := .int .u32 (bXor .u32 s1.1 (IntKind.u32.wrap (ix a2 s1.2)))) (by exact xr_move rfl rfl) rfl rfl rfl ?_
        refine ol_val (v := .int .u32 (bAnd .u32 (bXor .u32 s1.1 (IntKind.u32.wrap (ix a2 s1.2))) 15)) (by exact xr_and rfl rfl rfl) rfl rfl rfl ?_
        refine ol_val (v := .pointer (some ⟨G_0, 0, none⟩)) (by exact xr_nilCheck rfl rfl) rfl rfl rfl ?_
        obtain ⟨g10, h⟩ := gs h
        refine ol_val (v := .pointer (some ⟨G_0, 0 + Int.toNat (bAnd .u32 (bXor .u32 s1.1 (IntKind.u32.wrap (ix a2 s1.2))) 15) * 1, none⟩)) (by exact xr_indexA (p := 0) (s := 1) rfl Try.underlying205 sz191 rfl rfl g10.1 g10.2) rfl rfl rfl ?_
        refine ol_val (v := .int .u32 (Arr.get a0 (bAnd .u32 (bXor .u32 s1.1 (IntKind.u32.wrap (ix a2 s1.2))) 15))) (by exact xr_load1 (v := .int .u32 (Arr.get a0 (bAnd .u32 (bXor .u32 s1.1 (IntKind.u32.wrap (ix a2 s1.2))) 15))) rfl ag191 rfl (At.arr (a := a0) (b_0.seg 0 rfl rfl) g10.1 g10.2)) rfl rfl rfl ?_
        refine ol_val (v := .int .u32 (bXor .u32 (shR .u32 (bXor .u32 s1.1 (IntKind.u32.wrap (ix a2 s1.2))) 4) (Arr.get a0 (bAnd .u32 (bXor .u32 s1.1 (IntKind.u32.wrap (ix a2 s1.2))) 15)))) (by exact xr_xor rfl rfl rfl) rfl rfl rfl ?_
        refine ol_val (v := .int .u32 (bXor .u32 (shR .u32 (bXor .u32 s1.1 (IntKind.u32.wrap (ix a2 s1.2))) 4) (Arr.get a0 (bAnd .u32 (bXor .u32 s1.1 (IntKind.u32.wrap (ix a2 s1.2))) 15)))) (by exact xr_assign rfl rfl) rfl rfl rfl ?_
        refine ol_nil ?_
        refine cw_region ?_
        refine ol_val (v := .int .u32 (bXor .u32 (shR .u32 (bXor .u32 s1.1 (IntKind.u32.wrap (ix a2 s1.2))) 4) (Arr.get a0 (bAnd .u32 (bXor .u32 s1.1 (IntKind.u32.wrap (ix a2 s1.2))) 15)))) (by exact xr_move rfl rfl) rfl rfl rfl ?_
        refine ol_val (v := .int .u32 (shR .u32 (bXor .u32 (shR .u32 (bXor .u32 s1.1 (IntKind.u32.wrap (ix a2 s1.2))) 4) (Arr.get a0 (bAnd .u32 (bXor .u32 s1.1 (IntKind.u32.wrap (ix a2 s1.2))) 15))) 4)) (by exact xr_shr rfl rfl rfl (by decide)) rfl rfl rfl ?_
        refine ol_val (v := .pointer (some ⟨G_0, 0, none⟩)) (by exact xr_move rfl e0) rfl rfl rfl ?_
        refine ol_val (v := .int .u32 (bXor .u32 (shR .u32 (bXor .u32 s1.1 (IntKind.u32.wrap (ix a2 s1.2))) 4) (Arr.get a0 (bAnd .u32 (bXor .u32 s1.1 (IntKind.u32.wrap (ix a2 s1.2))) 15)))) (by exact xr_move rfl rfl) rfl rfl rfl ?_
        refine ol_val (v := .int .u32 (bAnd .u32 (bXor .u32 (shR .u32 (bXor .u32 s1.1 (IntKind.u32.wrap (ix a2 s1.2))) 4) (Arr.get a0 (bAnd .u32 (bXor .u32 s1.1 (IntKind.u32.wrap (ix a2 s1.2))) 15))) 15)) (by exact xr_and rfl rfl rfl) rfl rfl rfl ?_
        refine ol_val (v := .pointer (some ⟨G_0, 0, none⟩)) (by exact xr_nilCheck rfl rfl) rfl rfl rfl ?_
        obtain ⟨g11, h⟩ := gs h
        refine ol_val (v := .pointer (some ⟨G_0, 0 + Int.toNat (bAnd .u32 (bXor .u32 (shR .u32 (bXor .u32 s1.1 (IntKind.u32.wrap (ix a2 s1.2))) 4) (Arr.get a0 (bAnd .u32 (bXor .u32 s1.1 (IntKind.u32.wrap (ix a2 s1.2))) 15))) 15) * 1, none⟩)) (by exact xr_indexA (p := 0) (s := 1) rfl Try.underlying205 sz191 rfl rfl g11.1 g11.2) rfl rfl rfl ?_
        refine ol_val (v := .int .u32 (Arr.get a0 (bAnd .u32 (bXor .u32 (shR .u32 (bXor .u32 s1.1 (IntKind.u32.wrap (ix a2 s1.2))) 4) (Arr.get a0 (bAnd .u32 (bXor .u32 s1.1 (IntKind.u32.wrap (ix a2 s1.2))) 15))) 15))) (by exact xr_load1 (v := .int .u32 (Arr.get a0 (bAnd .u32 (bXor .u32 (shR .u32 (bXor .u32 s1.1 (IntKind.u32.wrap (ix a2 s1.2))) 4) (Arr.get a0 (bAnd .u32 (bXor .u32 s1.1 (IntKind.u32.wrap (ix a2 s1.2))) 15))) 15))) rfl ag191 rfl (At.arr (a := a0) (b_0.seg 0 rfl rfl) g11.1 g11.2)) rfl rfl rfl ?_
        refine ol_val (v := .int .u32 (bXor .u32 (shR .u32 (bXor .u32 (shR .u32 (bXor .u32 s1.1 (IntKind.u32.wrap (ix a2 s1.2))) 4) (Arr.get a0 (bAnd .u32 (bXor .u32 s1.1 (IntKind.u32.wrap (ix a2 s1.2))) 15))) 4) (Arr.get a0 (bAnd .u32 (bXor .u32 (shR .u32 (bXor .u32 s1.1 (IntKind.u32.wrap (ix a2 s1.2))) 4) (Arr.get a0 (bAnd .u32 (bXor .u32 s1.1 (IntKind.u32.wrap (ix a2 s1.2))) 15))) 15)))) (by exact xr_xor rfl rfl rfl) rfl rfl rfl ?_
        refine ol_val (v := .int .u32 (bXor .u32 (shR .u32 (bXor .u32 (shR .u32 (bXor .u32 s1.1 (IntKind.u32.wrap (ix a2 s1.2))) 4) (Arr.get a0 (bAnd .u32 (bXor .u32 s1.1 (IntKind.u32.wrap (ix a2 s1.2))) 15))) 4) (Arr.get a0 (bAnd .u32 (bXor .u32 (shR .u32 (bXor .u32 s1.1 (IntKind.u32.wrap (ix a2 s1.2))) 4) (Arr.get a0 (bAnd .u32 (bXor .u32 s1.1 (IntKind.u32.wrap (ix a2 s1.2))) 15))) 15)))) (by exact xr_assign rfl rfl) rfl rfl rfl ?_
        refine ol_nil ?_
        refine blk_i ?_
        refine cw_region ?_
        refine ol_val (v := .int .i64 (IntKind.i64.wrap (s1.2 + 1))) (by exact xr_add rfl e11 rfl) rfl rfl rfl ?_
        refine ol_val (v := .int .i64 (IntKind.i64.wrap (s1.2 + 1))) (by exact xr_move rfl rfl) rfl rfl rfl ?_
        refine ol_nil ?_
        obtain rfl := Option.some.inj h
        refine lp_in ?_
        exact ⟨e0, rfl, e9, e10, rfl, b_0, fB⟩
      · refine cw_condF rfl c8 ?_
        refine cw_exit ?_
        repeat (first | with_reducible refine thn_e ?_ | with_reducible refine blk_e rfl ?_)
        obtain rfl := Option.some.inj h
        refine lp_exit ?_
        rintro rfl
        refine thn_x ?_
        exact ⟨e1, b_0, fB⟩
  · rintro ρ12 w13 ⟨e1, b_0, fB⟩
    have h := h4
    refine cw_seq ?_
    refine cw_region ?_
    refine ol_val (v := .int .u32 e2) (by exact xr_move rfl e1) rfl rfl rfl ?_
    refine ol_val (v := .int .u32 e2) (by exact xr_assign rfl rfl) rfl rfl rfl ?_
    refine ol_nil ?_
    refine cw_ret ?_
    repeat (first | with_reducible refine thn_r ?_ | with_reducible refine blk_r ?_)
    obtain rfl := Option.some.inj h
    refine fin_ret1 Try.results155 rfl ?_
    exact ⟨_, rfl, rfl, fB⟩
end Go.Proofs.Ytklhbaghbmndeaa

/- rickyard/crc.Sum: its model, and that the Go function computes it: written by gen.py. -/
set_option linter.unusedVariables false
namespace Go.Proofs.Ytklhbaghbmndeaa
open Go Go.Xw
def crc_Sum.s0 (fu : Nat) (a0 : List (List Int)) (t1 : (Arr 16 Int)) : (Int × Int) → Option (Sum Int (Int × Int)) := fun s13 => (if (decide (s13.2 < (List.length a0 : Int))) = true then (if 0 ≤ s13.2 ∧ s13.2 < (List.length a0 : Int) then ((crc_register.f fu t1 s13.1 (ix a0 s13.2) : Option Int).bind fun t23 => some (Sum.inr (t23, (IntKind.i64.wrap (s13.2 + 1))))) else none) else some (Sum.inl (s13.1)))
def crc_Sum.f (fu : Nat) (a0 : List (List Int)) : Option Int := ((crc_Table.f fu : Option (Arr 16 Int)).bind fun t1 => ((loopM (crc_Sum.s0 fu a0 t1) fu (4294967295, 0)).bind fun e14 => some ((bXor .u32 e14 4294967295))))
set_option maxRecDepth 100000 in
set_option maxHeartbeats 400000 in
theorem crc_Sum.ok (fu : Nat) (w : World) (a0 : List (List Int)) (V0_0 : Value) (R0_0 : Rds (kI .u8) w V0_0 a0) (r : Int) (h : crc_Sum.f fu a0 = some r) :
    Calls Try.prog 149 (([V0_0] : List Value).toArray) w (fun e w' => ∃ v, e = .returned v ∧ v = .int .u32 r ∧ Gr w w') := by
  unfold crc_Sum.f at h
  have fB : Gr w w := Fr.refl _ _
  refine calls_cw Try.func149 rfl Try.ntmps149 rfl ?_
  refine cw_seq ?_
  refine cw_region ?_
  refine ol_val (v := .int .u32 0) (by exact xr_assign rfl rfl) rfl rfl rfl ?_
  refine ol_nil ?_
  refine cw_seq ?_
  refine cw_region ?_
  obtain ⟨t1, k2, h⟩ := bs h
  refine ol_op (by exact opv_call rfl cal154 an (crc_Table.ok fu _ _ k2)) rfl rfl rfl ?_
  rintro _ w4 ⟨rfl, q3⟩
  have fB := fB.gr q3
  refine ol_op (by exact opv_alloc (ss := [Kd.seg (kA 16 (kI .u32)) (Arr.rep 16 (0 : Int))]) rfl ze205 rfl) rfl rfl rfl ?_
  rintro _ w10 ⟨G5, rfl, b6, q7, z8⟩
  have z8 := Nat.le_trans fB.size z8
  have fB := fB.gr q7
  refine ol_op0 (by exact opv_store (ss' := [Kd.seg (kA 16 (kI .u32)) t1]) (xs := cellsOf [Kd.seg (kA 16 (kI .u32)) t1]) rfl sz205 rfl rfl rfl (len_cellsOf _) (one_cellsOf _) b6 (Spl.segs _ 0 1 [Kd.seg (kA 16 (kI .u32)) t1] rfl rfl)) rfl rfl ?_
  rintro _ w12 ⟨b6, q11⟩
  have fB := fB.wr q11 z8
  refine ol_val (v := .int .u32 4294967295) (by exact xr_assign rfl rfl) rfl rfl rfl ?_
  refine ol_nil ?_
  refine cw_seq ?_
  refine cw_seq ?_
  refine cw_region ?_
  refine ol_val (v := V0_0) (by exact xr_move rfl rfl) rfl rfl rfl ?_
  refine ol_val (v := .int .i64 (List.length a0 : Int)) (by exact xr_lenRs rfl Try.underlying100 rfl (R0_0.gr fB)) rfl rfl rfl ?_
  refine ol_val (v := .int .i64 0) (by exact xr_move rfl rfl) rfl rfl rfl ?_
  refine ol_nil ?_
  obtain ⟨e14, l15, h16⟩ := bs h
  refine cw_mid (fun ρ' w' => ρ' 4 = .int .u32 e14 ∧ Gr w w') ?_ ?_
  · refine cw_block ?_
    refine cw_round (fun (s13 : Int × Int) ρ' w' => ρ' 3 = .pointer (some ⟨G5, 0, none⟩) ∧ ρ' 4 = .int .u32 s13.1 ∧ ρ' 8 = V0_0 ∧ ρ' 9 = .int .i64 (List.length a0 : Int) ∧ ρ' 10 = .int .i64 s13.2 ∧ Blk w' G5 205 [Kd.seg (kA 16 (kI .u32)) t1] ∧ Gr w w') l15 ?_ ?_
    · skip
      exact ⟨rfl, rfl, rfl, rfl, rfl, b6, fB⟩
    · rintro s13 x19 ρ17 w18 ⟨e3, e4, e8, e9, e10, b6, fB⟩ h
      unfold crc_Sum.s0 at h
      refine cw_seq ?_
      refine cw_region ?_
      refine ol_val (v := .bool (decide (s13.2 < (List.length a0 : Int)))) (by exact xr_lss rfl e10 e9) rfl rfl rfl ?_
      refine ol_nil ?_
      refine cw_seq ?_
      rcases is h with ⟨c20, h⟩ | ⟨c20, h⟩
      · refine cw_condT rfl c20 ?_
        refine cw_skip ?_
        refine cw_seq ?_
        refine cw_block ?_
        refine cw_seq ?_
        refine cw_region ?_
        obtain ⟨g21, h⟩ := gs h
        refine ol_val (v := .pointer (some ⟨(sb V0_0), so V0_0 + Int.toNat s13.2 * 1, none⟩)) (by exact xr_indexRs (v := V0_0) rfl Try.underlying100 sz43 e8 (R0_0.gr fB) e10 g21.1 g21.2) rfl rfl rfl ?_
        refine ol_val (v := inner w18 V0_0 s13.2) (by exact xr_load1 (v := inner w18 V0_0 s13.2) rfl ag43 rfl ((R0_0.gr fB).elem g21.1 g21.2).1) rfl rfl rfl ?_
        have r22 : Rd (kI .u8) w18 (inner w18 V0_0 s13.2) (ix a0 s13.2) := ((R0_0.gr fB).elem g21.1 g21.2).2
        refine ol_val (v := inner w18 V0_0 s13.2) (by exact xr_assign rfl rfl) rfl rfl rfl ?_
        refine ol_nil ?_
        refine cw_region ?_
        refine ol_val (v := .int .u32 s13.1) (by exact xr_move rfl e4) rfl rfl rfl ?_
        refine ol_val (v := inner w18 V0_0 s13.2) (by exact xr_move rfl rfl) rfl rfl rfl ?_
        obtain ⟨t23, k24, h⟩ := bs h
        refine ol_op (by exact opv_call rfl cal155 (ac e3 (ac rfl (ac rfl an))) (crc_register.ok fu _ t1 G5 b6 s13.1 (ix a0 s13.2) (inner w18 V0_0 s13.2) (r22) _ k24)) rfl rfl rfl ?_
        rintro _ w26 ⟨rfl, q25⟩
        have b6 := b6.gr q25
        have fB := fB.gr q25
        refine ol_val (v := .int .u32 t23) (by exact xr_assign rfl rfl) rfl rfl rfl ?_
        refine ol_nil ?_
        refine blk_i ?_
        refine cw_region ?_
        refine ol_val (v := .int .i64 (IntKind.i64.wrap (s13.2 + 1))) (by exact xr_add rfl e10 rfl) rfl rfl rfl ?_
        refine ol_val (v := .int .i64 (IntKind.i64.wrap (s13.2 + 1))) (by exact xr_move rfl rfl) rfl rfl rfl ?_
        refine ol_nil ?_
        obtain rfl := Option.some.inj h
        refine lp_in ?_
        exact ⟨e3, rfl, e8, e9, rfl, b6, fB⟩
      · refine cw_condF rfl c20 ?_
        refine cw_exit ?_
        repeat (first | with_reducible refine thn_e ?_ | with_reducible refine blk_e rfl ?_)
        obtain rfl := Option.some.inj h
        refine lp_exit ?_
        rintro rfl
        refine thn_x ?_
        exact ⟨e4, fB⟩
  · rintro ρ27 w28 ⟨e4, fB⟩
    have h := h16
    refine cw_seq ?_
    refine cw_region ?_
    refine ol_val (v := .int .u32 e14) (by exact xr_move rfl e4) rfl rfl rfl ?_
    refine ol_val (v := .int .u32 (bXor .u32 e14 4294967295)) (by exact xr_xor rfl rfl rfl) rfl rfl rfl ?_
    refine ol_val (v := .int .u32 (bXor .u32 e14 4294967295)) (by exact xr_assign rfl rfl) rfl rfl rfl ?_
    refine ol_nil ?_
    refine cw_ret ?_
    repeat (first | with_reducible refine thn_r ?_ | with_reducible refine blk_r ?_)
    obtain rfl := Option.some.inj h
    refine fin_ret1 Try.results149 rfl ?_
    exact ⟨_, rfl, rfl, fB⟩
end Go.Proofs.Ytklhbaghbmndeaa

/- rickyard/rickyardref02.Step: its model, and that the Go function computes it: written by gen.py. -/
set_option linter.unusedVariables false
namespace Go.Proofs.Ytklhbaghbmndeaa
open Go Go.Xw
def rickyardref02_Step.f (fu : Nat) (a0 : Int) : Option Int := (if (decide ((Int.tmod a0 2) = 1)) = true then some ((bXor .u32 (IntKind.u32.wrap (Int.tdiv a0 2)) 2197175160)) else some ((IntKind.u32.wrap (Int.tdiv a0 2))))
set_option maxRecDepth 100000 in
set_option maxHeartbeats 400000 in
theorem rickyardref02_Step.ok (fu : Nat) (w : World) (a0 : Int) (r : Int) (h : rickyardref02_Step.f fu a0 = some r) :
    Calls Try.prog 153 (([.int .u32 a0] : List Value).toArray) w (fun e w' => ∃ v, e = .returned v ∧ v = .int .u32 r ∧ Gr w w') := by
  unfold rickyardref02_Step.f at h
  have fB : Gr w w := Fr.refl _ _
  refine calls_cw Try.func153 rfl Try.ntmps153 rfl ?_
  refine cw_seq ?_
  refine cw_region ?_
  refine ol_val (v := .int .u32 0) (by exact xr_assign rfl rfl) rfl rfl rfl ?_
  refine ol_nil ?_
  refine cw_seq ?_
  refine cw_seq ?_
  refine cw_region ?_
  refine ol_val (v := .int .u32 a0) (by exact xr_move rfl rfl) rfl rfl rfl ?_
  refine ol_val (v := .int .u32 (Int.tmod a0 2)) (by exact xr_rem rfl rfl rfl (by decide)) rfl rfl rfl ?_
  refine ol_val (v := .bool (decide ((Int.tmod a0 2) = 1))) (by exact xr_eqI rfl Try.underlying191 rfl rfl rfl) rfl rfl rfl ?_
  refine ol_nil ?_
  rcases is h with ⟨c1, h⟩ | ⟨c1, h⟩
  · refine cw_condT rfl c1 ?_
    refine cw_seq ?_
    refine cw_region ?_
    refine ol_val (v := .int .u32 a0) (by exact xr_move rfl rfl) rfl rfl rfl ?_
    refine ol_val (v := .int .u32 (IntKind.u32.wrap (Int.tdiv a0 2))) (by exact xr_quo rfl rfl rfl (by decide)) rfl rfl rfl ?_
    refine ol_val (v := .int .u32 (bXor .u32 (IntKind.u32.wrap (Int.tdiv a0 2)) 2197175160)) (by exact xr_xor rfl rfl rfl) rfl rfl rfl ?_
    refine ol_val (v := .int .u32 (bXor .u32 (IntKind.u32.wrap (Int.tdiv a0 2)) 2197175160)) (by exact xr_assign rfl rfl) rfl rfl rfl ?_
    refine ol_nil ?_
    refine cw_ret ?_
    repeat (first | with_reducible refine thn_r ?_ | with_reducible refine blk_r ?_)
    obtain rfl := Option.some.inj h
    refine fin_ret1 Try.results153 rfl ?_
    exact ⟨_, rfl, rfl, fB⟩
  · refine cw_condF rfl c1 ?_
    refine cw_skip ?_
    refine cw_seq ?_
    refine cw_region ?_
    refine ol_val (v := .int .u32 a0) (by exact xr_move rfl rfl) rfl rfl rfl ?_
    refine ol_val (v := .int .u32 (IntKind.u32.wrap (Int.tdiv a0 2))) (by exact xr_quo rfl rfl rfl (by decide)) rfl rfl rfl ?_
    refine ol_val (v := .int .u32 (IntKind.u32.wrap (Int.tdiv a0 2))) (by exact xr_assign rfl rfl) rfl rfl rfl ?_
    refine ol_nil ?_
    refine cw_ret ?_
    repeat (first | with_reducible refine thn_r ?_ | with_reducible refine blk_r ?_)
    obtain rfl := Option.some.inj h
    refine fin_ret1 Try.results153 rfl ?_
    exact ⟨_, rfl, rfl, fB⟩
end Go.Proofs.Ytklhbaghbmndeaa
