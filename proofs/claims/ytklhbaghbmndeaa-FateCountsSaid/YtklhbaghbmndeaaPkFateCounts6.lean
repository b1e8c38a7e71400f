/- FateCounts: texts merged, part 6 of 8. The last part proves that the law FateCounts holds for every input. -/
import Derived.Test.YtklhbaghbmndeaaPkFateCounts5
import Derived.ProofKit
import Derived.OpenShut
import Derived.ChangeOld
import Derived.Below
import Derived.SizedLaws
import Derived.WalkKit
/- rickyard/rickyardlaw06.made: its model, and that the Go function computes it: written by gen.py. -/
set_option linter.unusedVariables false
namespace Go.Proofs.Ytklhbaghbmndeaa
open Go Go.Xw
def rickyardlaw06_made.s0 (fu : Nat) (a1 : List S_rickyardlaw05_Act) : (Int × (List S_pmem_cell) × (List Int) × Int × Bool × Bool × Int × Int × (List Int) × (List Int) × (List Int) × (List Bool) × (List Int) × Int × Int × Int) → Option (Sum ((List S_pmem_cell) × (List Int) × Int × Bool × Bool × Int × Int × (List Int) × (List Int) × (List Int) × (List Bool) × (List Int) × Int × Int × Int) (Int × (List S_pmem_cell) × (List Int) × Int × Bool × Bool × Int × Int × (List Int) × (List Int) × (List Int) × (List Bool) × (List Int) × Int × Int × Int)) := fun s64 => (if (decide (s64.1 < (List.length a1 : Int))) = true then (if 0 ≤ s64.1 ∧ s64.1 < (List.length a1 : Int) then ((rickyardlaw05_Do.f fu (⟨s64.2.1, (⟨s64.2.2.1, s64.2.2.2.1⟩ : S_pmem_plan), s64.2.2.2.2.1, s64.2.2.2.2.2.1, s64.2.2.2.2.2.2.1, s64.2.2.2.2.2.2.2.1⟩ : S_pmem_Device) (ix a1 s64.1) : Option (Int × Int × S_pmem_Device)).bind fun t123 => (if 0 ≤ s64.1 ∧ s64.1 < (List.length a1 : Int) then ((rickyardlaw05_Refs.f fu (⟨s64.2.2.2.2.2.2.2.2.1, s64.2.2.2.2.2.2.2.2.2.1, s64.2.2.2.2.2.2.2.2.2.2.1, s64.2.2.2.2.2.2.2.2.2.2.2.1, s64.2.2.2.2.2.2.2.2.2.2.2.2.1, s64.2.2.2.2.2.2.2.2.2.2.2.2.2.1, s64.2.2.2.2.2.2.2.2.2.2.2.2.2.2.1, s64.2.2.2.2.2.2.2.2.2.2.2.2.2.2.2⟩ : S_rickyardref05_Device) (ix a1 s64.1) : Option (Int × Int × S_rickyardref05_Device)).bind fun t144 => some (Sum.inr ((IntKind.i64.wrap (s64.1 + 1)), t123.2.2.cells, t123.2.2.plan.list, t123.2.2.plan.at_, t123.2.2.off, t123.2.2.armed, t123.2.2.left, t123.2.2.steps, t144.2.2.Lasts, t144.2.2.Stored, t144.2.2.Sent, t144.2.2.Flushed, t144.2.2.Plan, t144.2.2.Since, t144.2.2.Left, t144.2.2.Steps))) else none)) else none) else some (Sum.inl (s64.2.1, s64.2.2.1, s64.2.2.2.1, s64.2.2.2.2.1, s64.2.2.2.2.2.1, s64.2.2.2.2.2.2.1, s64.2.2.2.2.2.2.2.1, s64.2.2.2.2.2.2.2.2.1, s64.2.2.2.2.2.2.2.2.2.1, s64.2.2.2.2.2.2.2.2.2.2.1, s64.2.2.2.2.2.2.2.2.2.2.2.1, s64.2.2.2.2.2.2.2.2.2.2.2.2.1, s64.2.2.2.2.2.2.2.2.2.2.2.2.2.1, s64.2.2.2.2.2.2.2.2.2.2.2.2.2.2.1, s64.2.2.2.2.2.2.2.2.2.2.2.2.2.2.2)))
def rickyardlaw06_made.f (fu : Nat) (a0 : Int) (a1 : List S_rickyardlaw05_Act) : Option ((Option S_pmem_Device) × (Option S_rickyardref05_Device)) := ((pmem_New.f fu (Int.tmod (IntKind.i64.wrap a0) 4) : Option ((Option S_pmem_Device) × Int)).bind fun t5 => (Option.elim t5.1 (some (none, none)) (fun m12 => ((((rickyardlaw05_Small.f fu a1 40 : Option Bool).bind fun t26 => some ((!t26))) : Option Bool).bind fun x24 => (if x24 = true then some (none, none) else ((rickyardref05_New.f fu (Int.tmod (IntKind.i64.wrap a0) 4) : Option S_rickyardref05_Device).bind fun t34 => ((loopM (rickyardlaw06_made.s0 fu a1) fu (0, m12.cells, m12.plan.list, m12.plan.at_, m12.off, m12.armed, m12.left, m12.steps, t34.Lasts, t34.Stored, t34.Sent, t34.Flushed, t34.Plan, t34.Since, t34.Left, t34.Steps)).bind fun e65 => some ((some (⟨e65.1, (⟨e65.2.1, e65.2.2.1⟩ : S_pmem_plan), e65.2.2.2.1, e65.2.2.2.2.1, e65.2.2.2.2.2.1, e65.2.2.2.2.2.2.1⟩ : S_pmem_Device)), (some (⟨e65.2.2.2.2.2.2.2.1, e65.2.2.2.2.2.2.2.2.1, e65.2.2.2.2.2.2.2.2.2.1, e65.2.2.2.2.2.2.2.2.2.2.1, e65.2.2.2.2.2.2.2.2.2.2.2.1, e65.2.2.2.2.2.2.2.2.2.2.2.2.1, e65.2.2.2.2.2.2.2.2.2.2.2.2.2.1, e65.2.2.2.2.2.2.2.2.2.2.2.2.2.2⟩ : S_rickyardref05_Device))))))))))
set_option maxRecDepth 100000 in
set_option maxHeartbeats 400000 in
theorem rickyardlaw06_made.ok (fu : Nat) (w : World) (a0 : Int) (a1 : List S_rickyardlaw05_Act) (V1_0 : Value) (R1_0 : RdN 4 D_rickyardlaw05_Act w V1_0 a1) (r : (Option S_pmem_Device) × (Option S_rickyardref05_Device)) (h : rickyardlaw06_made.f fu a0 a1 = some r) :
    Calls Try.prog 60 (([.int .u8 a0, V1_0] : List Value).toArray) w (fun e w' => ∃ v, e = .returned v ∧ ∃ u1 : Value, ∃ u3 : Value, ∃ p2 : (r.1 = none → u1 = .pointer none) ∧ ∀ m9, r.1 = some m9 → ∃ G9 : Nat, ∃ U0 : Value, ∃ U1 : Value, ∃ O0 : Own k_pmem_cell 142 w' w.heap.size U0 m9.cells, ∃ O1 : Own (kI .i64) 3 w' w.heap.size U1 m9.plan.list, u1 = .pointer (some ⟨G9, 0, none⟩) ∧ w.heap.size ≤ G9 ∧ Blk w' G9 139 [Seg.cell U0 O0.one, Seg.cell U1 O1.one, Seg.cell (.int .i64 m9.plan.at_), Seg.cell (.bool m9.off), Seg.cell (.bool m9.armed), Seg.cell (.int .i64 m9.left), Seg.cell (.int .i64 m9.steps)], ∃ p4 : (r.2 = none → u3 = .pointer none) ∧ ∀ m9, r.2 = some m9 → ∃ G9 : Nat, ∃ U0 : Value, ∃ U1 : Value, ∃ U2 : Value, ∃ U3 : Value, ∃ U4 : Value, ∃ O0 : Own (kI .u64) 22 w' w.heap.size U0 m9.Lasts, ∃ O1 : Own (kI .u64) 22 w' w.heap.size U1 m9.Stored, ∃ O2 : Own (kI .u64) 22 w' w.heap.size U2 m9.Sent, ∃ O3 : Own kB 4 w' w.heap.size U3 m9.Flushed, ∃ O4 : Own (kI .i64) 3 w' w.heap.size U4 m9.Plan, ∃ A0_1 : OffV U0 U1, ∃ A0_2 : OffV U0 U2, ∃ A1_2 : OffV U1 U2, u3 = .pointer (some ⟨G9, 0, none⟩) ∧ w.heap.size ≤ G9 ∧ Blk w' G9 65 [Seg.cell U0 O0.one, Seg.cell U1 O1.one, Seg.cell U2 O2.one, Seg.cell U3 O3.one, Seg.cell U4 O4.one, Seg.cell (.int .i64 m9.Since), Seg.cell (.int .i64 m9.Left), Seg.cell (.int .i64 m9.Steps)], v = .tuple #[u1, u3] ∧ Gr w w') := by
  unfold rickyardlaw06_made.f at h
  have fB : Gr w w := Fr.refl _ _
  refine calls_cw Try.func60 rfl Try.ntmps60 rfl ?_
  refine cw_seq ?_
  refine cw_region ?_
  refine ol_val (v := .pointer none) (by exact xr_assign rfl rfl) rfl rfl rfl ?_
  refine ol_val (v := .pointer none) (by exact xr_assign rfl rfl) rfl rfl rfl ?_
  refine ol_nil ?_
  refine cw_seq ?_
  refine cw_region ?_
  refine ol_val (v := .int .u8 a0) (by exact xr_move rfl rfl) rfl rfl rfl ?_
  refine ol_val (v := .int .i64 (IntKind.i64.wrap a0)) (by exact xr_conv rfl Try.underlying5 Try.underlying3 rfl) rfl rfl rfl ?_
  refine ol_val (v := .int .i64 (Int.tmod (IntKind.i64.wrap a0) 4)) (by exact xr_rem rfl rfl rfl (by decide)) rfl rfl rfl ?_
  refine ol_val (v := .int .i64 (Int.tmod (IntKind.i64.wrap a0) 4)) (by exact xr_assign rfl rfl) rfl rfl rfl ?_
  refine ol_nil ?_
  refine cw_seq ?_
  refine cw_region ?_
  refine ol_val (v := .int .i64 (Int.tmod (IntKind.i64.wrap a0) 4)) (by exact xr_move rfl rfl) rfl rfl rfl ?_
  obtain ⟨t5, k6, h⟩ := bs h
  refine ol_op (by exact opv_call rfl cal26 (ac rfl an) (pmem_New.ok fu _ (Int.tmod (IntKind.i64.wrap a0) 4) _ k6)) rfl rfl rfl ?_
  rintro _ w10 ⟨u7, p8, rfl, q9⟩
  rcases en h with ⟨e11, h⟩ | ⟨m12, e11, h⟩
  · obtain rfl := p8.1 e11
    have fB := fB.gr q9
    refine ol_val (v := .tuple #[.pointer none, .int .i64 t5.2]) (by exact xr_move rfl rfl) rfl rfl rfl ?_
    refine ol_val (v := .pointer none) (by exact xr_extract rfl rfl rfl) rfl rfl rfl ?_
    refine ol_val (v := .int .i64 t5.2) (by exact xr_extract rfl rfl rfl) rfl rfl rfl ?_
    refine ol_val (v := .pointer none) (by exact xr_assign rfl rfl) rfl rfl rfl ?_
    refine ol_val (v := .int .i64 t5.2) (by exact xr_assign rfl rfl) rfl rfl rfl ?_
    refine ol_nil ?_
    refine cw_seq ?_
    refine cw_seq ?_
    refine cw_mid (fun ρ' w' => ρ' 1 = V1_0 ∧ ρ' 6 = .int .i64 (Int.tmod (IntKind.i64.wrap a0) 4) ∧ ρ' 7 = .pointer none ∧ ρ' 25 = .bool true ∧ w10 = w') ?_ ?_
    · skip
      refine cw_region ?_
      refine ol_val (v := .pointer none) (by exact xr_move rfl rfl) rfl rfl rfl ?_
      refine ol_val (v := .bool true) (by exact xr_eqP (b := true) rfl Try.underlying30 rfl rfl (by simp) (by simp)) rfl rfl rfl ?_
      refine ol_val (v := .bool true) (by exact xr_move rfl rfl) rfl rfl rfl ?_
      refine ol_gskip rfl rfl rfl rfl rfl rfl ?_
      refine ol_gskip rfl rfl rfl rfl rfl rfl ?_
      refine ol_gskip rfl rfl rfl rfl rfl rfl ?_
      refine ol_val (v := .bool true) (by exact xr_pickT rfl rfl rfl rfl) rfl rfl rfl ?_
      refine ol_nil ?_
      refine thn_i ?_
      exact ⟨rfl, rfl, rfl, rfl, rfl⟩
    · skip
      rintro ρ13 _ ⟨e1, e6, e7, e25, rfl⟩
      refine cw_condT e25 rfl ?_
      refine cw_seq ?_
      refine cw_region ?_
      refine ol_val (v := .pointer none) (by exact xr_assign rfl rfl) rfl rfl rfl ?_
      refine ol_val (v := .pointer none) (by exact xr_assign rfl rfl) rfl rfl rfl ?_
      refine ol_nil ?_
      refine cw_ret ?_
      repeat (first | with_reducible refine thn_r ?_ | with_reducible refine blk_r ?_)
      obtain rfl := Option.some.inj h
      refine fin_ret2 Try.results60 rfl rfl ?_
      exact ⟨_, rfl, (.pointer none), (.pointer none), ⟨(fun _ => rfl), (fun _ e => by cases e)⟩, ⟨(fun _ => rfl), (fun _ e => by cases e)⟩, rfl, fB⟩
  · skip
    obtain ⟨G14, u18, u21, o19, o22, rfl, z15, b16⟩ := p8.2 _ e11
    have o19 := Own.base o19 fB.size
    have o22 := Own.base o22 fB.size
    have z15 := Nat.le_trans fB.size z15
    have fB := fB.gr q9
    refine ol_val (v := .tuple #[.pointer (some ⟨G14, 0, none⟩), .int .i64 t5.2]) (by exact xr_move rfl rfl) rfl rfl rfl ?_
    refine ol_val (v := .pointer (some ⟨G14, 0, none⟩)) (by exact xr_extract rfl rfl rfl) rfl rfl rfl ?_
    refine ol_val (v := .int .i64 t5.2) (by exact xr_extract rfl rfl rfl) rfl rfl rfl ?_
    refine ol_val (v := .pointer (some ⟨G14, 0, none⟩)) (by exact xr_assign rfl rfl) rfl rfl rfl ?_
    refine ol_val (v := .int .i64 t5.2) (by exact xr_assign rfl rfl) rfl rfl rfl ?_
    refine ol_nil ?_
    refine cw_seq ?_
    refine cw_seq ?_
    obtain ⟨x24, j25, h⟩ := bs h
    refine cw_mid (fun ρ' w' => ρ' 1 = V1_0 ∧ ρ' 6 = .int .i64 (Int.tmod (IntKind.i64.wrap a0) 4) ∧ ρ' 7 = .pointer (some ⟨G14, 0, none⟩) ∧ ρ' 25 = .bool x24 ∧ Gr w10 w') ?_ ?_
    · skip
      refine cw_region ?_
      refine ol_val (v := .pointer (some ⟨G14, 0, none⟩)) (by exact xr_move rfl rfl) rfl rfl rfl ?_
      refine ol_val (v := .bool false) (by exact xr_eqP (b := false) rfl Try.underlying30 rfl rfl (by simp) (by simp)) rfl rfl rfl ?_
      refine ol_val (v := .bool false) (by exact xr_move rfl rfl) rfl rfl rfl ?_
      refine ol_gval (v := V1_0) (by exact xr_move rfl rfl) rfl rfl rfl rfl rfl rfl ?_
      obtain ⟨t26, k27, j25⟩ := bs j25
      refine ol_gop (by exact opv_call rfl cal25 (ac rfl (ac rfl an)) (rickyardlaw05_Small.ok fu _ a1 V1_0 (RdN.gr R1_0 D_rickyardlaw05_Act.gr fB) 40 _ k27)) rfl rfl rfl rfl rfl rfl ?_
      rintro _ w29 ⟨rfl, q28⟩
      have b16 := b16.gr q28
      have o19 := o19.gr q28
      have o22 := o22.gr q28
      have fB := fB.gr q28
      refine ol_gval (v := .bool (!t26)) (by exact xr_not rfl rfl) rfl rfl rfl rfl rfl rfl ?_
      refine ol_val (v := .bool (!t26)) (by exact xr_pickF rfl rfl rfl rfl) rfl rfl rfl ?_
      refine ol_nil ?_
      obtain rfl := Option.some.inj j25
      refine thn_i ?_
      exact ⟨rfl, rfl, rfl, rfl, q28⟩
    · skip
      rintro ρ30 w31 ⟨e1, e6, e7, e25, q32⟩
      have b16 := b16.gr q32
      have o19 := o19.gr q32
      have o22 := o22.gr q32
      have fB := fB.gr q32
      rcases is h with ⟨c33, h⟩ | ⟨c33, h⟩
      · refine cw_condT e25 c33 ?_
        refine cw_seq ?_
        refine cw_region ?_
        refine ol_val (v := .pointer none) (by exact xr_assign rfl rfl) rfl rfl rfl ?_
        refine ol_val (v := .pointer none) (by exact xr_assign rfl rfl) rfl rfl rfl ?_
        refine ol_nil ?_
        refine cw_ret ?_
        repeat (first | with_reducible refine thn_r ?_ | with_reducible refine blk_r ?_)
        obtain rfl := Option.some.inj h
        refine fin_ret2 Try.results60 rfl rfl ?_
        exact ⟨_, rfl, (.pointer none), (.pointer none), ⟨(fun _ => rfl), (fun _ e => by cases e)⟩, ⟨(fun _ => rfl), (fun _ e => by cases e)⟩, rfl, fB⟩
      · refine cw_condF e25 c33 ?_
        refine cw_skip ?_
        refine cw_seq ?_
        refine cw_region ?_
        refine ol_val (v := .int .i64 (Int.tmod (IntKind.i64.wrap a0) 4)) (by exact xr_move rfl e6) rfl rfl rfl ?_
        obtain ⟨t34, k35, h⟩ := bs h
        refine ol_op (by exact opv_call rfl cal44 (ac rfl an) (rickyardref05_New.ok fu _ (Int.tmod (IntKind.i64.wrap a0) 4) _ k35)) rfl rfl rfl ?_
        rintro u36 w39 ⟨_, p37, rfl, q38⟩
        obtain ⟨G40, u44, u47, u50, u53, u56, o45, o48, o51, o54, o57, a59, a60, a61, rfl, z41, b42⟩ := p37
        have a62 := OffV.call o22 o57
        have o45 := Own.base o45 fB.size
        have o48 := Own.base o48 fB.size
        have o51 := Own.base o51 fB.size
        have o54 := Own.base o54 fB.size
        have o57 := Own.base o57 fB.size
        have n63 := b16.ne z41
        have z41 := Nat.le_trans fB.size z41
        have b16 := b16.gr q38
        have o19 := o19.gr q38
        have o22 := o22.gr q38
        have fB := fB.gr q38
        refine ol_val (v := .pointer (some ⟨G40, 0, none⟩)) (by exact xr_assign rfl rfl) rfl rfl rfl ?_
        refine ol_nil ?_
        refine cw_seq ?_
        refine cw_seq ?_
        refine cw_region ?_
        refine ol_val (v := .int .i64 0) (by exact xr_assign rfl rfl) rfl rfl rfl ?_
        refine ol_nil ?_
        obtain ⟨e65, l66, h67⟩ := bs h
        refine cw_mid (fun ρ' w' => ∃ v68 : Value, ∃ v71 : Value, ∃ v74 : Value, ∃ v77 : Value, ∃ v80 : Value, ∃ v83 : Value, ∃ v86 : Value, ∃ o69 : Own k_pmem_cell 142 w' w.heap.size v68 e65.1, ∃ o72 : Own (kI .i64) 3 w' w.heap.size v71 e65.2.1, ∃ o75 : Own (kI .u64) 22 w' w.heap.size v74 e65.2.2.2.2.2.2.2.1, ∃ o78 : Own (kI .u64) 22 w' w.heap.size v77 e65.2.2.2.2.2.2.2.2.1, ∃ o81 : Own (kI .u64) 22 w' w.heap.size v80 e65.2.2.2.2.2.2.2.2.2.1, ∃ o84 : Own kB 4 w' w.heap.size v83 e65.2.2.2.2.2.2.2.2.2.2.1, ∃ o87 : Own (kI .i64) 3 w' w.heap.size v86 e65.2.2.2.2.2.2.2.2.2.2.2.1, OffV v71 v86 ∧ OffV v74 v77 ∧ OffV v74 v80 ∧ OffV v77 v80 ∧ ρ' 7 = .pointer (some ⟨G14, 0, none⟩) ∧ ρ' 9 = .pointer (some ⟨G40, 0, none⟩) ∧ Blk w' G14 139 [Seg.cell v68 o69.one, Seg.cell v71 o72.one, Seg.cell (.int .i64 e65.2.2.1), Seg.cell (.bool e65.2.2.2.1), Seg.cell (.bool e65.2.2.2.2.1), Seg.cell (.int .i64 e65.2.2.2.2.2.1), Seg.cell (.int .i64 e65.2.2.2.2.2.2.1)] ∧ Blk w' G40 65 [Seg.cell v74 o75.one, Seg.cell v77 o78.one, Seg.cell v80 o81.one, Seg.cell v83 o84.one, Seg.cell v86 o87.one, Seg.cell (.int .i64 e65.2.2.2.2.2.2.2.2.2.2.2.2.1), Seg.cell (.int .i64 e65.2.2.2.2.2.2.2.2.2.2.2.2.2.1), Seg.cell (.int .i64 e65.2.2.2.2.2.2.2.2.2.2.2.2.2.2)] ∧ Gr w w') ?_ ?_
        · refine cw_block ?_
          refine cw_round (fun (s64 : Int × (List S_pmem_cell) × (List Int) × Int × Bool × Bool × Int × Int × (List Int) × (List Int) × (List Int) × (List Bool) × (List Int) × Int × Int × Int) ρ' w' => ∃ v93 : Value, ∃ v96 : Value, ∃ v99 : Value, ∃ v102 : Value, ∃ v105 : Value, ∃ v108 : Value, ∃ v111 : Value, ∃ o94 : Own k_pmem_cell 142 w' w.heap.size v93 s64.2.1, ∃ o97 : Own (kI .i64) 3 w' w.heap.size v96 s64.2.2.1, ∃ o100 : Own (kI .u64) 22 w' w.heap.size v99 s64.2.2.2.2.2.2.2.2.1, ∃ o103 : Own (kI .u64) 22 w' w.heap.size v102 s64.2.2.2.2.2.2.2.2.2.1, ∃ o106 : Own (kI .u64) 22 w' w.heap.size v105 s64.2.2.2.2.2.2.2.2.2.2.1, ∃ o109 : Own kB 4 w' w.heap.size v108 s64.2.2.2.2.2.2.2.2.2.2.2.1, ∃ o112 : Own (kI .i64) 3 w' w.heap.size v111 s64.2.2.2.2.2.2.2.2.2.2.2.2.1, OffV v96 v111 ∧ OffV v99 v102 ∧ OffV v99 v105 ∧ OffV v102 v105 ∧ ρ' 1 = V1_0 ∧ ρ' 7 = .pointer (some ⟨G14, 0, none⟩) ∧ ρ' 9 = .pointer (some ⟨G40, 0, none⟩) ∧ ρ' 10 = .int .i64 s64.1 ∧ Blk w' G14 139 [Seg.cell v93 o94.one, Seg.cell v96 o97.one, Seg.cell (.int .i64 s64.2.2.2.1), Seg.cell (.bool s64.2.2.2.2.1), Seg.cell (.bool s64.2.2.2.2.2.1), Seg.cell (.int .i64 s64.2.2.2.2.2.2.1), Seg.cell (.int .i64 s64.2.2.2.2.2.2.2.1)] ∧ Blk w' G40 65 [Seg.cell v99 o100.one, Seg.cell v102 o103.one, Seg.cell v105 o106.one, Seg.cell v108 o109.one, Seg.cell v111 o112.one, Seg.cell (.int .i64 s64.2.2.2.2.2.2.2.2.2.2.2.2.2.1), Seg.cell (.int .i64 s64.2.2.2.2.2.2.2.2.2.2.2.2.2.2.1), Seg.cell (.int .i64 s64.2.2.2.2.2.2.2.2.2.2.2.2.2.2.2)] ∧ Gr w w') l66 ?_ ?_
          · skip
            exact ⟨u18, u21, u44, u47, u50, u53, u56, o19, o22, o45, o48, o51, o54, o57, a62, a59, a60, a61, e1, e7, rfl, rfl, b16, b42, fB⟩
          · rintro s64 x120 ρ118 w119 ⟨v93, v96, v99, v102, v105, v108, v111, o94, o97, o100, o103, o106, o109, o112, a114, a115, a116, a117, e1, e7, e9, e10, b16, b42, fB⟩ h
            unfold rickyardlaw06_made.s0 at h
            refine cw_seq ?_
            refine cw_seq ?_
            refine cw_region ?_
            refine ol_val (v := .int .i64 s64.1) (by exact xr_move rfl e10) rfl rfl rfl ?_
            refine ol_val (v := V1_0) (by exact xr_move rfl e1) rfl rfl rfl ?_
            refine ol_val (v := .int .i64 (List.length a1 : Int)) (by exact xr_lenN rfl Try.underlying24 rfl (RdN.gr R1_0 D_rickyardlaw05_Act.gr fB)) rfl rfl rfl ?_
            refine ol_val (v := .bool (decide (s64.1 < (List.length a1 : Int)))) (by exact xr_lss rfl rfl rfl) rfl rfl rfl ?_
            refine ol_nil ?_
            rcases is h with ⟨c121, h⟩ | ⟨c121, h⟩
            · refine cw_condT rfl c121 ?_
              refine cw_skip ?_
              refine cw_seq ?_
              refine cw_block ?_
              refine cw_seq ?_
              refine cw_region ?_
              refine ol_val (v := .pointer (some ⟨G14, 0, none⟩)) (by exact xr_move rfl e7) rfl rfl rfl ?_
              refine ol_val (v := V1_0) (by exact xr_move rfl e1) rfl rfl rfl ?_
              refine ol_val (v := .int .i64 s64.1) (by exact xr_move rfl e10) rfl rfl rfl ?_
              obtain ⟨g122, h⟩ := gs h
              refine ol_val (v := .pointer (some ⟨(sb V1_0), so V1_0 + Int.toNat s64.1 * 4, none⟩)) (by exact xr_indexN (v := V1_0) rfl Try.underlying24 sz39 rfl (RdN.gr R1_0 D_rickyardlaw05_Act.gr fB) rfl g122.1 g122.2) rfl rfl rfl ?_
              refine ol_val (v := aggV [Seg.cell (.int .i64 ((ix a1 s64.1).Kind)), Seg.cell (.int .i64 ((ix a1 s64.1).At)), Seg.cell (.int .u64 ((ix a1 s64.1).W)), Seg.cell (cellAt w (sb V1_0) (so V1_0 + Int.toNat s64.1 * 4 + 3)) (N_rickyardlaw05_Act R1_0 g122.1 g122.2).2.one]) (by exact xr_loadS (ss := [Seg.cell (.int .i64 ((ix a1 s64.1).Kind)), Seg.cell (.int .i64 ((ix a1 s64.1).At)), Seg.cell (.int .u64 ((ix a1 s64.1).W)), Seg.cell (cellAt w (sb V1_0) (so V1_0 + Int.toNat s64.1 * 4 + 3)) (N_rickyardlaw05_Act R1_0 g122.1 g122.2).2.one]) rfl ag39 sz39 rfl rfl (At.gr (N_rickyardlaw05_Act R1_0 g122.1 g122.2).1 fB)) rfl rfl rfl ?_
              obtain ⟨t123, k124, h⟩ := bs h
              have f134 := (nb_or n63.symm (nb_or (nb_off (off_ty b42 o94 (by decide))) (nb_off (off_ty b42 o97 (by decide)))))
              have f135 := (vo_or (vo_eq (off_ty b16 o100 (by decide))) (vo_or (vo_own (OffV.ty o100 o94 (by decide))) (vo_own (OffV.ty o100 o97 (by decide)))))
              have f136 := (vo_or (vo_eq (off_ty b16 o103 (by decide))) (vo_or (vo_own (OffV.ty o103 o94 (by decide))) (vo_own (OffV.ty o103 o97 (by decide)))))
              have f137 := (vo_or (vo_eq (off_ty b16 o106 (by decide))) (vo_or (vo_own (OffV.ty o106 o94 (by decide))) (vo_own (OffV.ty o106 o97 (by decide)))))
              have f138 := (vo_or (vo_eq (off_ty b16 o109 (by decide))) (vo_or (vo_own (OffV.ty o109 o94 (by decide))) (vo_own (OffV.ty o109 o97 (by decide)))))
              have f139 := (vo_or (vo_eq (off_ty b16 o112 (by decide))) (vo_or (vo_own (OffV.ty o112 o94 (by decide))) (vo_own a114.symm)))
              have c140 : ∀ k, (k = G14 ∨ some k = Value.ownBlock v93 ∨ some k = Value.ownBlock v96) → w.heap.size ≤ k := (cv_or (cv_eq z15) (cv_or (cv_own o94.geO) (cv_own o97.geO)))
              refine ol_op (by exact opv_call rfl cal31 (ac rfl (ac rfl an)) (rickyardlaw05_Do.ok fu _ (⟨s64.2.1, (⟨s64.2.2.1, s64.2.2.2.1⟩ : S_pmem_plan), s64.2.2.2.2.1, s64.2.2.2.2.2.1, s64.2.2.2.2.2.2.1, s64.2.2.2.2.2.2.2.1⟩ : S_pmem_Device) G14 v93 (Own.base o94 (Nat.zero_le _)) v96 (Own.base o97 (Nat.zero_le _)) b16 (ix a1 s64.1) (cellAt w (sb V1_0) (so V1_0 + Int.toNat s64.1 * 4 + 3)) ((N_rickyardlaw05_Act R1_0 g122.1 g122.2).2.gr fB) (OffR.new (N_rickyardlaw05_Act R1_0 g122.1 g122.2).2 z15 rfl) (OffRV.call (N_rickyardlaw05_Act R1_0 g122.1 g122.2).2 o94 rfl) (OffRV.call (N_rickyardlaw05_Act R1_0 g122.1 g122.2).2 o97 rfl) _ k124)) rfl rfl rfl ?_
              rintro _ w141 ⟨u126, u130, o127, m128, o131, m132, rfl, b16, q125⟩
              have a142 := ov_new o112 f139 m132
              have o127 := Own.rebase o127 (fun g hg => (m128 g hg).elim (fun x => Nat.le_trans fB.size x) (c140 g))
              have o131 := Own.rebase o131 (fun g hg => (m132 g hg).elim (fun x => Nat.le_trans fB.size x) (c140 g))
              have b42 := b42.fr q125 f134
              have o100 := o100.fr q125 f135
              have o103 := o103.fr q125 f136
              have o106 := o106.fr q125 f137
              have o109 := o109.fr q125 f138
              have o112 := o112.fr q125 f139
              have fB := fB.call q125 (fun k h => .inl (c140 k h))
              refine ol_nil ?_
              refine cw_region ?_
              refine ol_val (v := .pointer (some ⟨G40, 0, none⟩)) (by exact xr_move rfl e9) rfl rfl rfl ?_
              refine ol_val (v := V1_0) (by exact xr_move rfl e1) rfl rfl rfl ?_
              refine ol_val (v := .int .i64 s64.1) (by exact xr_move rfl e10) rfl rfl rfl ?_
              obtain ⟨g143, h⟩ := gs h
              refine ol_val (v := .pointer (some ⟨(sb V1_0), so V1_0 + Int.toNat s64.1 * 4, none⟩)) (by exact xr_indexN (v := V1_0) rfl Try.underlying24 sz39 rfl (RdN.gr R1_0 D_rickyardlaw05_Act.gr fB) rfl g143.1 g143.2) rfl rfl rfl ?_
              refine ol_val (v := aggV [Seg.cell (.int .i64 ((ix a1 s64.1).Kind)), Seg.cell (.int .i64 ((ix a1 s64.1).At)), Seg.cell (.int .u64 ((ix a1 s64.1).W)), Seg.cell (cellAt w (sb V1_0) (so V1_0 + Int.toNat s64.1 * 4 + 3)) (N_rickyardlaw05_Act R1_0 g143.1 g143.2).2.one]) (by exact xr_loadS (ss := [Seg.cell (.int .i64 ((ix a1 s64.1).Kind)), Seg.cell (.int .i64 ((ix a1 s64.1).At)), Seg.cell (.int .u64 ((ix a1 s64.1).W)), Seg.cell (cellAt w (sb V1_0) (so V1_0 + Int.toNat s64.1 * 4 + 3)) (N_rickyardlaw05_Act R1_0 g143.1 g143.2).2.one]) rfl ag39 sz39 rfl rfl (At.gr (N_rickyardlaw05_Act R1_0 g143.1 g143.2).1 fB)) rfl rfl rfl ?_
              obtain ⟨t144, k145, h⟩ := bs h
              have f170 := (nb_or n63 (nb_or (nb_off (off_ty b16 o100 (by decide))) (nb_or (nb_off (off_ty b16 o103 (by decide))) (nb_or (nb_off (off_ty b16 o106 (by decide))) (nb_or (nb_off (off_ty b16 o109 (by decide))) (nb_off (off_ty b16 o112 (by decide))))))))
              have f171 := (vo_or (vo_eq (off_ty b42 o127 (by decide))) (vo_or (vo_own (OffV.ty o127 o100 (by decide))) (vo_or (vo_own (OffV.ty o127 o103 (by decide))) (vo_or (vo_own (OffV.ty o127 o106 (by decide))) (vo_or (vo_own (OffV.ty o127 o109 (by decide))) (vo_own (OffV.ty o127 o112 (by decide))))))))
              have f172 := (vo_or (vo_eq (off_ty b42 o131 (by decide))) (vo_or (vo_own (OffV.ty o131 o100 (by decide))) (vo_or (vo_own (OffV.ty o131 o103 (by decide))) (vo_or (vo_own (OffV.ty o131 o106 (by decide))) (vo_or (vo_own (OffV.ty o131 o109 (by decide))) (vo_own a142.symm))))))
              have c173 : ∀ k, (k = G40 ∨ some k = Value.ownBlock v99 ∨ some k = Value.ownBlock v102 ∨ some k = Value.ownBlock v105 ∨ some k = Value.ownBlock v108 ∨ some k = Value.ownBlock v111) → w.heap.size ≤ k := (cv_or (cv_eq z41) (cv_or (cv_own o100.geO) (cv_or (cv_own o103.geO) (cv_or (cv_own o106.geO) (cv_or (cv_own o109.geO) (cv_own o112.geO))))))
              refine ol_op (by exact opv_call rfl cal45 (ac rfl (ac rfl an)) (rickyardlaw05_Refs.ok fu _ (⟨s64.2.2.2.2.2.2.2.2.1, s64.2.2.2.2.2.2.2.2.2.1, s64.2.2.2.2.2.2.2.2.2.2.1, s64.2.2.2.2.2.2.2.2.2.2.2.1, s64.2.2.2.2.2.2.2.2.2.2.2.2.1, s64.2.2.2.2.2.2.2.2.2.2.2.2.2.1, s64.2.2.2.2.2.2.2.2.2.2.2.2.2.2.1, s64.2.2.2.2.2.2.2.2.2.2.2.2.2.2.2⟩ : S_rickyardref05_Device) G40 v99 (Own.base o100 (Nat.zero_le _)) v102 (Own.base o103 (Nat.zero_le _)) v105 (Own.base o106 (Nat.zero_le _)) v108 (Own.base o109 (Nat.zero_le _)) v111 (Own.base o112 (Nat.zero_le _)) b42 (ix a1 s64.1) (cellAt w (sb V1_0) (so V1_0 + Int.toNat s64.1 * 4 + 3)) ((N_rickyardlaw05_Act R1_0 g143.1 g143.2).2.gr fB) a115 a116 a117 (OffR.new (N_rickyardlaw05_Act R1_0 g143.1 g143.2).2 z41 rfl) (OffRV.call (N_rickyardlaw05_Act R1_0 g143.1 g143.2).2 o100 rfl) (OffRV.call (N_rickyardlaw05_Act R1_0 g143.1 g143.2).2 o103 rfl) (OffRV.call (N_rickyardlaw05_Act R1_0 g143.1 g143.2).2 o106 rfl) (OffRV.call (N_rickyardlaw05_Act R1_0 g143.1 g143.2).2 o109 rfl) (OffRV.call (N_rickyardlaw05_Act R1_0 g143.1 g143.2).2 o112 rfl) _ k145)) rfl rfl rfl ?_
              rintro _ w174 ⟨u147, u151, u155, u159, u163, o148, m149, o152, m153, o156, m157, o160, m161, o164, m165, a167, a168, a169, rfl, b42, q146⟩
              have a175 := ov_new o131 f172 m165
              have o148 := Own.rebase o148 (fun g hg => (m149 g hg).elim (fun x => Nat.le_trans fB.size x) (c173 g))
              have o152 := Own.rebase o152 (fun g hg => (m153 g hg).elim (fun x => Nat.le_trans fB.size x) (c173 g))
              have o156 := Own.rebase o156 (fun g hg => (m157 g hg).elim (fun x => Nat.le_trans fB.size x) (c173 g))
              have o160 := Own.rebase o160 (fun g hg => (m161 g hg).elim (fun x => Nat.le_trans fB.size x) (c173 g))
              have o164 := Own.rebase o164 (fun g hg => (m165 g hg).elim (fun x => Nat.le_trans fB.size x) (c173 g))
              have b16 := b16.fr q146 f170
              have o127 := o127.fr q146 f171
              have o131 := o131.fr q146 f172
              have fB := fB.call q146 (fun k h => .inl (c173 k h))
              refine ol_nil ?_
              refine blk_i ?_
              refine cw_region ?_
              refine ol_val (v := .int .i64 s64.1) (by exact xr_move rfl e10) rfl rfl rfl ?_
              refine ol_val (v := .int .i64 (IntKind.i64.wrap (s64.1 + 1))) (by exact xr_add rfl rfl rfl) rfl rfl rfl ?_
              refine ol_val (v := .int .i64 (IntKind.i64.wrap (s64.1 + 1))) (by exact xr_assign rfl rfl) rfl rfl rfl ?_
              refine ol_nil ?_
              obtain rfl := Option.some.inj h
              refine lp_in ?_
              exact ⟨u126, u130, u147, u151, u155, u159, u163, o127, o131, o148, o152, o156, o160, o164, a175, a167, a168, a169, e1, e7, e9, rfl, b16, b42, fB⟩
            · refine cw_condF rfl c121 ?_
              refine cw_exit ?_
              repeat (first | with_reducible refine thn_e ?_ | with_reducible refine blk_e rfl ?_)
              obtain rfl := Option.some.inj h
              refine lp_exit ?_
              rintro rfl
              refine thn_x ?_
              exact ⟨v93, v96, v99, v102, v105, v108, v111, o94, o97, o100, o103, o106, o109, o112, a114, a115, a116, a117, e7, e9, b16, b42, fB⟩
        · rintro ρ176 w177 ⟨v68, v71, v74, v77, v80, v83, v86, o69, o72, o75, o78, o81, o84, o87, a89, a90, a91, a92, e7, e9, b16, b42, fB⟩
          have h := h67
          refine cw_seq ?_
          refine cw_region ?_
          refine ol_val (v := .pointer (some ⟨G14, 0, none⟩)) (by exact xr_move rfl e7) rfl rfl rfl ?_
          refine ol_val (v := .pointer (some ⟨G40, 0, none⟩)) (by exact xr_move rfl e9) rfl rfl rfl ?_
          refine ol_val (v := .pointer (some ⟨G14, 0, none⟩)) (by exact xr_assign rfl rfl) rfl rfl rfl ?_
          refine ol_val (v := .pointer (some ⟨G40, 0, none⟩)) (by exact xr_assign rfl rfl) rfl rfl rfl ?_
          refine ol_nil ?_
          refine cw_ret ?_
          repeat (first | with_reducible refine thn_r ?_ | with_reducible refine blk_r ?_)
          obtain rfl := Option.some.inj h
          refine fin_ret2 Try.results60 rfl rfl ?_
          exact ⟨_, rfl, (.pointer (some ⟨G14, 0, none⟩)), (.pointer (some ⟨G40, 0, none⟩)), ⟨(fun e => by cases e), (fun _ e => by obtain rfl := Option.some.inj e; exact ⟨G14, v68, v71, o69, o72, rfl, z15, b16⟩)⟩, ⟨(fun e => by cases e), (fun _ e => by obtain rfl := Option.some.inj e; exact ⟨G40, v74, v77, v80, v83, v86, o75, o78, o81, o84, o87, a90, a91, a92, rfl, z41, b42⟩)⟩, rfl, fB⟩
end Go.Proofs.Ytklhbaghbmndeaa

/- rickyard/rickyardref06.Values: its model, and that the Go function computes it: written by gen.py. -/
set_option linter.unusedVariables false
namespace Go.Proofs.Ytklhbaghbmndeaa
open Go Go.Xw
def rickyardref06_Values.s2 (fu : Nat) (s10 : (List Int) × Int) (t24 : Int) : (Bool × Int) → Option (Sum Bool (Bool × Int)) := fun s28 => (if (decide (s28.2 < (List.length s10.1 : Int))) = true then (((if s28.1 = true then some (true) else (if 0 ≤ s28.2 ∧ s28.2 < (List.length s10.1 : Int) then some ((decide ((ix s10.1 s28.2) = t24))) else none)) : Option Bool).bind fun x36 => some (Sum.inr (x36, (IntKind.i64.wrap (s28.2 + 1))))) else some (Sum.inl (s28.1)))
def rickyardref06_Values.s1 (fu : Nat) (a0 : S_api_Fate) : ((List Int) × Int) → Option (Sum (List Int) ((List Int) × Int)) := fun s10 => (if (decide (s10.2 < 3)) = true then ((rickyardref05_Value.f fu a0 s10.2 : Option Int).bind fun t24 => ((loopM (rickyardref06_Values.s2 fu s10 t24) fu (false, 0)).bind fun e29 => (((if (!e29) = true then (if List.length s10.1 + List.length [t24] ≤ LIM then some ((s10.1 ++ [t24])) else none) else some (s10.1)) : Option (List Int)).bind fun x43 => some (Sum.inr (x43, (IntKind.i64.wrap (s10.2 + 1))))))) else some (Sum.inl (s10.1)))
def rickyardref06_Values.f (fu : Nat) (a0 : S_api_Fate) : Option (List Int) := ((loopM (rickyardref06_Values.s1 fu a0) fu ([], 0)).bind fun e11 => some (e11))
set_option maxRecDepth 100000 in
set_option maxHeartbeats 400000 in
theorem rickyardref06_Values.ok (fu : Nat) (w : World) (a0 : S_api_Fate) (r : (List Int)) (h : rickyardref06_Values.f fu a0 = some r) :
    Calls Try.prog 51 (([aggV [Seg.cell (.int .i64 a0.At), Seg.cell (.int .u64 a0.Lasts), Seg.cell (.bool a0.Flushed), Seg.cell (.int .u64 a0.Sent), Seg.cell (.int .u64 a0.Stored)]] : List Value).toArray) w (fun e w' => ∃ v, e = .returned v ∧ ∃ u1 : Value, ∃ o2 : Own (kI .u64) 22 w' w.heap.size u1 r, v = u1 ∧ Gr w w') := by
  unfold rickyardref06_Values.f at h
  have fB : Gr w w := Fr.refl _ _
  refine calls_cw Try.func51 rfl Try.ntmps51 rfl ?_
  refine cw_seq ?_
  refine cw_region ?_
  refine ol_op (by exact opv_box (ss := [Seg.cell (.int .i64 a0.At), Seg.cell (.int .u64 a0.Lasts), Seg.cell (.bool a0.Flushed), Seg.cell (.int .u64 a0.Sent), Seg.cell (.int .u64 a0.Stored)]) rfl rfl rfl) rfl rfl rfl ?_
  rintro _ w9 ⟨G4, rfl, b5, q6, z7⟩
  have z7 := Nat.le_trans fB.size z7
  have fB := fB.gr q6
  refine ol_val (v := .slice none 0 0) (by exact xr_assign rfl rfl) rfl rfl rfl ?_
  refine ol_nil ?_
  refine cw_seq ?_
  refine cw_region ?_
  refine ol_val (v := .slice none 0 0) (by exact xr_assign rfl rfl) rfl rfl rfl ?_
  refine ol_nil ?_
  refine cw_seq ?_
  refine cw_seq ?_
  refine cw_region ?_
  refine ol_val (v := .int .i64 0) (by exact xr_assign rfl rfl) rfl rfl rfl ?_
  refine ol_nil ?_
  obtain ⟨e11, l12, h13⟩ := bs h
  refine cw_mid (fun ρ' w' => ∃ v14 : Value, ∃ o15 : Own (kI .u64) 22 w' w.heap.size v14 e11, ρ' 3 = v14 ∧ Gr w w') ?_ ?_
  · refine cw_block ?_
    refine cw_round (fun (s10 : (List Int) × Int) ρ' w' => ∃ v17 : Value, ∃ o18 : Own (kI .u64) 22 w' w.heap.size v17 s10.1, ρ' 1 = .pointer (some ⟨G4, 0, none⟩) ∧ ρ' 3 = v17 ∧ ρ' 4 = .int .i64 s10.2 ∧ Blk w' G4 55 [Seg.cell (.int .i64 a0.At), Seg.cell (.int .u64 a0.Lasts), Seg.cell (.bool a0.Flushed), Seg.cell (.int .u64 a0.Sent), Seg.cell (.int .u64 a0.Stored)] ∧ Gr w w') l12 ?_ ?_
    · skip
      exact ⟨(.slice none 0 0), Own.nil _ _ _ _, rfl, rfl, rfl, b5, fB⟩
    · rintro s10 x22 ρ20 w21 ⟨v17, o18, e1, e3, e4, b5, fB⟩ h
      unfold rickyardref06_Values.s1 at h
      refine cw_seq ?_
      refine cw_seq ?_
      refine cw_region ?_
      refine ol_val (v := .int .i64 s10.2) (by exact xr_move rfl e4) rfl rfl rfl ?_
      refine ol_val (v := .bool (decide (s10.2 < 3))) (by exact xr_lss rfl rfl rfl) rfl rfl rfl ?_
      refine ol_nil ?_
      rcases is h with ⟨c23, h⟩ | ⟨c23, h⟩
      · refine cw_condT rfl c23 ?_
        refine cw_skip ?_
        refine cw_seq ?_
        refine cw_block ?_
        refine cw_seq ?_
        refine cw_region ?_
        refine ol_val (v := aggV [Seg.cell (.int .i64 a0.At), Seg.cell (.int .u64 a0.Lasts), Seg.cell (.bool a0.Flushed), Seg.cell (.int .u64 a0.Sent), Seg.cell (.int .u64 a0.Stored)]) (by exact xr_loadS (ss := [Seg.cell (.int .i64 a0.At), Seg.cell (.int .u64 a0.Lasts), Seg.cell (.bool a0.Flushed), Seg.cell (.int .u64 a0.Sent), Seg.cell (.int .u64 a0.Stored)]) rfl ag55 sz55 rfl e1 (b5.segs 0 5 rfl)) rfl rfl rfl ?_
        refine ol_val (v := .int .i64 s10.2) (by exact xr_move rfl e4) rfl rfl rfl ?_
        obtain ⟨t24, k25, h⟩ := bs h
        refine ol_op (by exact opv_call rfl cal42 (ac rfl (ac rfl an)) (rickyardref05_Value.ok fu _ a0 s10.2 _ k25)) rfl rfl rfl ?_
        rintro _ w27 ⟨rfl, q26⟩
        have b5 := b5.gr q26
        have o18 := o18.gr q26
        have fB := fB.gr q26
        refine ol_val (v := .int .u64 t24) (by exact xr_assign rfl rfl) rfl rfl rfl ?_
        refine ol_nil ?_
        refine cw_seq ?_
        refine cw_region ?_
        refine ol_val (v := .bool false) (by exact xr_assign rfl rfl) rfl rfl rfl ?_
        refine ol_nil ?_
        refine cw_seq ?_
        refine cw_seq ?_
        refine cw_region ?_
        refine ol_val (v := .int .i64 0) (by exact xr_assign rfl rfl) rfl rfl rfl ?_
        refine ol_nil ?_
        obtain ⟨e29, l30, h31⟩ := bs h
        refine cw_mid (fun ρ' w' => ∃ o18 : Own (kI .u64) 22 w' w.heap.size v17 s10.1, ρ' 1 = .pointer (some ⟨G4, 0, none⟩) ∧ ρ' 3 = v17 ∧ ρ' 4 = .int .i64 s10.2 ∧ ρ' 5 = .int .u64 t24 ∧ ρ' 6 = .bool e29 ∧ Blk w' G4 55 [Seg.cell (.int .i64 a0.At), Seg.cell (.int .u64 a0.Lasts), Seg.cell (.bool a0.Flushed), Seg.cell (.int .u64 a0.Sent), Seg.cell (.int .u64 a0.Stored)] ∧ Gr w w') ?_ ?_
        · refine cw_block ?_
          refine cw_round (fun (s28 : Bool × Int) ρ' w' => ∃ o18 : Own (kI .u64) 22 w' w.heap.size v17 s10.1, ρ' 1 = .pointer (some ⟨G4, 0, none⟩) ∧ ρ' 3 = v17 ∧ ρ' 4 = .int .i64 s10.2 ∧ ρ' 5 = .int .u64 t24 ∧ ρ' 6 = .bool s28.1 ∧ ρ' 7 = .int .i64 s28.2 ∧ Blk w' G4 55 [Seg.cell (.int .i64 a0.At), Seg.cell (.int .u64 a0.Lasts), Seg.cell (.bool a0.Flushed), Seg.cell (.int .u64 a0.Sent), Seg.cell (.int .u64 a0.Stored)] ∧ Gr w w') l30 ?_ ?_
          · skip
            exact ⟨o18, e1, e3, e4, rfl, rfl, rfl, b5, fB⟩
          · rintro s28 x34 ρ32 w33 ⟨o18, e1, e3, e4, e5, e6, e7, b5, fB⟩ h
            unfold rickyardref06_Values.s2 at h
            refine cw_seq ?_
            refine cw_seq ?_
            refine cw_region ?_
            refine ol_val (v := .int .i64 s28.2) (by exact xr_move rfl e7) rfl rfl rfl ?_
            refine ol_val (v := v17) (by exact xr_move rfl e3) rfl rfl rfl ?_
            refine ol_val (v := .int .i64 (List.length s10.1 : Int)) (by exact xr_lenR rfl Try.underlying46 rfl o18.rd) rfl rfl rfl ?_
            refine ol_val (v := .bool (decide (s28.2 < (List.length s10.1 : Int)))) (by exact xr_lss rfl rfl rfl) rfl rfl rfl ?_
            refine ol_nil ?_
            rcases is h with ⟨c35, h⟩ | ⟨c35, h⟩
            · refine cw_condT rfl c35 ?_
              refine cw_skip ?_
              refine cw_seq ?_
              refine cw_block ?_
              obtain ⟨x36, j37, h⟩ := bs h
              refine cw_mid (fun ρ' w' => ρ' 1 = .pointer (some ⟨G4, 0, none⟩) ∧ ρ' 3 = v17 ∧ ρ' 4 = .int .i64 s10.2 ∧ ρ' 5 = .int .u64 t24 ∧ ρ' 6 = .bool x36 ∧ ρ' 7 = .int .i64 s28.2 ∧ w33 = w') ?_ ?_
              · skip
                refine cw_region ?_
                refine ol_val (v := .bool s28.1) (by exact xr_move rfl e6) rfl rfl rfl ?_
                refine ol_val (v := .bool s28.1) (by exact xr_move rfl rfl) rfl rfl rfl ?_
                rcases is j37 with ⟨c38, j37⟩ | ⟨c38, j37⟩
                · skip
                  refine ol_gskip rfl rfl rfl rfl rfl c38 ?_
                  refine ol_gskip rfl rfl rfl rfl rfl c38 ?_
                  refine ol_gskip rfl rfl rfl rfl rfl c38 ?_
                  refine ol_gskip rfl rfl rfl rfl rfl c38 ?_
                  refine ol_gskip rfl rfl rfl rfl rfl c38 ?_
                  refine ol_gskip rfl rfl rfl rfl rfl c38 ?_
                  refine ol_val (v := .bool true) (by exact xr_pickT rfl rfl c38 rfl) rfl rfl rfl ?_
                  refine ol_val (v := .bool true) (by exact xr_assign rfl rfl) rfl rfl rfl ?_
                  refine ol_nil ?_
                  obtain rfl := Option.some.inj j37
                  refine thn_i ?_
                  exact ⟨e1, e3, e4, e5, rfl, e7, rfl⟩
                · skip
                  refine ol_gval (v := v17) (by exact xr_move rfl e3) rfl rfl rfl rfl rfl c38 ?_
                  refine ol_gval (v := .int .i64 s28.2) (by exact xr_move rfl e7) rfl rfl rfl rfl rfl c38 ?_
                  obtain ⟨g39, j37⟩ := gs j37
                  refine ol_gval (v := .pointer (some ⟨(sb v17), so v17 + Int.toNat s28.2 * 1, none⟩)) (by exact xr_indexR (K := (kI .u64)) (v := v17) rfl Try.underlying46 sz22 rfl o18.rd rfl g39.1 g39.2) rfl rfl rfl rfl rfl c38 ?_
                  refine ol_gval (v := .int .u64 (ix s10.1 s28.2)) (by exact xr_load1 (v := .int .u64 (ix s10.1 s28.2)) rfl ag22 rfl (o18.rd.elem g39.1 g39.2)) rfl rfl rfl rfl rfl c38 ?_
                  refine ol_gval (v := .int .u64 t24) (by exact xr_move rfl e5) rfl rfl rfl rfl rfl c38 ?_
                  refine ol_gval (v := .bool (decide ((ix s10.1 s28.2) = t24))) (by exact xr_eqI rfl Try.underlying22 rfl rfl rfl) rfl rfl rfl rfl rfl c38 ?_
                  refine ol_val (v := .bool (decide ((ix s10.1 s28.2) = t24))) (by exact xr_pickF rfl rfl c38 rfl) rfl rfl rfl ?_
                  refine ol_val (v := .bool (decide ((ix s10.1 s28.2) = t24))) (by exact xr_assign rfl rfl) rfl rfl rfl ?_
                  refine ol_nil ?_
                  obtain rfl := Option.some.inj j37
                  refine thn_i ?_
                  exact ⟨e1, e3, e4, e5, rfl, e7, rfl⟩
              · skip
                rintro ρ40 _ ⟨e1, e3, e4, e5, e6, e7, rfl⟩
                refine blk_i ?_
                refine cw_region ?_
                refine ol_val (v := .int .i64 s28.2) (by exact xr_move rfl e7) rfl rfl rfl ?_
                refine ol_val (v := .int .i64 (IntKind.i64.wrap (s28.2 + 1))) (by exact xr_add rfl rfl rfl) rfl rfl rfl ?_
                refine ol_val (v := .int .i64 (IntKind.i64.wrap (s28.2 + 1))) (by exact xr_assign rfl rfl) rfl rfl rfl ?_
                refine ol_nil ?_
                obtain rfl := Option.some.inj h
                refine lp_in ?_
                exact ⟨o18, e1, e3, e4, e5, e6, rfl, b5, fB⟩
            · refine cw_condF rfl c35 ?_
              refine cw_exit ?_
              repeat (first | with_reducible refine thn_e ?_ | with_reducible refine blk_e rfl ?_)
              obtain rfl := Option.some.inj h
              refine lp_exit ?_
              rintro rfl
              refine thn_x ?_
              exact ⟨o18, e1, e3, e4, e5, e6, b5, fB⟩
        · rintro ρ41 w42 ⟨o18, e1, e3, e4, e5, e6, b5, fB⟩
          have h := h31
          refine cw_seq ?_
          refine cw_region ?_
          refine ol_val (v := .bool e29) (by exact xr_move rfl e6) rfl rfl rfl ?_
          refine ol_val (v := .bool (!e29)) (by exact xr_not rfl rfl) rfl rfl rfl ?_
          refine ol_nil ?_
          obtain ⟨x43, j44, h45⟩ := bs h
          refine cw_mid (fun ρ' w' => ∃ v46 : Value, ∃ o47 : Own (kI .u64) 22 w' w.heap.size v46 x43, ρ' 1 = .pointer (some ⟨G4, 0, none⟩) ∧ ρ' 3 = v46 ∧ ρ' 4 = .int .i64 s10.2 ∧ Blk w' G4 55 [Seg.cell (.int .i64 a0.At), Seg.cell (.int .u64 a0.Lasts), Seg.cell (.bool a0.Flushed), Seg.cell (.int .u64 a0.Sent), Seg.cell (.int .u64 a0.Stored)] ∧ Gr w w') ?_ ?_
          · have h := j44
            rcases is h with ⟨c49, h⟩ | ⟨c49, h⟩
            · refine cw_condT rfl c49 ?_
              refine cw_region ?_
              refine ol_val (v := v17) (by exact xr_move rfl e3) rfl rfl rfl ?_
              refine ol_val (v := .int .u64 t24) (by exact xr_move rfl e5) rfl rfl rfl ?_
              refine ol_op (by exact opv_buildSlice (K := (kI .u64)) (xs := [t24]) (vals := [.int .u64 t24]) rfl Try.underlying46 el22 rfl rfl ⟨rfl, rfl, trivial⟩ rfl rfl rfl fB.size) rfl rfl rfl ?_
              rintro v50 w55 ⟨o52, q51, z53⟩
              have a56 := OffV.new o18 z53
              have b5 := b5.gr q51
              have o18 := o18.gr q51
              have fB := fB.gr q51
              obtain ⟨g61, h⟩ := gs h
              have f63 := off_ty b5 o18 (by decide)
              have f64 := o18.geO
              refine ol_op (by exact opv_append (K := (kI .u64)) rfl Try.underlying46 el22 rfl rfl rfl rfl rfl o18 o52.rd g61 fB.size) rfl rfl rfl ?_
              rintro v57 w65 ⟨o58, q59, n60⟩
              have b5 := b5.wrO q59 f63
              have fB := fB.wrO q59 f64
              refine ol_val (v := v57) (by exact xr_assign rfl rfl) rfl rfl rfl ?_
              refine ol_nil ?_
              obtain rfl := Option.some.inj h
              refine thn_i ?_
              exact ⟨v57, o58, e1, rfl, e4, b5, fB⟩
            · refine cw_condF rfl c49 ?_
              refine cw_skip ?_
              obtain rfl := Option.some.inj h
              refine thn_i ?_
              exact ⟨v17, o18, e1, e3, e4, b5, fB⟩
          · rintro ρ66 w67 ⟨v46, o47, e1, e3, e4, b5, fB⟩
            have h := h45
            refine blk_i ?_
            refine cw_region ?_
            refine ol_val (v := .int .i64 s10.2) (by exact xr_move rfl e4) rfl rfl rfl ?_
            refine ol_val (v := .int .i64 (IntKind.i64.wrap (s10.2 + 1))) (by exact xr_add rfl rfl rfl) rfl rfl rfl ?_
            refine ol_val (v := .int .i64 (IntKind.i64.wrap (s10.2 + 1))) (by exact xr_assign rfl rfl) rfl rfl rfl ?_
            refine ol_nil ?_
            obtain rfl := Option.some.inj h
            refine lp_in ?_
            exact ⟨v46, o47, e1, e3, rfl, b5, fB⟩
      · refine cw_condF rfl c23 ?_
        refine cw_exit ?_
        repeat (first | with_reducible refine thn_e ?_ | with_reducible refine blk_e rfl ?_)
        obtain rfl := Option.some.inj h
        refine lp_exit ?_
        rintro rfl
        refine thn_x ?_
        exact ⟨v17, o18, e3, fB⟩
  · rintro ρ68 w69 ⟨v14, o15, e3, fB⟩
    have h := h13
    refine cw_seq ?_
    refine cw_region ?_
    refine ol_val (v := v14) (by exact xr_move rfl e3) rfl rfl rfl ?_
    refine ol_val (v := v14) (by exact xr_assign rfl rfl) rfl rfl rfl ?_
    refine ol_nil ?_
    refine cw_ret ?_
    repeat (first | with_reducible refine thn_r ?_ | with_reducible refine blk_r ?_)
    obtain rfl := Option.some.inj h
    refine fin_ret1 Try.results51 rfl ?_
    exact ⟨_, rfl, v14, o15, rfl, fB⟩
end Go.Proofs.Ytklhbaghbmndeaa

/- rickyard/rickyardref06.Count: its model, and that the Go function computes it: written by gen.py. -/
set_option linter.unusedVariables false
namespace Go.Proofs.Ytklhbaghbmndeaa
open Go Go.Xw
def rickyardref06_Count.s0 (fu : Nat) (t1 : (List S_api_Fate)) : (Int × Int) → Option (Sum Int (Int × Int)) := fun s8 => (if (decide (s8.2 < (List.length t1 : Int))) = true then (if 0 ≤ s8.2 ∧ s8.2 < (List.length t1 : Int) then ((rickyardref06_Values.f fu (ix t1 s8.2) : Option (List Int)).bind fun t17 => (((if (decide ((IntKind.i64.wrap (s8.1 * (List.length t17 : Int))) > 1099511627776)) = true then some (1099511627776) else some ((IntKind.i64.wrap (s8.1 * (List.length t17 : Int))))) : Option Int).bind fun x24 => some (Sum.inr (x24, (IntKind.i64.wrap (s8.2 + 1)))))) else none) else some (Sum.inl (s8.1)))
def rickyardref06_Count.f (fu : Nat) (a0 : S_rickyardref05_Device) : Option Int := ((rickyardref05_Device_Fates.f fu a0 : Option (List S_api_Fate)).bind fun t1 => ((loopM (rickyardref06_Count.s0 fu t1) fu (1, 0)).bind fun e9 => some (e9)))
set_option maxRecDepth 100000 in
set_option maxHeartbeats 400000 in
theorem rickyardref06_Count.ok (fu : Nat) (w : World) (a0 : S_rickyardref05_Device) (G_0 : Nat) (V0_0 : Value) (R0_0 : Rd (kI .u64) w V0_0 a0.Lasts) (V0_1 : Value) (R0_1 : Rd (kI .u64) w V0_1 a0.Stored) (V0_2 : Value) (R0_2 : Rd (kI .u64) w V0_2 a0.Sent) (V0_3 : Value) (R0_3 : Rd kB w V0_3 a0.Flushed) (V0_4 : Value) (R0_4 : Rd (kI .i64) w V0_4 a0.Plan) (b_0 : Blk w G_0 65 [Seg.cell V0_0 R0_0.one, Seg.cell V0_1 R0_1.one, Seg.cell V0_2 R0_2.one, Seg.cell V0_3 R0_3.one, Seg.cell V0_4 R0_4.one, Seg.cell (.int .i64 a0.Since), Seg.cell (.int .i64 a0.Left), Seg.cell (.int .i64 a0.Steps)]) (r : Int) (h : rickyardref06_Count.f fu a0 = some r) :
    Calls Try.prog 62 (([.pointer (some ⟨G_0, 0, none⟩)] : List Value).toArray) w (fun e w' => ∃ v, e = .returned v ∧ v = .int .i64 r ∧ Gr w w') := by
  unfold rickyardref06_Count.f at h
  have fB : Gr w w := Fr.refl _ _
  refine calls_cw Try.func62 rfl Try.ntmps62 rfl ?_
  refine cw_seq ?_
  refine cw_region ?_
  refine ol_val (v := .int .i64 0) (by exact xr_assign rfl rfl) rfl rfl rfl ?_
  refine ol_nil ?_
  refine cw_seq ?_
  refine cw_region ?_
  refine ol_val (v := .pointer (some ⟨G_0, 0, none⟩)) (by exact xr_move rfl rfl) rfl rfl rfl ?_
  obtain ⟨t1, k2, h⟩ := bs h
  refine ol_op (by exact opv_call rfl cal47 (ac rfl an) (rickyardref05_Device_Fates.ok fu _ a0 G_0 V0_0 (R0_0.gr fB) V0_1 (R0_1.gr fB) V0_2 (R0_2.gr fB) V0_3 (R0_3.gr fB) V0_4 (R0_4.gr fB) b_0 _ k2)) rfl rfl rfl ?_
  rintro u3 w7 ⟨_, o4, rfl, q6⟩
  have o4 := Own.base o4 fB.size
  have b_0 := b_0.gr q6
  have fB := fB.gr q6
  refine ol_val (v := u3) (by exact xr_assign rfl rfl) rfl rfl rfl ?_
  refine ol_nil ?_
  refine cw_seq ?_
  refine cw_region ?_
  refine ol_val (v := .int .i64 1) (by exact xr_assign rfl rfl) rfl rfl rfl ?_
  refine ol_nil ?_
  refine cw_seq ?_
  refine cw_seq ?_
  refine cw_region ?_
  refine ol_val (v := .int .i64 0) (by exact xr_assign rfl rfl) rfl rfl rfl ?_
  refine ol_nil ?_
  obtain ⟨e9, l10, h11⟩ := bs h
  refine cw_mid (fun ρ' w' => ρ' 4 = .int .i64 e9 ∧ Blk w' G_0 65 [Seg.cell V0_0 R0_0.one, Seg.cell V0_1 R0_1.one, Seg.cell V0_2 R0_2.one, Seg.cell V0_3 R0_3.one, Seg.cell V0_4 R0_4.one, Seg.cell (.int .i64 a0.Since), Seg.cell (.int .i64 a0.Left), Seg.cell (.int .i64 a0.Steps)] ∧ Gr w w') ?_ ?_
  · refine cw_block ?_
    refine cw_round (fun (s8 : Int × Int) ρ' w' => ∃ o4 : Own k_api_Fate 55 w' w.heap.size u3 t1, ρ' 3 = u3 ∧ ρ' 4 = .int .i64 s8.1 ∧ ρ' 5 = .int .i64 s8.2 ∧ Blk w' G_0 65 [Seg.cell V0_0 R0_0.one, Seg.cell V0_1 R0_1.one, Seg.cell V0_2 R0_2.one, Seg.cell V0_3 R0_3.one, Seg.cell V0_4 R0_4.one, Seg.cell (.int .i64 a0.Since), Seg.cell (.int .i64 a0.Left), Seg.cell (.int .i64 a0.Steps)] ∧ Gr w w') l10 ?_ ?_
    · skip
      exact ⟨o4, rfl, rfl, rfl, b_0, fB⟩
    · rintro s8 x14 ρ12 w13 ⟨o4, e3, e4, e5, b_0, fB⟩ h
      unfold rickyardref06_Count.s0 at h
      refine cw_seq ?_
      refine cw_seq ?_
      refine cw_region ?_
      refine ol_val (v := .int .i64 s8.2) (by exact xr_move rfl e5) rfl rfl rfl ?_
      refine ol_val (v := u3) (by exact xr_move rfl e3) rfl rfl rfl ?_
      refine ol_val (v := .int .i64 (List.length t1 : Int)) (by exact xr_lenR rfl Try.underlying52 rfl o4.rd) rfl rfl rfl ?_
      refine ol_val (v := .bool (decide (s8.2 < (List.length t1 : Int)))) (by exact xr_lss rfl rfl rfl) rfl rfl rfl ?_
      refine ol_nil ?_
      rcases is h with ⟨c15, h⟩ | ⟨c15, h⟩
      · refine cw_condT rfl c15 ?_
        refine cw_skip ?_
        refine cw_seq ?_
        refine cw_block ?_
        refine cw_seq ?_
        refine cw_region ?_
        refine ol_val (v := .int .i64 s8.1) (by exact xr_move rfl e4) rfl rfl rfl ?_
        refine ol_val (v := u3) (by exact xr_move rfl e3) rfl rfl rfl ?_
        refine ol_val (v := .int .i64 s8.2) (by exact xr_move rfl e5) rfl rfl rfl ?_
        obtain ⟨g16, h⟩ := gs h
        refine ol_val (v := .pointer (some ⟨(sb u3), so u3 + Int.toNat s8.2 * 5, none⟩)) (by exact xr_indexR (K := k_api_Fate) (v := u3) rfl Try.underlying52 sz55 rfl o4.rd rfl g16.1 g16.2) rfl rfl rfl ?_
        refine ol_val (v := aggV [Seg.cell (.int .i64 ((ix t1 s8.2).At)), Seg.cell (.int .u64 ((ix t1 s8.2).Lasts)), Seg.cell (.bool ((ix t1 s8.2).Flushed)), Seg.cell (.int .u64 ((ix t1 s8.2).Sent)), Seg.cell (.int .u64 ((ix t1 s8.2).Stored))]) (by exact xr_loadS (ss := [Seg.cell (.int .i64 ((ix t1 s8.2).At)), Seg.cell (.int .u64 ((ix t1 s8.2).Lasts)), Seg.cell (.bool ((ix t1 s8.2).Flushed)), Seg.cell (.int .u64 ((ix t1 s8.2).Sent)), Seg.cell (.int .u64 ((ix t1 s8.2).Stored))]) rfl ag55 sz55 rfl rfl (o4.rd.elem g16.1 g16.2)) rfl rfl rfl ?_
        obtain ⟨t17, k18, h⟩ := bs h
        refine ol_op (by exact opv_call rfl cal51 (ac rfl an) (rickyardref06_Values.ok fu _ (ix t1 s8.2) _ k18)) rfl rfl rfl ?_
        rintro u19 w23 ⟨_, o20, rfl, q22⟩
        have o20 := Own.base o20 fB.size
        have b_0 := b_0.gr q22
        have o4 := o4.gr q22
        have fB := fB.gr q22
        refine ol_val (v := .int .i64 (List.length t17 : Int)) (by exact xr_lenR rfl Try.underlying46 rfl o20.rd) rfl rfl rfl ?_
        refine ol_val (v := .int .i64 (IntKind.i64.wrap (s8.1 * (List.length t17 : Int)))) (by exact xr_mul rfl rfl rfl) rfl rfl rfl ?_
        refine ol_val (v := .int .i64 (IntKind.i64.wrap (s8.1 * (List.length t17 : Int)))) (by exact xr_assign rfl rfl) rfl rfl rfl ?_
        refine ol_nil ?_
        refine cw_seq ?_
        refine cw_region ?_
        refine ol_val (v := .int .i64 (IntKind.i64.wrap (s8.1 * (List.length t17 : Int)))) (by exact xr_move rfl rfl) rfl rfl rfl ?_
        refine ol_val (v := .bool (decide ((IntKind.i64.wrap (s8.1 * (List.length t17 : Int))) > 1099511627776))) (by exact xr_gtr rfl rfl rfl) rfl rfl rfl ?_
        refine ol_nil ?_
        obtain ⟨x24, j25, h26⟩ := bs h
        refine cw_mid (fun ρ' w' => ∃ o4 : Own k_api_Fate 55 w' w.heap.size u3 t1, ρ' 3 = u3 ∧ ρ' 4 = .int .i64 x24 ∧ ρ' 5 = .int .i64 s8.2 ∧ Blk w' G_0 65 [Seg.cell V0_0 R0_0.one, Seg.cell V0_1 R0_1.one, Seg.cell V0_2 R0_2.one, Seg.cell V0_3 R0_3.one, Seg.cell V0_4 R0_4.one, Seg.cell (.int .i64 a0.Since), Seg.cell (.int .i64 a0.Left), Seg.cell (.int .i64 a0.Steps)] ∧ Gr w w') ?_ ?_
        · have h := j25
          rcases is h with ⟨c27, h⟩ | ⟨c27, h⟩
          · refine cw_condT rfl c27 ?_
            refine cw_region ?_
            refine ol_val (v := .int .i64 1099511627776) (by exact xr_assign rfl rfl) rfl rfl rfl ?_
            refine ol_nil ?_
            obtain rfl := Option.some.inj h
            refine thn_i ?_
            exact ⟨o4, e3, rfl, e5, b_0, fB⟩
          · refine cw_condF rfl c27 ?_
            refine cw_skip ?_
            obtain rfl := Option.some.inj h
            refine thn_i ?_
            exact ⟨o4, e3, rfl, e5, b_0, fB⟩
        · rintro ρ28 w29 ⟨o4, e3, e4, e5, b_0, fB⟩
          have h := h26
          refine blk_i ?_
          refine cw_region ?_
          refine ol_val (v := .int .i64 s8.2) (by exact xr_move rfl e5) rfl rfl rfl ?_
          refine ol_val (v := .int .i64 (IntKind.i64.wrap (s8.2 + 1))) (by exact xr_add rfl rfl rfl) rfl rfl rfl ?_
          refine ol_val (v := .int .i64 (IntKind.i64.wrap (s8.2 + 1))) (by exact xr_assign rfl rfl) rfl rfl rfl ?_
          refine ol_nil ?_
          obtain rfl := Option.some.inj h
          refine lp_in ?_
          exact ⟨o4, e3, e4, rfl, b_0, fB⟩
      · refine cw_condF rfl c15 ?_
        refine cw_exit ?_
        repeat (first | with_reducible refine thn_e ?_ | with_reducible refine blk_e rfl ?_)
        obtain rfl := Option.some.inj h
        refine lp_exit ?_
        rintro rfl
        refine thn_x ?_
        exact ⟨e4, b_0, fB⟩
  · rintro ρ30 w31 ⟨e4, b_0, fB⟩
    have h := h11
    refine cw_seq ?_
    refine cw_region ?_
    refine ol_val (v := .int .i64 e9) (by exact xr_move rfl e4) rfl rfl rfl ?_
    refine ol_val (v := .int .i64 e9) (by exact xr_assign rfl rfl) rfl rfl rfl ?_
    refine ol_nil ?_
    refine cw_ret ?_
    repeat (first | with_reducible refine thn_r ?_ | with_reducible refine blk_r ?_)
    obtain rfl := Option.some.inj h
    refine fin_ret1 Try.results62 rfl ?_
    exact ⟨_, rfl, rfl, fB⟩
end Go.Proofs.Ytklhbaghbmndeaa

/- (*rickyard/rickyardref05.Device).Fates: its model, and that the Go function computes it: written by gen.py. -/
set_option linter.unusedVariables false
namespace Go.Proofs.Ytklhbaghbmndeaa
open Go Go.Xw
def rickyardref05_Device_Fates__n0.s0 (fu : Nat) : ((List S_api_Fate) × Int) → Option (Sum Unit ((List S_api_Fate) × Int)) := fun s4 => none
def rickyardref05_Device_Fates__n0.f (fu : Nat) : Option (List S_api_Fate) := ((loopM (rickyardref05_Device_Fates__n0.s0 fu) fu ([], 0)).bind fun e5 => some ([]))
set_option maxRecDepth 100000 in
set_option maxHeartbeats 400000 in
theorem rickyardref05_Device_Fates__n0.ok (fu : Nat) (w : World)  (r : (List S_api_Fate)) (h : rickyardref05_Device_Fates__n0.f fu = some r) :
    Calls Try.prog 47 (([.pointer none] : List Value).toArray) w (fun e w' => ∃ v, e = .returned v ∧ ∃ u1 : Value, ∃ o2 : Own k_api_Fate 55 w' w.heap.size u1 r, v = u1 ∧ Gr w w') := by
  unfold rickyardref05_Device_Fates__n0.f at h
  have fB : Gr w w := Fr.refl _ _
  refine calls_cw Try.func47 rfl Try.ntmps47 rfl ?_
  refine cw_seq ?_
  refine cw_region ?_
  refine ol_val (v := .slice none 0 0) (by exact xr_assign rfl rfl) rfl rfl rfl ?_
  refine ol_nil ?_
  refine cw_seq ?_
  refine cw_region ?_
  refine ol_val (v := .slice none 0 0) (by exact xr_assign rfl rfl) rfl rfl rfl ?_
  refine ol_nil ?_
  refine cw_seq ?_
  refine cw_seq ?_
  refine cw_region ?_
  refine ol_val (v := .int .i64 0) (by exact xr_assign rfl rfl) rfl rfl rfl ?_
  refine ol_nil ?_
  obtain ⟨e5, l6, h7⟩ := bs h
  refine cw_mid (fun ρ' w' => ρ' 3 = .slice none 0 0 ∧ Gr w w') ?_ ?_
  · refine cw_block ?_
    refine cw_round (fun (s4 : (List S_api_Fate) × Int) ρ' w' => ∃ v8 : Value, ∃ o9 : Own k_api_Fate 55 w' w.heap.size v8 s4.1, ρ' 0 = .pointer none ∧ ρ' 3 = v8 ∧ ρ' 4 = .int .i64 s4.2 ∧ Gr w w') l6 ?_ ?_
    · skip
      exact ⟨(.slice none 0 0), Own.nil _ _ _ _, rfl, rfl, rfl, fB⟩
    · rintro s4 x13 ρ11 w12 ⟨v8, o9, e0, e3, e4, fB⟩ h
      unfold rickyardref05_Device_Fates__n0.s0 at h
      refine cw_seq ?_
      refine cw_seq ?_
      refine cw_region ?_
      refine ol_val (v := .int .i64 s4.2) (by exact xr_move rfl e4) rfl rfl rfl ?_
      refine ol_val (v := .pointer none) (by exact xr_move rfl e0) rfl rfl rfl ?_
      cases h
  · rintro ρ14 w15 ⟨e3, fB⟩
    have h := h7
    refine cw_seq ?_
    refine cw_region ?_
    refine ol_val (v := .slice none 0 0) (by exact xr_move rfl e3) rfl rfl rfl ?_
    refine ol_val (v := .slice none 0 0) (by exact xr_assign rfl rfl) rfl rfl rfl ?_
    refine ol_nil ?_
    refine cw_ret ?_
    repeat (first | with_reducible refine thn_r ?_ | with_reducible refine blk_r ?_)
    obtain rfl := Option.some.inj h
    refine fin_ret1 Try.results47 rfl ?_
    exact ⟨_, rfl, (.slice none 0 0), Own.nil _ _ _ _, rfl, fB⟩
end Go.Proofs.Ytklhbaghbmndeaa

/- rickyard/rickyardref06.Count: its model, and that the Go function computes it: written by gen.py. -/
set_option linter.unusedVariables false
namespace Go.Proofs.Ytklhbaghbmndeaa
open Go Go.Xw
def rickyardref06_Count__n0.s0 (fu : Nat) (t1 : (List S_api_Fate)) : (Int × Int) → Option (Sum Int (Int × Int)) := fun s8 => (if (decide (s8.2 < (List.length t1 : Int))) = true then (if 0 ≤ s8.2 ∧ s8.2 < (List.length t1 : Int) then ((rickyardref06_Values.f fu (ix t1 s8.2) : Option (List Int)).bind fun t17 => (((if (decide ((IntKind.i64.wrap (s8.1 * (List.length t17 : Int))) > 1099511627776)) = true then some (1099511627776) else some ((IntKind.i64.wrap (s8.1 * (List.length t17 : Int))))) : Option Int).bind fun x24 => some (Sum.inr (x24, (IntKind.i64.wrap (s8.2 + 1)))))) else none) else some (Sum.inl (s8.1)))
def rickyardref06_Count__n0.f (fu : Nat) : Option Int := ((rickyardref05_Device_Fates__n0.f fu : Option (List S_api_Fate)).bind fun t1 => ((loopM (rickyardref06_Count__n0.s0 fu t1) fu (1, 0)).bind fun e9 => some (e9)))
set_option maxRecDepth 100000 in
set_option maxHeartbeats 400000 in
theorem rickyardref06_Count__n0.ok (fu : Nat) (w : World)  (r : Int) (h : rickyardref06_Count__n0.f fu = some r) :
    Calls Try.prog 62 (([.pointer none] : List Value).toArray) w (fun e w' => ∃ v, e = .returned v ∧ v = .int .i64 r ∧ Gr w w') := by
  unfold rickyardref06_Count__n0.f at h
  have fB : Gr w w := Fr.refl _ _
  refine calls_cw Try.func62 rfl Try.ntmps62 rfl ?_
  refine cw_seq ?_
  refine cw_region ?_
  refine ol_val (v := .int .i64 0) (by exact xr_assign rfl rfl) rfl rfl rfl ?_
  refine ol_nil ?_
  refine cw_seq ?_
  refine cw_region ?_
  refine ol_val (v := .pointer none) (by exact xr_move rfl rfl) rfl rfl rfl ?_
  obtain ⟨t1, k2, h⟩ := bs h
  refine ol_op (by exact opv_call rfl cal47 (ac rfl an) (rickyardref05_Device_Fates__n0.ok fu _ _ k2)) rfl rfl rfl ?_
  rintro u3 w7 ⟨_, o4, rfl, q6⟩
  have o4 := Own.base o4 fB.size
  have fB := fB.gr q6
  refine ol_val (v := u3) (by exact xr_assign rfl rfl) rfl rfl rfl ?_
  refine ol_nil ?_
  refine cw_seq ?_
  refine cw_region ?_
  refine ol_val (v := .int .i64 1) (by exact xr_assign rfl rfl) rfl rfl rfl ?_
  refine ol_nil ?_
  refine cw_seq ?_
  refine cw_seq ?_
  refine cw_region ?_
  refine ol_val (v := .int .i64 0) (by exact xr_assign rfl rfl) rfl rfl rfl ?_
  refine ol_nil ?_
  obtain ⟨e9, l10, h11⟩ := bs h
  refine cw_mid (fun ρ' w' => ρ' 4 = .int .i64 e9 ∧ Gr w w') ?_ ?_
  · refine cw_block ?_
    refine cw_round (fun (s8 : Int × Int) ρ' w' => ∃ o4 : Own k_api_Fate 55 w' w.heap.size u3 t1, ρ' 3 = u3 ∧ ρ' 4 = .int .i64 s8.1 ∧ ρ' 5 = .int .i64 s8.2 ∧ Gr w w') l10 ?_ ?_
    · skip
      exact ⟨o4, rfl, rfl, rfl, fB⟩
    · rintro s8 x14 ρ12 w13 ⟨o4, e3, e4, e5, fB⟩ h
      unfold rickyardref06_Count__n0.s0 at h
      refine cw_seq ?_
      refine cw_seq ?_
      refine cw_region ?_
      refine ol_val (v := .int .i64 s8.2) (by exact xr_move rfl e5) rfl rfl rfl ?_
      refine ol_val (v := u3) (by exact xr_move rfl e3) rfl rfl rfl ?_
      refine ol_val (v := .int .i64 (List.length t1 : Int)) (by exact xr_lenR rfl Try.underlying52 rfl o4.rd) rfl rfl rfl ?_
      refine ol_val (v := .bool (decide (s8.2 < (List.length t1 : Int)))) (by exact xr_lss rfl rfl rfl) rfl rfl rfl ?_
      refine ol_nil ?_
      rcases is h with ⟨c15, h⟩ | ⟨c15, h⟩
      · refine cw_condT rfl c15 ?_
        refine cw_skip ?_
        refine cw_seq ?_
        refine cw_block ?_
        refine cw_seq ?_
        refine cw_region ?_
        refine ol_val (v := .int .i64 s8.1) (by exact xr_move rfl e4) rfl rfl rfl ?_
        refine ol_val (v := u3) (by exact xr_move rfl e3) rfl rfl rfl ?_
        refine ol_val (v := .int .i64 s8.2) (by exact xr_move rfl e5) rfl rfl rfl ?_
        obtain ⟨g16, h⟩ := gs h
        refine ol_val (v := .pointer (some ⟨(sb u3), so u3 + Int.toNat s8.2 * 5, none⟩)) (by exact xr_indexR (K := k_api_Fate) (v := u3) rfl Try.underlying52 sz55 rfl o4.rd rfl g16.1 g16.2) rfl rfl rfl ?_
        refine ol_val (v := aggV [Seg.cell (.int .i64 ((ix t1 s8.2).At)), Seg.cell (.int .u64 ((ix t1 s8.2).Lasts)), Seg.cell (.bool ((ix t1 s8.2).Flushed)), Seg.cell (.int .u64 ((ix t1 s8.2).Sent)), Seg.cell (.int .u64 ((ix t1 s8.2).Stored))]) (by exact xr_loadS (ss := [Seg.cell (.int .i64 ((ix t1 s8.2).At)), Seg.cell (.int .u64 ((ix t1 s8.2).Lasts)), Seg.cell (.bool ((ix t1 s8.2).Flushed)), Seg.cell (.int .u64 ((ix t1 s8.2).Sent)), Seg.cell (.int .u64 ((ix t1 s8.2).Stored))]) rfl ag55 sz55 rfl rfl (o4.rd.elem g16.1 g16.2)) rfl rfl rfl ?_
        obtain ⟨t17, k18, h⟩ := bs h
        refine ol_op (by exact opv_call rfl cal51 (ac rfl an) (rickyardref06_Values.ok fu _ (ix t1 s8.2) _ k18)) rfl rfl rfl ?_
        rintro u19 w23 ⟨_, o20, rfl, q22⟩
        have o20 := Own.base o20 fB.size
        have o4 := o4.gr q22
        have fB := fB.gr q22
        refine ol_val (v := .int .i64 (List.length t17 : Int)) (by exact xr_lenR rfl Try.underlying46 rfl o20.rd) rfl rfl rfl ?_
        refine ol_val (v := .int .i64 (IntKind.i64.wrap (s8.1 * (List.length t17 : Int)))) (by exact xr_mul rfl rfl rfl) rfl rfl rfl ?_
        refine ol_val (v := .int .i64 (IntKind.i64.wrap (s8.1 * (List.length t17 : Int)))) (by exact xr_assign rfl rfl) rfl rfl rfl ?_
        refine ol_nil ?_
        refine cw_seq ?_
        refine cw_region ?_
        refine ol_val (v := .int .i64 (IntKind.i64.wrap (s8.1 * (List.length t17 : Int)))) (by exact xr_move rfl rfl) rfl rfl rfl ?_
        refine ol_val (v := .bool (decide ((IntKind.i64.wrap (s8.1 * (List.length t17 : Int))) > 1099511627776))) (by exact xr_gtr rfl rfl rfl) rfl rfl rfl ?_
        refine ol_nil ?_
        obtain ⟨x24, j25, h26⟩ := bs h
        refine cw_mid (fun ρ' w' => ∃ o4 : Own k_api_Fate 55 w' w.heap.size u3 t1, ρ' 3 = u3 ∧ ρ' 4 = .int .i64 x24 ∧ ρ' 5 = .int .i64 s8.2 ∧ Gr w w') ?_ ?_
        · have h := j25
          rcases is h with ⟨c27, h⟩ | ⟨c27, h⟩
          · refine cw_condT rfl c27 ?_
            refine cw_region ?_
            refine ol_val (v := .int .i64 1099511627776) (by exact xr_assign rfl rfl) rfl rfl rfl ?_
            refine ol_nil ?_
            obtain rfl := Option.some.inj h
            refine thn_i ?_
            exact ⟨o4, e3, rfl, e5, fB⟩
          · refine cw_condF rfl c27 ?_
            refine cw_skip ?_
            obtain rfl := Option.some.inj h
            refine thn_i ?_
            exact ⟨o4, e3, rfl, e5, fB⟩
        · rintro ρ28 w29 ⟨o4, e3, e4, e5, fB⟩
          have h := h26
          refine blk_i ?_
          refine cw_region ?_
          refine ol_val (v := .int .i64 s8.2) (by exact xr_move rfl e5) rfl rfl rfl ?_
          refine ol_val (v := .int .i64 (IntKind.i64.wrap (s8.2 + 1))) (by exact xr_add rfl rfl rfl) rfl rfl rfl ?_
          refine ol_val (v := .int .i64 (IntKind.i64.wrap (s8.2 + 1))) (by exact xr_assign rfl rfl) rfl rfl rfl ?_
          refine ol_nil ?_
          obtain rfl := Option.some.inj h
          refine lp_in ?_
          exact ⟨o4, e3, e4, rfl, fB⟩
      · refine cw_condF rfl c15 ?_
        refine cw_exit ?_
        repeat (first | with_reducible refine thn_e ?_ | with_reducible refine blk_e rfl ?_)
        obtain rfl := Option.some.inj h
        refine lp_exit ?_
        rintro rfl
        refine thn_x ?_
        exact ⟨e4, fB⟩
  · rintro ρ30 w31 ⟨e4, fB⟩
    have h := h11
    refine cw_seq ?_
    refine cw_region ?_
    refine ol_val (v := .int .i64 e9) (by exact xr_move rfl e4) rfl rfl rfl ?_
    refine ol_val (v := .int .i64 e9) (by exact xr_assign rfl rfl) rfl rfl rfl ?_
    refine ol_nil ?_
    refine cw_ret ?_
    repeat (first | with_reducible refine thn_r ?_ | with_reducible refine blk_r ?_)
    obtain rfl := Option.some.inj h
    refine fin_ret1 Try.results62 rfl ?_
    exact ⟨_, rfl, rfl, fB⟩
end Go.Proofs.Ytklhbaghbmndeaa

/- rickyard/rickyardlaw06.FateCounts: its model, and that the Go function computes it: written by gen.py. -/
set_option linter.unusedVariables false
namespace Go.Proofs.Ytklhbaghbmndeaa
open Go Go.Xw
def rickyardlaw06_FateCounts.f (fu : Nat) (a0 : Int) (a1 : List S_rickyardlaw05_Act) : Option Bool := ((rickyardlaw06_awake.f fu : Option Bool).bind fun t1 => (if (!t1) = true then some (false) else ((rickyardlaw06_made.f fu a0 a1 : Option ((Option S_pmem_Device) × (Option S_rickyardref05_Device))).bind fun t6 => (Option.elim t6.1 (Option.elim t6.2 (some (true)) (fun m17 => some (true))) (fun m15 => (Option.elim t6.2 ((((fate_Count.f fu m15 : Option Int).bind fun t56 => ((rickyardref06_Count__n0.f fu : Option Int).bind fun t60 => some ((decide (t56 = t60))))) : Option Bool).bind fun x54 => some (x54)) (fun m53 => ((((fate_Count.f fu m15 : Option Int).bind fun t92 => ((rickyardref06_Count.f fu m53 : Option Int).bind fun t96 => some ((decide (t92 = t96))))) : Option Bool).bind fun x90 => some (x90)))))))))
set_option maxRecDepth 100000 in
set_option maxHeartbeats 400000 in
theorem rickyardlaw06_FateCounts.ok (fu : Nat) (w : World) (a0 : Int) (a1 : List S_rickyardlaw05_Act) (V1_0 : Value) (R1_0 : RdN 4 D_rickyardlaw05_Act w V1_0 a1) (r : Bool) (h : rickyardlaw06_FateCounts.f fu a0 a1 = some r) :
    Calls Try.prog 14 (([.int .u8 a0, V1_0] : List Value).toArray) w (fun e w' => ∃ v, e = .returned v ∧ v = .bool r ∧ Gr w w') := by
  unfold rickyardlaw06_FateCounts.f at h
  have fB : Gr w w := Fr.refl _ _
  refine calls_cw Try.func14 rfl Try.ntmps14 rfl ?_
  refine cw_seq ?_
  refine cw_region ?_
  refine ol_val (v := .bool false) (by exact xr_assign rfl rfl) rfl rfl rfl ?_
  refine ol_nil ?_
  refine cw_seq ?_
  refine cw_seq ?_
  refine cw_region ?_
  obtain ⟨t1, k2, h⟩ := bs h
  refine ol_op (by exact opv_call rfl cal49 an (rickyardlaw06_awake.ok fu _ _ k2)) rfl rfl rfl ?_
  rintro _ w4 ⟨rfl, q3⟩
  have fB := fB.gr q3
  refine ol_val (v := .bool (!t1)) (by exact xr_not rfl rfl) rfl rfl rfl ?_
  refine ol_nil ?_
  rcases is h with ⟨c5, h⟩ | ⟨c5, h⟩
  · refine cw_condT rfl c5 ?_
    refine cw_seq ?_
    refine cw_region ?_
    refine ol_val (v := .bool false) (by exact xr_assign rfl rfl) rfl rfl rfl ?_
    refine ol_nil ?_
    refine cw_ret ?_
    repeat (first | with_reducible refine thn_r ?_ | with_reducible refine blk_r ?_)
    obtain rfl := Option.some.inj h
    refine fin_ret1 Try.results14 rfl ?_
    exact ⟨_, rfl, rfl, fB⟩
  · refine cw_condF rfl c5 ?_
    refine cw_skip ?_
    refine cw_seq ?_
    refine cw_region ?_
    refine ol_val (v := .int .u8 a0) (by exact xr_move rfl rfl) rfl rfl rfl ?_
    refine ol_val (v := V1_0) (by exact xr_move rfl rfl) rfl rfl rfl ?_
    obtain ⟨t6, k7, h⟩ := bs h
    refine ol_op (by exact opv_call rfl cal60 (ac rfl (ac rfl an)) (rickyardlaw06_made.ok fu _ a0 a1 V1_0 (RdN.gr R1_0 D_rickyardlaw05_Act.gr fB) _ k7)) rfl rfl rfl ?_
    rintro _ w13 ⟨u8, u10, p9, p11, rfl, q12⟩
    rcases en h with ⟨e14, h⟩ | ⟨m15, e14, h⟩
    · obtain rfl := p9.1 e14
      rcases en h with ⟨e16, h⟩ | ⟨m17, e16, h⟩
      · obtain rfl := p11.1 e16
        have fB := fB.gr q12
        refine ol_val (v := .tuple #[.pointer none, .pointer none]) (by exact xr_move rfl rfl) rfl rfl rfl ?_
        refine ol_val (v := .pointer none) (by exact xr_extract rfl rfl rfl) rfl rfl rfl ?_
        refine ol_val (v := .pointer none) (by exact xr_extract rfl rfl rfl) rfl rfl rfl ?_
        refine ol_val (v := .pointer none) (by exact xr_assign rfl rfl) rfl rfl rfl ?_
        refine ol_val (v := .pointer none) (by exact xr_assign rfl rfl) rfl rfl rfl ?_
        refine ol_nil ?_
        refine cw_seq ?_
        refine cw_mid (fun ρ' w' => ρ' 4 = .bool true ∧ w13 = w') ?_ ?_
        · skip
          refine cw_region ?_
          refine ol_val (v := .pointer none) (by exact xr_move rfl rfl) rfl rfl rfl ?_
          refine ol_val (v := .bool true) (by exact xr_eqP (b := true) rfl Try.underlying30 rfl rfl (by simp) (by simp)) rfl rfl rfl ?_
          refine ol_val (v := .bool true) (by exact xr_move rfl rfl) rfl rfl rfl ?_
          refine ol_gskip rfl rfl rfl rfl rfl rfl ?_
          refine ol_gskip rfl rfl rfl rfl rfl rfl ?_
          refine ol_gskip rfl rfl rfl rfl rfl rfl ?_
          refine ol_gskip rfl rfl rfl rfl rfl rfl ?_
          refine ol_gskip rfl rfl rfl rfl rfl rfl ?_
          refine ol_val (v := .bool true) (by exact xr_pickT rfl rfl rfl rfl) rfl rfl rfl ?_
          refine ol_val (v := .bool true) (by exact xr_assign rfl rfl) rfl rfl rfl ?_
          refine ol_nil ?_
          refine thn_i ?_
          exact ⟨rfl, rfl⟩
        · skip
          rintro ρ18 _ ⟨e4, rfl⟩
          refine cw_ret ?_
          repeat (first | with_reducible refine thn_r ?_ | with_reducible refine blk_r ?_)
          obtain rfl := Option.some.inj h
          refine fin_ret1 Try.results14 e4 ?_
          exact ⟨_, rfl, rfl, fB⟩
      · skip
        obtain ⟨G19, u23, u26, u29, u32, u35, o24, o27, o30, o33, o36, a38, a39, a40, rfl, z20, b21⟩ := p11.2 _ e16
        have o24 := Own.base o24 fB.size
        have o27 := Own.base o27 fB.size
        have o30 := Own.base o30 fB.size
        have o33 := Own.base o33 fB.size
        have o36 := Own.base o36 fB.size
        have z20 := Nat.le_trans fB.size z20
        have fB := fB.gr q12
        refine ol_val (v := .tuple #[.pointer none, .pointer (some ⟨G19, 0, none⟩)]) (by exact xr_move rfl rfl) rfl rfl rfl ?_
        refine ol_val (v := .pointer none) (by exact xr_extract rfl rfl rfl) rfl rfl rfl ?_
        refine ol_val (v := .pointer (some ⟨G19, 0, none⟩)) (by exact xr_extract rfl rfl rfl) rfl rfl rfl ?_
        refine ol_val (v := .pointer none) (by exact xr_assign rfl rfl) rfl rfl rfl ?_
        refine ol_val (v := .pointer (some ⟨G19, 0, none⟩)) (by exact xr_assign rfl rfl) rfl rfl rfl ?_
        refine ol_nil ?_
        refine cw_seq ?_
        refine cw_mid (fun ρ' w' => ρ' 4 = .bool true ∧ w13 = w') ?_ ?_
        · skip
          refine cw_region ?_
          refine ol_val (v := .pointer none) (by exact xr_move rfl rfl) rfl rfl rfl ?_
          refine ol_val (v := .bool true) (by exact xr_eqP (b := true) rfl Try.underlying30 rfl rfl (by simp) (by simp)) rfl rfl rfl ?_
          refine ol_val (v := .bool true) (by exact xr_move rfl rfl) rfl rfl rfl ?_
          refine ol_gskip rfl rfl rfl rfl rfl rfl ?_
          refine ol_gskip rfl rfl rfl rfl rfl rfl ?_
          refine ol_gskip rfl rfl rfl rfl rfl rfl ?_
          refine ol_gskip rfl rfl rfl rfl rfl rfl ?_
          refine ol_gskip rfl rfl rfl rfl rfl rfl ?_
          refine ol_val (v := .bool true) (by exact xr_pickT rfl rfl rfl rfl) rfl rfl rfl ?_
          refine ol_val (v := .bool true) (by exact xr_assign rfl rfl) rfl rfl rfl ?_
          refine ol_nil ?_
          refine thn_i ?_
          exact ⟨rfl, rfl⟩
        · skip
          rintro ρ41 _ ⟨e4, rfl⟩
          refine cw_ret ?_
          repeat (first | with_reducible refine thn_r ?_ | with_reducible refine blk_r ?_)
          obtain rfl := Option.some.inj h
          refine fin_ret1 Try.results14 e4 ?_
          exact ⟨_, rfl, rfl, fB⟩
    · skip
      obtain ⟨G42, u46, u49, o47, o50, rfl, z43, b44⟩ := p9.2 _ e14
      rcases en h with ⟨e52, h⟩ | ⟨m53, e52, h⟩
      · obtain rfl := p11.1 e52
        have o47 := Own.base o47 fB.size
        have o50 := Own.base o50 fB.size
        have z43 := Nat.le_trans fB.size z43
        have fB := fB.gr q12
        refine ol_val (v := .tuple #[.pointer (some ⟨G42, 0, none⟩), .pointer none]) (by exact xr_move rfl rfl) rfl rfl rfl ?_
        refine ol_val (v := .pointer (some ⟨G42, 0, none⟩)) (by exact xr_extract rfl rfl rfl) rfl rfl rfl ?_
        refine ol_val (v := .pointer none) (by exact xr_extract rfl rfl rfl) rfl rfl rfl ?_
        refine ol_val (v := .pointer (some ⟨G42, 0, none⟩)) (by exact xr_assign rfl rfl) rfl rfl rfl ?_
        refine ol_val (v := .pointer none) (by exact xr_assign rfl rfl) rfl rfl rfl ?_
        refine ol_nil ?_
        refine cw_seq ?_
        obtain ⟨x54, j55, h⟩ := bs h
        refine cw_mid (fun ρ' w' => ρ' 4 = .bool x54 ∧ Gr w13 w') ?_ ?_
        · skip
          refine cw_region ?_
          refine ol_val (v := .pointer (some ⟨G42, 0, none⟩)) (by exact xr_move rfl rfl) rfl rfl rfl ?_
          refine ol_val (v := .bool false) (by exact xr_eqP (b := false) rfl Try.underlying30 rfl rfl (by simp) (by simp)) rfl rfl rfl ?_
          refine ol_val (v := .bool false) (by exact xr_move rfl rfl) rfl rfl rfl ?_
          refine ol_gval (v := .pointer (some ⟨G42, 0, none⟩)) (by exact xr_move rfl rfl) rfl rfl rfl rfl rfl rfl ?_
          obtain ⟨t56, k57, j55⟩ := bs j55
          refine ol_gop (by exact opv_call rfl cal61 (ac rfl an) (fate_Count.ok fu _ m15 G42 u46 (o47.rd) u49 (o50.rd) b44 _ k57)) rfl rfl rfl rfl rfl rfl ?_
          rintro _ w59 ⟨rfl, q58⟩
          have fB := fB.gr q58
          refine ol_gval (v := .pointer none) (by exact xr_move rfl rfl) rfl rfl rfl rfl rfl rfl ?_
          obtain ⟨t60, k61, j55⟩ := bs j55
          refine ol_gop (by exact opv_call rfl cal62 (ac rfl an) (rickyardref06_Count__n0.ok fu _ _ k61)) rfl rfl rfl rfl rfl rfl ?_
          rintro _ w63 ⟨rfl, q62⟩
          have fB := fB.gr q62
          refine ol_gval (v := .bool (decide (t56 = t60))) (by exact xr_eqI rfl Try.underlying3 rfl rfl rfl) rfl rfl rfl rfl rfl rfl ?_
          refine ol_val (v := .bool (decide (t56 = t60))) (by exact xr_pickF rfl rfl rfl rfl) rfl rfl rfl ?_
          refine ol_val (v := .bool (decide (t56 = t60))) (by exact xr_assign rfl rfl) rfl rfl rfl ?_
          refine ol_nil ?_
          obtain rfl := Option.some.inj j55
          refine thn_i ?_
          exact ⟨rfl, (q58.gr q62)⟩
        · skip
          rintro ρ64 w65 ⟨e4, q66⟩
          have fB := fB.gr q66
          refine cw_ret ?_
          repeat (first | with_reducible refine thn_r ?_ | with_reducible refine blk_r ?_)
          obtain rfl := Option.some.inj h
          refine fin_ret1 Try.results14 e4 ?_
          exact ⟨_, rfl, rfl, fB⟩
      · skip
        obtain ⟨G67, u71, u74, u77, u80, u83, o72, o75, o78, o81, o84, a86, a87, a88, rfl, z68, b69⟩ := p11.2 _ e52
        have o47 := Own.base o47 fB.size
        have o50 := Own.base o50 fB.size
        have o72 := Own.base o72 fB.size
        have o75 := Own.base o75 fB.size
        have o78 := Own.base o78 fB.size
        have o81 := Own.base o81 fB.size
        have o84 := Own.base o84 fB.size
        have z43 := Nat.le_trans fB.size z43
        have z68 := Nat.le_trans fB.size z68
        have fB := fB.gr q12
        have n89 := Blk.neT b44 b69 (by decide)
        refine ol_val (v := .tuple #[.pointer (some ⟨G42, 0, none⟩), .pointer (some ⟨G67, 0, none⟩)]) (by exact xr_move rfl rfl) rfl rfl rfl ?_
        refine ol_val (v := .pointer (some ⟨G42, 0, none⟩)) (by exact xr_extract rfl rfl rfl) rfl rfl rfl ?_
        refine ol_val (v := .pointer (some ⟨G67, 0, none⟩)) (by exact xr_extract rfl rfl rfl) rfl rfl rfl ?_
        refine ol_val (v := .pointer (some ⟨G42, 0, none⟩)) (by exact xr_assign rfl rfl) rfl rfl rfl ?_
        refine ol_val (v := .pointer (some ⟨G67, 0, none⟩)) (by exact xr_assign rfl rfl) rfl rfl rfl ?_
        refine ol_nil ?_
        refine cw_seq ?_
        obtain ⟨x90, j91, h⟩ := bs h
        refine cw_mid (fun ρ' w' => ρ' 4 = .bool x90 ∧ Gr w13 w') ?_ ?_
        · skip
          refine cw_region ?_
          refine ol_val (v := .pointer (some ⟨G42, 0, none⟩)) (by exact xr_move rfl rfl) rfl rfl rfl ?_
          refine ol_val (v := .bool false) (by exact xr_eqP (b := false) rfl Try.underlying30 rfl rfl (by simp) (by simp)) rfl rfl rfl ?_
          refine ol_val (v := .bool false) (by exact xr_move rfl rfl) rfl rfl rfl ?_
          refine ol_gval (v := .pointer (some ⟨G42, 0, none⟩)) (by exact xr_move rfl rfl) rfl rfl rfl rfl rfl rfl ?_
          obtain ⟨t92, k93, j91⟩ := bs j91
          refine ol_gop (by exact opv_call rfl cal61 (ac rfl an) (fate_Count.ok fu _ m15 G42 u46 (o47.rd) u49 (o50.rd) b44 _ k93)) rfl rfl rfl rfl rfl rfl ?_
          rintro _ w95 ⟨rfl, q94⟩
          have b69 := b69.gr q94
          have o72 := o72.gr q94
          have o75 := o75.gr q94
          have o78 := o78.gr q94
          have o81 := o81.gr q94
          have o84 := o84.gr q94
          have fB := fB.gr q94
          refine ol_gval (v := .pointer (some ⟨G67, 0, none⟩)) (by exact xr_move rfl rfl) rfl rfl rfl rfl rfl rfl ?_
          obtain ⟨t96, k97, j91⟩ := bs j91
          refine ol_gop (by exact opv_call rfl cal62 (ac rfl an) (rickyardref06_Count.ok fu _ m53 G67 u71 (o72.rd) u74 (o75.rd) u77 (o78.rd) u80 (o81.rd) u83 (o84.rd) b69 _ k97)) rfl rfl rfl rfl rfl rfl ?_
          rintro _ w99 ⟨rfl, q98⟩
          have fB := fB.gr q98
          refine ol_gval (v := .bool (decide (t92 = t96))) (by exact xr_eqI rfl Try.underlying3 rfl rfl rfl) rfl rfl rfl rfl rfl rfl ?_
          refine ol_val (v := .bool (decide (t92 = t96))) (by exact xr_pickF rfl rfl rfl rfl) rfl rfl rfl ?_
          refine ol_val (v := .bool (decide (t92 = t96))) (by exact xr_assign rfl rfl) rfl rfl rfl ?_
          refine ol_nil ?_
          obtain rfl := Option.some.inj j91
          refine thn_i ?_
          exact ⟨rfl, (q94.gr q98)⟩
        · skip
          rintro ρ100 w101 ⟨e4, q102⟩
          have fB := fB.gr q102
          refine cw_ret ?_
          repeat (first | with_reducible refine thn_r ?_ | with_reducible refine blk_r ?_)
          obtain rfl := Option.some.inj h
          refine fin_ret1 Try.results14 e4 ?_
          exact ⟨_, rfl, rfl, fB⟩
end Go.Proofs.Ytklhbaghbmndeaa

/- What a row's arguments are: the readings of arguments opened into records, lists and their facts. -/
set_option linter.unusedVariables false
set_option linter.unusedSimpArgs false
namespace Go.Xw
open Go
variable {P : Program} {w : World}
def Opn {α : Type} (P : Program) (w : World) (T : TypeId) (K : Kd α) (ok : α → Prop) : Prop :=
  ∀ {H : Type} (enc : TypeId × Value → H) (base : Nat) (sp : Nat → Bool) (held : Bool) (fuel : Nat) (cs : List Value) (x : DataW H × List MemPlace), DataW.trod enc P w base sp held fuel T cs = some x → ∃ a : α, cs = K.enc a ∧ ok a
theorem opn_int {T : TypeId} {k : IntKind} (ht : P.underlying T = some (.int k)) : Opn P w T (kI k) (fun n => (Lit.int k n).wf = true) := by
  intro H enc base sp held fuel cs x h
  obtain ⟨n, rfl, _, hw⟩ := DataW.trod_int ht h
  exact ⟨n, rfl, hw⟩
theorem opn_bool {T : TypeId} (ht : P.underlying T = some .bool) : Opn P w T kB (fun _ => True) := by
  intro H enc base sp held fuel cs x h
  obtain ⟨b, rfl, _⟩ := DataW.trod_bool ht h
  exact ⟨b, rfl, trivial⟩
theorem opn_str {T : TypeId} (ht : P.underlying T = some .string) : Opn P w T kS (fun l => l.length ≤ maxLen) := by
  intro H enc base sp held fuel cs x h
  obtain ⟨⟨⟨l⟩⟩, rfl, _, hs⟩ := DataW.trod_string ht h
  exact ⟨l, rfl, by simpa [ByteArray.size] using hs⟩
theorem chunks {α : Type} (K : Kd α) (ok : α → Prop) : ∀ (n : Nat) (cs : List Value), cs.length = n * K.size → (∀ i, i < n → ∃ a, (cs.drop (i * K.size)).take K.size = K.enc a ∧ ok a) → ∃ l : List α, l.length = n ∧ cs = l.flatMap K.enc ∧ ∀ a ∈ l, ok a
  | 0, cs, hl, _ => ⟨[], rfl, by simpa using hl, by simp⟩
  | n + 1, cs, hl, h => by
    obtain ⟨a, ha, hok⟩ := h 0 (by omega)
    rw [Nat.zero_mul, List.drop_zero] at ha
    have hl' : cs.length = n * K.size + K.size := by rw [hl, Nat.succ_mul]
    obtain ⟨l, h1, h2, h3⟩ := chunks K ok n (cs.drop K.size) (by rw [List.length_drop]; omega) (fun i hi => by
      have := h (i + 1) (by omega)
      rw [List.drop_drop, Nat.add_comm, ← Nat.succ_mul]
      exact this)
    refine ⟨a :: l, by simp [h1], ?_, ?_⟩
    · rw [List.flatMap_cons, ← h2, ← ha, List.take_append_drop]
    · intro b hb
      rcases List.mem_cons.1 hb with rfl | hb
      · exact hok
      · exact h3 b hb
theorem ms_len {α β : Type} {f : α → Option β} : ∀ {l : List α} {ys : List β}, l.mapM f = some ys → ys.length = l.length
  | [], ys, h => by simp at h; subst h; rfl
  | a :: l, ys, h => by
    rw [List.mapM_cons] at h
    obtain ⟨b, _, h⟩ := Option.bind_eq_some_iff.1 h
    obtain ⟨bs, hb, h⟩ := Option.bind_eq_some_iff.1 h
    simp at h
    subst h
    simp [ms_len hb]
theorem ms_get {α β : Type} {f : α → Option β} : ∀ {l : List α} {ys : List β}, l.mapM f = some ys → ∀ (i : Nat) (a : α), l[i]? = some a → ∃ y, ys[i]? = some y ∧ f a = some y
  | [], ys, h, i, a, ha => by simp at ha
  | b :: l, ys, h, i, a, ha => by
    rw [List.mapM_cons] at h
    obtain ⟨c, hc, h⟩ := Option.bind_eq_some_iff.1 h
    obtain ⟨bs, hb, h⟩ := Option.bind_eq_some_iff.1 h
    simp at h
    subst h
    cases i with
    | zero =>
      simp at ha
      subst ha
      exact ⟨c, rfl, hc⟩
    | succ i =>
      simp at ha
      obtain ⟨y, h1, h2⟩ := ms_get hb i a ha
      exact ⟨y, by simpa using h1, h2⟩
theorem trod_arr {H : Type} {enc : TypeId × Value → H} {base : Nat} {sp : Nat → Bool} {held : Bool} {fuel : Nat} {T e : TypeId} {n : Nat} {cs : List Value} {x : DataW H × List MemPlace} (ht : P.underlying T = some (.array n e)) (h : DataW.trod enc P w base sp held fuel T cs = some x) :
    cs.length = P.cellsOf T ∧ ∃ m, ∀ i, i < n → ∃ y, DataW.trod enc P w base sp held m e ((cs.drop (i * P.cellsOf e)).take (P.cellsOf e)) = some y := by
  cases fuel with
  | zero => simp [DataW.trod] at h
  | succ m =>
    unfold DataW.trod at h
    rw [ht] at h
    simp only at h
    split at h
    · rename_i hl
      refine ⟨hl, m, fun i hi => ?_⟩
      obtain ⟨xs, hx, _⟩ := Option.map_eq_some_iff.1 h
      obtain ⟨y, _, hy⟩ := ms_get hx i i (by simp [hi])
      exact ⟨y, hy⟩
    · cases h
theorem opn_arr {α : Type} {K : Kd α} {ok : α → Prop} {T e : TypeId} {n : Nat} (ht : P.underlying T = some (.array n e)) (hc : P.cellsOf T = n * P.cellsOf e) (he : P.cellsOf e = K.size) (ho : Opn P w e K ok) : Opn P w T (kA n K) (fun a => ∀ x ∈ a.l, ok x) := by
  intro H enc base sp held fuel cs x h
  obtain ⟨hl, m, hm⟩ := trod_arr ht h
  obtain ⟨l, h1, h2, h3⟩ := chunks K ok n cs (by rw [hl, hc, he]) (fun i hi => by
    obtain ⟨y, hy⟩ := hm i hi
    obtain ⟨a, ha⟩ := ho enc base sp held m _ y hy
    rw [he] at ha
    exact ⟨a, ha⟩)
  exact ⟨⟨l, h1⟩, h2, h3⟩
/-- The fields of a struct, one behind another. -/
theorem fld_cons {cs : List Value} {o n : Nat} {c r : List Value} (h : (cs.drop o).take n = c) (hr : cs.drop (o + n) = r) : cs.drop o = c ++ r := by
  rw [← h, ← hr, ← List.drop_drop, List.take_append_drop]
theorem trod_st {H : Type} {enc : TypeId × Value → H} {base : Nat} {sp : Nat → Bool} {held : Bool} {fuel : Nat} {T : TypeId} {fs : Array Field} {cs : List Value} {x : DataW H × List MemPlace} (ht : P.underlying T = some (.struct fs)) (h : DataW.trod enc P w base sp held fuel T cs = some x) :
    cs.length = P.cellsOf T ∧ ∃ m, ∀ (i : Nat) (f : Field), fs[i]? = some f → ∃ y, DataW.trod enc P w base sp held m f.type ((cs.drop f.offset).take (P.cellsOf f.type)) = some y := by
  obtain ⟨xs, m, _, _, hl, hn, hf⟩ := DataW.trod_struct ht h
  refine ⟨hl, m, fun i f hi => ?_⟩
  have hx : i < xs.length := by rw [hn]; exact (Array.getElem?_eq_some_iff.1 hi).1
  exact ⟨xs[i], by rw [hf i f hi, List.getElem?_eq_getElem hx]⟩
/-- Slices: a cell that reads as a list. -/
def OpnS {α : Type} (P : Program) (w : World) (T : TypeId) (K : Kd α) (ok : α → Prop) : Prop :=
  ∀ {H : Type} (enc : TypeId × Value → H) (base : Nat) (sp : Nat → Bool) (held : Bool) (fuel : Nat) (cs : List Value) (x : DataW H × List MemPlace), DataW.trod enc P w base sp held fuel T cs = some x → ∃ (l : List α) (V : Value), cs = [V] ∧ Rd K w V l ∧ (∀ a ∈ l, ok a) ∧ l.length ≤ maxLen ∧ (sb V < w.heap.size ∨ l = [])
theorem cells_get {base : Nat} {a : Addr} {n : Nat} {cs : List Value} (h : w.cells? base a n = some cs) : cs.length = n ∧ ∀ j, j < n → w.cell? (a.add j) = cs[j]? := by
  unfold World.cells? at h
  split at h
  · refine ⟨by simpa using ms_len h, fun j hj => ?_⟩
    obtain ⟨y, h1, h2⟩ := ms_get h j j (by simp [hj])
    rw [h1, h2]
  · cases h
theorem opn_slice {α : Type} {K : Kd α} {ok : α → Prop} {T e : TypeId} (ht : P.underlying T = some (.slice e)) (he : P.cellsOf e = K.size) (hk : 0 < K.size) (ho : Opn P w e K ok) : OpnS P w T K ok := by
  intro H enc base sp held fuel cs x h
  rcases DataW.trod_slice ht h with ⟨rfl, _⟩ | ⟨a, len, cap, elems, rest, n, rfl, rfl, _, _, hl, hm, hlen, hel, _, _⟩
  · exact ⟨[], _, rfl, Rd.nil K w, by simp, by simp, .inr rfl⟩
  · have hex : ∀ i, i < len → ∃ b, (∀ j z, (K.enc b)[j]? = some z → w.cell? (a.add (i * K.size + j)) = some z) ∧ ok b := by
      intro i hi
      have h1 := hel i hi
      rw [List.getElem?_eq_getElem (by omega)] at h1
      obtain ⟨cs, h2, h3⟩ := Option.bind_eq_some_iff.1 h1
      obtain ⟨b, rfl, hb⟩ := ho enc base sp held n cs _ h3
      obtain ⟨h4, h5⟩ := cells_get h2
      rw [he] at h4 h5
      refine ⟨b, fun j z hz => ?_, hb⟩
      have hj : j < K.size := by rw [← h4]; exact (List.getElem?_eq_some_iff.1 hz).1
      have := h5 j hj
      rw [hz] at this
      rw [← this]
      congr 1
      unfold Addr.add
      by_cases hi0 : i * K.size = 0
      · by_cases hj0 : j = 0
        · simp [hi0, hj0]
        · simp [hi0, hj0]
      · by_cases hj0 : j = 0
        · simp [hi0, hj0]
        · have : i * K.size + j ≠ 0 := by omega
          simp [hi0, hj0, this, Nat.add_assoc]
    have hlist : ∀ m, m ≤ len → ∃ l : List α, l.length = m ∧ (∀ b ∈ l, ok b) ∧ ∀ j z, (l.flatMap K.enc)[j]? = some z → w.cell? (a.add j) = some z := by
      intro m
      induction m with
      | zero => intro _; exact ⟨[], rfl, by simp, by simp⟩
      | succ m ih =>
        intro hm
        obtain ⟨l, h1, h2, h3⟩ := ih (by omega)
        obtain ⟨b, h4, h5⟩ := hex m (by omega)
        refine ⟨l ++ [b], by simp [h1], ?_, ?_⟩
        · intro c hc
          rcases List.mem_append.1 hc with hc | hc
          · exact h2 c hc
          · obtain rfl := List.mem_singleton.1 hc
            exact h5
        · intro j z hz
          have hL : (l.flatMap K.enc).length = m * K.size := by rw [len_flat, h1]
          simp only [List.flatMap_append, List.flatMap_cons, List.flatMap_nil, List.append_nil] at hz
          by_cases hj : j < m * K.size
          · rw [List.getElem?_append_left (by omega)] at hz
            exact h3 j z hz
          · rw [List.getElem?_append_right (by omega), hL] at hz
            have := h4 (j - m * K.size) z hz
            rwa [show m * K.size + (j - m * K.size) = j from by omega] at this
    obtain ⟨l, h1, h2, h3⟩ := hlist len (Nat.le_refl _)
    have hpos : 0 < l.length → ∃ z, w.cell? a = some z := by
      intro hp
      cases l with
      | nil => simp at hp
      | cons b l =>
        have hb : (K.enc b).length = K.size := K.len b
        have : ∃ z, ((b :: l).flatMap K.enc)[0]? = some z := ⟨_, List.getElem?_eq_getElem (by simp [List.flatMap_cons, hb]; omega)⟩
        obtain ⟨z, hz⟩ := this
        have := h3 0 z hz
        exact ⟨z, by simpa [Addr.add] using this⟩
    refine ⟨l, _, rfl, ⟨some a, cap, by rw [h1], by omega, fun hp => ?_⟩, h2, by omega, ?_⟩
    · obtain ⟨z, hz⟩ := hpos hp
      obtain ⟨b, o, s⟩ := a
      have hs : s = none := by
        unfold World.cell? at hz
        split at hz
        · cases s with
          | none => rfl
          | some _ => simp at hz
        · cases hz
      subst hs
      refine ⟨b, o, rfl, fun j v hv => ?_⟩
      have := h3 j v hv
      rwa [Addr.add_lit] at this
    · rcases Nat.eq_zero_or_pos l.length with h0 | hp
      · exact .inr (List.eq_nil_of_length_eq_zero h0)
      · obtain ⟨z, hz⟩ := hpos hp
        refine .inl ?_
        unfold World.cell? at hz
        split at hz
        · rename_i hh
          exact (Array.getElem?_eq_some_iff.1 hh).1
        · cases hz
theorem agg_of {T : TypeId} {v : Value} {cs : List Value} {base : Nat} (h : aggB P T = some true) (hv : Value.okWide P w .any base T v) (hc : v.cells.toList = cs) : v = .agg cs.toArray := by
  unfold aggB at h
  obtain ⟨d, hu, hd⟩ := Option.map_eq_some_iff.1 h
  unfold Value.okWide at hv
  rw [hu] at hv
  cases d <;> simp at hd <;> (obtain ⟨c2, rfl, _⟩ := hv; subst hc; simp [Value.cells])
end Go.Xw

/- What a row's arguments are: slices of records that hold slices. -/
set_option linter.unusedVariables false
set_option linter.unusedSimpArgs false
namespace Go.Xw
open Go
theorem opn_sliceN {P : Program} {w : World} {α : Type} {n : Nat} {D : World → List Value → α → Prop} {ok : α → Prop} {T e : TypeId} (ht : P.underlying T = some (.slice e)) (he : P.cellsOf e = n) (hk : 0 < n)
    (ho : ∀ {H : Type} (enc : TypeId × Value → H) (base : Nat) (sp : Nat → Bool) (held : Bool) (fuel : Nat) (cs : List Value) (x : DataW H × List MemPlace), DataW.trod enc P w base sp held fuel e cs = some x → ∃ a : α, D w cs a ∧ ok a ∧ cs.length = n ∧ ∀ v ∈ cs, v.oneCell' = true)
    {H : Type} (enc : TypeId × Value → H) (base : Nat) (sp : Nat → Bool) (held : Bool) (fuel : Nat) (cs : List Value) (x : DataW H × List MemPlace) (h : DataW.trod enc P w base sp held fuel T cs = some x) :
    ∃ (l : List α) (V : Value), cs = [V] ∧ RdN n D w V l ∧ (∀ a ∈ l, ok a) ∧ l.length ≤ maxLen ∧ (sb V < w.heap.size ∨ l = []) := by
  let β := { p : { l : List Value // l.length = n ∧ ∀ v ∈ l, v.oneCell' = true } × α // D w p.1.1 p.2 ∧ ok p.2 }
  let K : Kd β := ⟨fun p => p.1.1.1, n, fun p => p.1.1.2.1, fun p => p.1.1.2.2⟩
  have hp : Opn P w e K (fun _ => True) := by
    intro H enc base sp held fuel cs x h
    obtain ⟨a, hd, hok, hl, h1⟩ := ho enc base sp held fuel cs x h
    exact ⟨⟨(⟨cs, hl, h1⟩, a), hd, hok⟩, rfl, trivial⟩
  obtain ⟨l, V, e1, r, _, hm, hs⟩ := opn_slice (K := K) ht he hk hp enc base sp held fuel cs x h
  refine ⟨l.map (fun p => p.1.2), V, e1, ⟨l.map (fun p => p.1.1), ?_, by simp, ?_⟩, ?_, by simpa using hm, ?_⟩
  · obtain ⟨A, c, rfl, hc, hr⟩ := r
    refine ⟨A, c, by simp, by simpa using hc, fun hpos => ?_⟩
    obtain ⟨b, o, ea, hat⟩ := hr (by simpa using hpos)
    refine ⟨b, o, ea, ?_⟩
    rw [List.flatMap_map]
    exact hat
  · intro i h1 h2
    have hi : i < l.length := by simpa using h1
    simp only [List.getElem_map]
    exact (l[i]).2.1
  · intro a ha
    obtain ⟨p, _, rfl⟩ := List.mem_map.1 ha
    exact p.2.2
  · rcases hs with hs | rfl
    · exact .inl hs
    · exact .inr rfl
end Go.Xw

/- What the laws' arguments open into: written by rows.py. -/
set_option linter.unusedVariables false
set_option linter.unusedSimpArgs false
namespace Go.Proofs.Ytklhbaghbmndeaa
open Go Go.Xw
def ok_rickyardlaw05_Act (a : S_rickyardlaw05_Act) : Prop := (Lit.int .i64 a.Kind).wf = true ∧ (Lit.int .i64 a.At).wf = true ∧ (Lit.int .u64 a.W).wf = true ∧ ((∀ x ∈ a.L, (Lit.int .i64 x).wf = true) ∧ List.length a.L ≤ maxLen)
theorem opn_rickyardlaw05_Act {w : World} {H : Type} (enc : TypeId × Value → H) (base : Nat) (sp : Nat → Bool) (held : Bool) (fuel : Nat) (cs : List Value) (x : DataW H × List MemPlace) (h : DataW.trod enc Try.prog w base sp held fuel 39 cs = some x) : ∃ a : S_rickyardlaw05_Act, ∃ V0 : Value, ∃ R0 : Rd (kI .i64) w V0 a.L, cs = cellsOf [Seg.cell (.int .i64 a.Kind), Seg.cell (.int .i64 a.At), Seg.cell (.int .u64 a.W), Seg.cell V0 R0.one] ∧ ok_rickyardlaw05_Act a := by
  obtain ⟨hl, m, hf⟩ := trod_st Try.underlying39 h
  obtain ⟨y0, h0⟩ := hf 0 _ rfl
  have c0 : Try.prog.cellsOf 3 = 1 := by kernel_rfl
  obtain ⟨b0, e0, o0⟩ := (opn_int Try.underlying3) enc base sp held m _ y0 h0
  have e0 : (cs.drop 0).take 1 = (kI .i64).enc b0 := (congrArg (fun n => (cs.drop 0).take n) c0).symm.trans e0
  obtain ⟨y1, h1⟩ := hf 1 _ rfl
  have c1 : Try.prog.cellsOf 3 = 1 := by kernel_rfl
  obtain ⟨b1, e1, o1⟩ := (opn_int Try.underlying3) enc base sp held m _ y1 h1
  have e1 : (cs.drop 1).take 1 = (kI .i64).enc b1 := (congrArg (fun n => (cs.drop 1).take n) c1).symm.trans e1
  obtain ⟨y2, h2⟩ := hf 2 _ rfl
  have c2 : Try.prog.cellsOf 22 = 1 := by kernel_rfl
  obtain ⟨b2, e2, o2⟩ := (opn_int Try.underlying22) enc base sp held m _ y2 h2
  have e2 : (cs.drop 2).take 1 = (kI .u64).enc b2 := (congrArg (fun n => (cs.drop 2).take n) c2).symm.trans e2
  obtain ⟨y3, h3⟩ := hf 3 _ rfl
  have c3 : Try.prog.cellsOf 25 = 1 := by kernel_rfl
  obtain ⟨b3, W3, e3, r3, o3, l3, _⟩ := (opn_slice (K := (kI .i64)) Try.underlying25 (by kernel_rfl) (by decide) (opn_int Try.underlying3)) enc base sp held m _ y3 h3
  have e3 : (cs.drop 3).take 1 = [W3] := (congrArg (fun n => (cs.drop 3).take n) c3).symm.trans e3
  have hn : cs.drop 4 = [] := List.drop_eq_nil_of_le (by rw [hl]; exact Nat.le_of_eq (by kernel_rfl))
  have hc : cs = (kI .i64).enc b0 ++ ((kI .i64).enc b1 ++ ((kI .u64).enc b2 ++ ([W3] ++ []))) := (fld_cons (o := 0) (n := 1) e0 (fld_cons (o := 1) (n := 1) e1 (fld_cons (o := 2) (n := 1) e2 (fld_cons (o := 3) (n := 1) e3 hn))))
  refine ⟨⟨b0, b1, b2, b3⟩, W3, r3, ?_, o0, o1, o2, ⟨o3, l3⟩⟩
  rw [hc]
  simp [kA, kI, kB, kS, kT, cellsOf, Seg.cell, Kd.seg]
def ok_rickyardlaw05_Fenced (a : S_rickyardlaw05_Fenced) : Prop := (Lit.int .i64 a.Line).wf = true ∧ (∀ x ∈ a.Ws.l, (Lit.int .u64 x).wf = true) ∧ ((∀ x ∈ a.Acts, ok_rickyardlaw05_Act x) ∧ List.length a.Acts ≤ maxLen) ∧ ((∀ x ∈ a.L, (Lit.int .i64 x).wf = true) ∧ List.length a.L ≤ maxLen)
theorem opn_rickyardlaw05_Fenced {w : World} {H : Type} (enc : TypeId × Value → H) (base : Nat) (sp : Nat → Bool) (held : Bool) (fuel : Nat) (cs : List Value) (x : DataW H × List MemPlace) (h : DataW.trod enc Try.prog w base sp held fuel 27 cs = some x) : ∃ a : S_rickyardlaw05_Fenced, ∃ V0 : Value, ∃ V1 : Value, ∃ R0 : RdN 4 D_rickyardlaw05_Act w V0 a.Acts, ∃ R1 : Rd (kI .i64) w V1 a.L, cs = cellsOf [Seg.cell (.int .i64 a.Line), Kd.seg (kA 8 (kI .u64)) a.Ws, Seg.cell V0 R0.one, Seg.cell V1 R1.one] ∧ ok_rickyardlaw05_Fenced a := by
  obtain ⟨hl, m, hf⟩ := trod_st Try.underlying27 h
  obtain ⟨y0, h0⟩ := hf 0 _ rfl
  have c0 : Try.prog.cellsOf 3 = 1 := by kernel_rfl
  obtain ⟨b0, e0, o0⟩ := (opn_int Try.underlying3) enc base sp held m _ y0 h0
  have e0 : (cs.drop 0).take 1 = (kI .i64).enc b0 := (congrArg (fun n => (cs.drop 0).take n) c0).symm.trans e0
  obtain ⟨y1, h1⟩ := hf 1 _ rfl
  have c1 : Try.prog.cellsOf 23 = 8 := by kernel_rfl
  obtain ⟨b1, e1, o1⟩ := (opn_arr Try.underlying23 (by kernel_rfl) (by kernel_rfl) (opn_int Try.underlying22)) enc base sp held m _ y1 h1
  have e1 : (cs.drop 1).take 8 = (kA 8 (kI .u64)).enc b1 := (congrArg (fun n => (cs.drop 1).take n) c1).symm.trans e1
  obtain ⟨y2, h2⟩ := hf 2 _ rfl
  have c2 : Try.prog.cellsOf 24 = 1 := by kernel_rfl
  obtain ⟨b2, W2, e2, r2, o2, l2, _⟩ := (opn_sliceN (n := 4) (D := D_rickyardlaw05_Act) (ok := ok_rickyardlaw05_Act) (w := w) Try.underlying24 (by kernel_rfl) (by decide) (fun enc base sp held fuel cs x h => by obtain ⟨a, V0, R0, e, o⟩ := opn_rickyardlaw05_Act enc base sp held fuel cs x h; exact ⟨a, ⟨V0, R0, e⟩, o, by rw [e, len_cellsOf]; rfl, by rw [e]; exact one_cellsOf _⟩)) enc base sp held m _ y2 h2
  have e2 : (cs.drop 9).take 1 = [W2] := (congrArg (fun n => (cs.drop 9).take n) c2).symm.trans e2
  obtain ⟨y3, h3⟩ := hf 3 _ rfl
  have c3 : Try.prog.cellsOf 25 = 1 := by kernel_rfl
  obtain ⟨b3, W3, e3, r3, o3, l3, _⟩ := (opn_slice (K := (kI .i64)) Try.underlying25 (by kernel_rfl) (by decide) (opn_int Try.underlying3)) enc base sp held m _ y3 h3
  have e3 : (cs.drop 10).take 1 = [W3] := (congrArg (fun n => (cs.drop 10).take n) c3).symm.trans e3
  have hn : cs.drop 11 = [] := List.drop_eq_nil_of_le (by rw [hl]; exact Nat.le_of_eq (by kernel_rfl))
  have hc : cs = (kI .i64).enc b0 ++ ((kA 8 (kI .u64)).enc b1 ++ ([W2] ++ ([W3] ++ []))) := (fld_cons (o := 0) (n := 1) e0 (fld_cons (o := 1) (n := 8) e1 (fld_cons (o := 9) (n := 1) e2 (fld_cons (o := 10) (n := 1) e3 hn))))
  refine ⟨⟨b0, b1, b2, b3⟩, W2, W3, r2, r3, ?_, o0, o1, ⟨o2, l2⟩, ⟨o3, l3⟩⟩
  rw [hc]
  simp [kA, kI, kB, kS, kT, cellsOf, Seg.cell, Kd.seg]
def ok_api_Fate (a : S_api_Fate) : Prop := (Lit.int .i64 a.At).wf = true ∧ (Lit.int .u64 a.Lasts).wf = true ∧ True ∧ (Lit.int .u64 a.Sent).wf = true ∧ (Lit.int .u64 a.Stored).wf = true
theorem opn_api_Fate {w : World} : Opn Try.prog w 55 k_api_Fate ok_api_Fate := by
  intro H enc base sp held fuel cs x h
  obtain ⟨hl, m, hf⟩ := trod_st Try.underlying55 h
  obtain ⟨y0, h0⟩ := hf 0 _ rfl
  have c0 : Try.prog.cellsOf 3 = 1 := by kernel_rfl
  obtain ⟨b0, e0, o0⟩ := (opn_int Try.underlying3) enc base sp held m _ y0 h0
  have e0 : (cs.drop 0).take 1 = (kI .i64).enc b0 := (congrArg (fun n => (cs.drop 0).take n) c0).symm.trans e0
  obtain ⟨y1, h1⟩ := hf 1 _ rfl
  have c1 : Try.prog.cellsOf 22 = 1 := by kernel_rfl
  obtain ⟨b1, e1, o1⟩ := (opn_int Try.underlying22) enc base sp held m _ y1 h1
  have e1 : (cs.drop 1).take 1 = (kI .u64).enc b1 := (congrArg (fun n => (cs.drop 1).take n) c1).symm.trans e1
  obtain ⟨y2, h2⟩ := hf 2 _ rfl
  have c2 : Try.prog.cellsOf 4 = 1 := by kernel_rfl
  obtain ⟨b2, e2, o2⟩ := (opn_bool Try.underlying4) enc base sp held m _ y2 h2
  have e2 : (cs.drop 2).take 1 = kB.enc b2 := (congrArg (fun n => (cs.drop 2).take n) c2).symm.trans e2
  obtain ⟨y3, h3⟩ := hf 3 _ rfl
  have c3 : Try.prog.cellsOf 22 = 1 := by kernel_rfl
  obtain ⟨b3, e3, o3⟩ := (opn_int Try.underlying22) enc base sp held m _ y3 h3
  have e3 : (cs.drop 3).take 1 = (kI .u64).enc b3 := (congrArg (fun n => (cs.drop 3).take n) c3).symm.trans e3
  obtain ⟨y4, h4⟩ := hf 4 _ rfl
  have c4 : Try.prog.cellsOf 22 = 1 := by kernel_rfl
  obtain ⟨b4, e4, o4⟩ := (opn_int Try.underlying22) enc base sp held m _ y4 h4
  have e4 : (cs.drop 4).take 1 = (kI .u64).enc b4 := (congrArg (fun n => (cs.drop 4).take n) c4).symm.trans e4
  have hn : cs.drop 5 = [] := List.drop_eq_nil_of_le (by rw [hl]; exact Nat.le_of_eq (by kernel_rfl))
  have hc : cs = (kI .i64).enc b0 ++ ((kI .u64).enc b1 ++ (kB.enc b2 ++ ((kI .u64).enc b3 ++ ((kI .u64).enc b4 ++ [])))) := (fld_cons (o := 0) (n := 1) e0 (fld_cons (o := 1) (n := 1) e1 (fld_cons (o := 2) (n := 1) e2 (fld_cons (o := 3) (n := 1) e3 (fld_cons (o := 4) (n := 1) e4 hn)))))
  refine ⟨⟨b0, b1, b2, b3, b4⟩, ?_, o0, o1, o2, o3, o4⟩
  rw [hc]
  simp [kA, kI, kB, kS, kT, cellsOf, Seg.cell, Kd.seg, k_api_Fate, segs_api_Fate]
def ok_api_Geometry (a : S_api_Geometry) : Prop := (Lit.int .i64 a.Blocks).wf = true ∧ (Lit.int .i64 a.Slots).wf = true ∧ (Lit.int .i64 a.Gens).wf = true
theorem opn_api_Geometry {w : World} : Opn Try.prog w 106 k_api_Geometry ok_api_Geometry := by
  intro H enc base sp held fuel cs x h
  obtain ⟨hl, m, hf⟩ := trod_st Try.underlying106 h
  obtain ⟨y0, h0⟩ := hf 0 _ rfl
  have c0 : Try.prog.cellsOf 3 = 1 := by kernel_rfl
  obtain ⟨b0, e0, o0⟩ := (opn_int Try.underlying3) enc base sp held m _ y0 h0
  have e0 : (cs.drop 0).take 1 = (kI .i64).enc b0 := (congrArg (fun n => (cs.drop 0).take n) c0).symm.trans e0
  obtain ⟨y1, h1⟩ := hf 1 _ rfl
  have c1 : Try.prog.cellsOf 3 = 1 := by kernel_rfl
  obtain ⟨b1, e1, o1⟩ := (opn_int Try.underlying3) enc base sp held m _ y1 h1
  have e1 : (cs.drop 1).take 1 = (kI .i64).enc b1 := (congrArg (fun n => (cs.drop 1).take n) c1).symm.trans e1
  obtain ⟨y2, h2⟩ := hf 2 _ rfl
  have c2 : Try.prog.cellsOf 3 = 1 := by kernel_rfl
  obtain ⟨b2, e2, o2⟩ := (opn_int Try.underlying3) enc base sp held m _ y2 h2
  have e2 : (cs.drop 2).take 1 = (kI .i64).enc b2 := (congrArg (fun n => (cs.drop 2).take n) c2).symm.trans e2
  have hn : cs.drop 3 = [] := List.drop_eq_nil_of_le (by rw [hl]; exact Nat.le_of_eq (by kernel_rfl))
  have hc : cs = (kI .i64).enc b0 ++ ((kI .i64).enc b1 ++ ((kI .i64).enc b2 ++ [])) := (fld_cons (o := 0) (n := 1) e0 (fld_cons (o := 1) (n := 1) e1 (fld_cons (o := 2) (n := 1) e2 hn)))
  refine ⟨⟨b0, b1, b2⟩, ?_, o0, o1, o2⟩
  rw [hc]
  simp [kA, kI, kB, kS, kT, cellsOf, Seg.cell, Kd.seg, k_api_Fate, k_api_Geometry, k_api_Tickets, segs_api_Fate, segs_api_Geometry, segs_api_Tickets]
def ok_api_Tickets (a : S_api_Tickets) : Prop := ok_api_Geometry a.Geometry ∧ (Lit.int .i64 a.Top).wf = true ∧ (Lit.int .i64 a.High).wf = true ∧ (Lit.int .i64 a.Free).wf = true
theorem opn_api_Tickets {w : World} : Opn Try.prog w 108 k_api_Tickets ok_api_Tickets := by
  intro H enc base sp held fuel cs x h
  obtain ⟨hl, m, hf⟩ := trod_st Try.underlying108 h
  obtain ⟨y0, h0⟩ := hf 0 _ rfl
  have c0 : Try.prog.cellsOf 106 = 3 := by kernel_rfl
  obtain ⟨b0, e0, o0⟩ := (opn_api_Geometry (w := w)) enc base sp held m _ y0 h0
  have e0 : (cs.drop 0).take 3 = k_api_Geometry.enc b0 := (congrArg (fun n => (cs.drop 0).take n) c0).symm.trans e0
  obtain ⟨y1, h1⟩ := hf 1 _ rfl
  have c1 : Try.prog.cellsOf 3 = 1 := by kernel_rfl
  obtain ⟨b1, e1, o1⟩ := (opn_int Try.underlying3) enc base sp held m _ y1 h1
  have e1 : (cs.drop 3).take 1 = (kI .i64).enc b1 := (congrArg (fun n => (cs.drop 3).take n) c1).symm.trans e1
  obtain ⟨y2, h2⟩ := hf 2 _ rfl
  have c2 : Try.prog.cellsOf 3 = 1 := by kernel_rfl
  obtain ⟨b2, e2, o2⟩ := (opn_int Try.underlying3) enc base sp held m _ y2 h2
  have e2 : (cs.drop 4).take 1 = (kI .i64).enc b2 := (congrArg (fun n => (cs.drop 4).take n) c2).symm.trans e2
  obtain ⟨y3, h3⟩ := hf 3 _ rfl
  have c3 : Try.prog.cellsOf 3 = 1 := by kernel_rfl
  obtain ⟨b3, e3, o3⟩ := (opn_int Try.underlying3) enc base sp held m _ y3 h3
  have e3 : (cs.drop 5).take 1 = (kI .i64).enc b3 := (congrArg (fun n => (cs.drop 5).take n) c3).symm.trans e3
  have hn : cs.drop 6 = [] := List.drop_eq_nil_of_le (by rw [hl]; exact Nat.le_of_eq (by kernel_rfl))
  have hc : cs = k_api_Geometry.enc b0 ++ ((kI .i64).enc b1 ++ ((kI .i64).enc b2 ++ ((kI .i64).enc b3 ++ []))) := (fld_cons (o := 0) (n := 3) e0 (fld_cons (o := 3) (n := 1) e1 (fld_cons (o := 4) (n := 1) e2 (fld_cons (o := 5) (n := 1) e3 hn))))
  refine ⟨⟨b0, b1, b2, b3⟩, ?_, o0, o1, o2, o3⟩
  rw [hc]
  simp [kA, kI, kB, kS, kT, cellsOf, Seg.cell, Kd.seg, k_api_Fate, k_api_Geometry, k_api_Tickets, segs_api_Fate, segs_api_Geometry, segs_api_Tickets]
def ok_api_Super (a : S_api_Super) : Prop := (Lit.int .i64 a.Epoch).wf = true ∧ ok_api_Tickets a.Tickets ∧ (Lit.int .i64 a.Dir).wf = true ∧ ((∀ x ∈ a.Charts, (Lit.int .i64 x).wf = true) ∧ List.length a.Charts ≤ maxLen)
theorem opn_api_Super {w : World} {H : Type} (enc : TypeId × Value → H) (base : Nat) (sp : Nat → Bool) (held : Bool) (fuel : Nat) (cs : List Value) (x : DataW H × List MemPlace) (h : DataW.trod enc Try.prog w base sp held fuel 110 cs = some x) : ∃ a : S_api_Super, ∃ V0 : Value, ∃ R0 : Rd (kI .i64) w V0 a.Charts, cs = cellsOf [Seg.cell (.int .i64 a.Epoch), Seg.cell (.int .i64 a.Tickets.Geometry.Blocks), Seg.cell (.int .i64 a.Tickets.Geometry.Slots), Seg.cell (.int .i64 a.Tickets.Geometry.Gens), Seg.cell (.int .i64 a.Tickets.Top), Seg.cell (.int .i64 a.Tickets.High), Seg.cell (.int .i64 a.Tickets.Free), Seg.cell (.int .i64 a.Dir), Seg.cell V0 R0.one] ∧ ok_api_Super a := by
  obtain ⟨hl, m, hf⟩ := trod_st Try.underlying110 h
  obtain ⟨y0, h0⟩ := hf 0 _ rfl
  have c0 : Try.prog.cellsOf 3 = 1 := by kernel_rfl
  obtain ⟨b0, e0, o0⟩ := (opn_int Try.underlying3) enc base sp held m _ y0 h0
  have e0 : (cs.drop 0).take 1 = (kI .i64).enc b0 := (congrArg (fun n => (cs.drop 0).take n) c0).symm.trans e0
  obtain ⟨y1, h1⟩ := hf 1 _ rfl
  have c1 : Try.prog.cellsOf 108 = 6 := by kernel_rfl
  obtain ⟨b1, e1, o1⟩ := (opn_api_Tickets (w := w)) enc base sp held m _ y1 h1
  have e1 : (cs.drop 1).take 6 = k_api_Tickets.enc b1 := (congrArg (fun n => (cs.drop 1).take n) c1).symm.trans e1
  obtain ⟨y2, h2⟩ := hf 2 _ rfl
  have c2 : Try.prog.cellsOf 3 = 1 := by kernel_rfl
  obtain ⟨b2, e2, o2⟩ := (opn_int Try.underlying3) enc base sp held m _ y2 h2
  have e2 : (cs.drop 7).take 1 = (kI .i64).enc b2 := (congrArg (fun n => (cs.drop 7).take n) c2).symm.trans e2
  obtain ⟨y3, h3⟩ := hf 3 _ rfl
  have c3 : Try.prog.cellsOf 25 = 1 := by kernel_rfl
  obtain ⟨b3, W3, e3, r3, o3, l3, _⟩ := (opn_slice (K := (kI .i64)) Try.underlying25 (by kernel_rfl) (by decide) (opn_int Try.underlying3)) enc base sp held m _ y3 h3
  have e3 : (cs.drop 8).take 1 = [W3] := (congrArg (fun n => (cs.drop 8).take n) c3).symm.trans e3
  have hn : cs.drop 9 = [] := List.drop_eq_nil_of_le (by rw [hl]; exact Nat.le_of_eq (by kernel_rfl))
  have hc : cs = (kI .i64).enc b0 ++ (k_api_Tickets.enc b1 ++ ((kI .i64).enc b2 ++ ([W3] ++ []))) := (fld_cons (o := 0) (n := 1) e0 (fld_cons (o := 1) (n := 6) e1 (fld_cons (o := 7) (n := 1) e2 (fld_cons (o := 8) (n := 1) e3 hn))))
  refine ⟨⟨b0, b1, b2, b3⟩, W3, r3, ?_, o0, o1, o2, ⟨o3, l3⟩⟩
  rw [hc]
  simp [kA, kI, kB, kS, kT, cellsOf, Seg.cell, Kd.seg, k_api_Fate, k_api_Geometry, k_api_Tickets, segs_api_Fate, segs_api_Geometry, segs_api_Tickets]
def ok_rickyardlaw16_Cut (a : S_rickyardlaw16_Cut) : Prop := (Lit.int .u8 a.Steps).wf = true ∧ ((∀ x ∈ a.Plan, (Lit.int .i64 x).wf = true) ∧ List.length a.Plan ≤ maxLen) ∧ ((∀ x ∈ a.L, (Lit.int .i64 x).wf = true) ∧ List.length a.L ≤ maxLen)
theorem opn_rickyardlaw16_Cut {w : World} {H : Type} (enc : TypeId × Value → H) (base : Nat) (sp : Nat → Bool) (held : Bool) (fuel : Nat) (cs : List Value) (x : DataW H × List MemPlace) (h : DataW.trod enc Try.prog w base sp held fuel 129 cs = some x) : ∃ a : S_rickyardlaw16_Cut, ∃ V0 : Value, ∃ V1 : Value, ∃ R0 : Rd (kI .i64) w V0 a.Plan, ∃ R1 : Rd (kI .i64) w V1 a.L, cs = cellsOf [Seg.cell (.int .u8 a.Steps), Seg.cell V0 R0.one, Seg.cell V1 R1.one] ∧ ok_rickyardlaw16_Cut a := by
  obtain ⟨hl, m, hf⟩ := trod_st Try.underlying129 h
  obtain ⟨y0, h0⟩ := hf 0 _ rfl
  have c0 : Try.prog.cellsOf 5 = 1 := by kernel_rfl
  obtain ⟨b0, e0, o0⟩ := (opn_int Try.underlying5) enc base sp held m _ y0 h0
  have e0 : (cs.drop 0).take 1 = (kI .u8).enc b0 := (congrArg (fun n => (cs.drop 0).take n) c0).symm.trans e0
  obtain ⟨y1, h1⟩ := hf 1 _ rfl
  have c1 : Try.prog.cellsOf 25 = 1 := by kernel_rfl
  obtain ⟨b1, W1, e1, r1, o1, l1, _⟩ := (opn_slice (K := (kI .i64)) Try.underlying25 (by kernel_rfl) (by decide) (opn_int Try.underlying3)) enc base sp held m _ y1 h1
  have e1 : (cs.drop 1).take 1 = [W1] := (congrArg (fun n => (cs.drop 1).take n) c1).symm.trans e1
  obtain ⟨y2, h2⟩ := hf 2 _ rfl
  have c2 : Try.prog.cellsOf 25 = 1 := by kernel_rfl
  obtain ⟨b2, W2, e2, r2, o2, l2, _⟩ := (opn_slice (K := (kI .i64)) Try.underlying25 (by kernel_rfl) (by decide) (opn_int Try.underlying3)) enc base sp held m _ y2 h2
  have e2 : (cs.drop 2).take 1 = [W2] := (congrArg (fun n => (cs.drop 2).take n) c2).symm.trans e2
  have hn : cs.drop 3 = [] := List.drop_eq_nil_of_le (by rw [hl]; exact Nat.le_of_eq (by kernel_rfl))
  have hc : cs = (kI .u8).enc b0 ++ ([W1] ++ ([W2] ++ [])) := (fld_cons (o := 0) (n := 1) e0 (fld_cons (o := 1) (n := 1) e1 (fld_cons (o := 2) (n := 1) e2 hn)))
  refine ⟨⟨b0, b1, b2⟩, W1, W2, r1, r2, ?_, o0, ⟨o1, l1⟩, ⟨o2, l2⟩⟩
  rw [hc]
  simp [kA, kI, kB, kS, kT, cellsOf, Seg.cell, Kd.seg, k_api_Fate, k_api_Geometry, k_api_Tickets, segs_api_Fate, segs_api_Geometry, segs_api_Tickets]
end Go.Proofs.Ytklhbaghbmndeaa

/- Rows turned one by one. -/
set_option linter.unusedVariables false
set_option linter.unusedSimpArgs false
namespace Go.Proofs.Ytklhbaghbmndeaa.Pure
open Go Go.Xw
/-- Of the places from `lo` on the first `j`, each turned by `g`. -/
def upd {α : Type} (g : Nat → α → α) (lo j : Nat) (cs : List α) : List α := cs.mapIdx fun i c => if lo ≤ i ∧ i < lo + j then g i c else c
theorem upd_len {α : Type} (g : Nat → α → α) (lo j : Nat) (cs : List α) : (upd g lo j cs).length = cs.length := by simp [upd]
theorem upd_zero {α : Type} (g : Nat → α → α) (lo : Nat) (cs : List α) : upd g lo 0 cs = cs := by
  apply List.ext_getElem (by simp [upd])
  intro i h1 h2
  simp only [upd, List.getElem_mapIdx]
  rw [if_neg (by omega)]
theorem upd_get {α : Type} (g : Nat → α → α) (lo j : Nat) (cs : List α) (i : Nat) (h : i < (upd g lo j cs).length) : (upd g lo j cs)[i] = if lo ≤ i ∧ i < lo + j then g i (cs[i]'(by simpa [upd] using h)) else cs[i]'(by simpa [upd] using h) := by
  simp only [upd, List.getElem_mapIdx]
theorem upd_next {α : Type} (g : Nat → α → α) (lo j : Nat) (cs : List α) (h : lo + j < cs.length) : (upd g lo j cs)[lo + j]'(by rw [upd_len]; exact h) = cs[lo + j] := by
  rw [upd_get, if_neg (by omega)]
theorem upd_set {α : Type} (g : Nat → α → α) (lo j : Nat) (cs : List α) (h : lo + j < cs.length) : (upd g lo j cs).set (lo + j) (g (lo + j) cs[lo + j]) = upd g lo (j + 1) cs := by
  apply List.ext_getElem (by simp [upd])
  intro i h1 h2
  rw [List.getElem_set, upd_get g lo (j + 1)]
  by_cases e : lo + j = i
  · subst e
    rw [if_pos rfl, if_pos (by omega)]
  · rw [if_neg e, upd_get]
    by_cases c : lo ≤ i ∧ i < lo + j
    · rw [if_pos c, if_pos (by omega)]
    · rw [if_neg c, if_neg (by omega)]
theorem upd_same {α : Type} (g : Nat → α → α) (lo j : Nat) (cs : List α) (h : lo + j < cs.length) (e : g (lo + j) cs[lo + j] = cs[lo + j]) : upd g lo j cs = upd g lo (j + 1) cs := by
  apply List.ext_getElem (by simp [upd])
  intro i h1 h2
  rw [upd_get g lo j, upd_get g lo (j + 1)]
  by_cases e' : lo + j = i
  · subst e'
    rw [if_neg (by omega), if_pos (by omega), e]
  · by_cases c : lo ≤ i ∧ i < lo + j
    · rw [if_pos c, if_pos (by omega)]
    · rw [if_neg c, if_neg (by omega)]
theorem upd_all {α : Type} (g : Nat → α → α) (cs : List α) : upd g 0 cs.length cs = cs.mapIdx g := by
  apply List.ext_getElem (by simp [upd])
  intro i h1 h2
  rw [upd_get, if_pos ⟨by omega, by rw [upd_len] at h1; omega⟩, List.getElem_mapIdx]
theorem getD_set {α : Type} (cs : List α) (i k : Nat) (v d : α) (hi : i < cs.length) : (cs.set i v).getD k d = if i = k then v else cs.getD k d := by
  simp only [List.getD_eq_getElem?_getD, List.getElem?_set]
  by_cases h : i = k
  · subst h
    simp [hi]
  · simp [h]
theorem getD_of {α : Type} (cs : List α) (i : Nat) (d : α) (hi : i < cs.length) : cs.getD i d = cs[i] := by
  simp [List.getD_eq_getElem?_getD, List.getElem?_eq_getElem hi]
end Go.Proofs.Ytklhbaghbmndeaa.Pure

/- rickyard/crc.step: its model, and that the Go function computes it: written by gen.py. -/
set_option linter.unusedVariables false
namespace Go.Proofs.Ytklhbaghbmndeaa
open Go Go.Xw
def crc_step.f (fu : Nat) (a0 : Int) : Option Int := (if (decide ((bAnd .u32 a0 1) = 1)) = true then some ((bXor .u32 (shR .u32 a0 1) 2197175160)) else some ((shR .u32 a0 1)))
set_option maxRecDepth 100000 in
set_option maxHeartbeats 400000 in
theorem crc_step.ok (fu : Nat) (w : World) (a0 : Int) (r : Int) (h : crc_step.f fu a0 = some r) :
    Calls Try.prog 156 (([.int .u32 a0] : List Value).toArray) w (fun e w' => ∃ v, e = .returned v ∧ v = .int .u32 r ∧ Gr w w') := by
  unfold crc_step.f at h
  have fB : Gr w w := Fr.refl _ _
  refine calls_cw Try.func156 rfl Try.ntmps156 rfl ?_
  refine cw_seq ?_
  refine cw_region ?_
  refine ol_val (v := .int .u32 0) (by exact xr_assign rfl rfl) rfl rfl rfl ?_
  refine ol_nil ?_
  refine cw_seq ?_
  refine cw_seq ?_
  refine cw_region ?_
  refine ol_val (v := .int .u32 a0) (by exact xr_move rfl rfl) rfl rfl rfl ?_
  refine ol_val (v := .int .u32 (bAnd .u32 a0 1)) (by exact xr_and rfl rfl rfl) rfl rfl rfl ?_
  refine ol_val (v := .bool (decide ((bAnd .u32 a0 1) = 1))) (by exact xr_eqI rfl Try.underlying191 rfl rfl rfl) rfl rfl rfl ?_
  refine ol_nil ?_
  rcases is h with ⟨c1, h⟩ | ⟨c1, h⟩
  · refine cw_condT rfl c1 ?_
    refine cw_seq ?_
    refine cw_region ?_
    refine ol_val (v := .int .u32 a0) (by exact xr_move rfl rfl) rfl rfl rfl ?_
    refine ol_val (v := .int .u32 (shR .u32 a0 1)) (by exact xr_shr rfl rfl rfl (by decide)) rfl rfl rfl ?_
    refine ol_val (v := .int .u32 (bXor .u32 (shR .u32 a0 1) 2197175160)) (by exact xr_xor rfl rfl rfl) rfl rfl rfl ?_
    refine ol_val (v := .int .u32 (bXor .u32 (shR .u32 a0 1) 2197175160)) (by exact xr_assign rfl rfl) rfl rfl rfl ?_
    refine ol_nil ?_
    refine cw_ret ?_
    repeat (first | with_reducible refine thn_r ?_ | with_reducible refine blk_r ?_)
    obtain rfl := Option.some.inj h
    refine fin_ret1 Try.results156 rfl ?_
    exact ⟨_, rfl, rfl, fB⟩
  · refine cw_condF rfl c1 ?_
    refine cw_skip ?_
    refine cw_seq ?_
    refine cw_region ?_
    refine ol_val (v := .int .u32 a0) (by exact xr_move rfl rfl) rfl rfl rfl ?_
    refine ol_val (v := .int .u32 (shR .u32 a0 1)) (by exact xr_shr rfl rfl rfl (by decide)) rfl rfl rfl ?_
    refine ol_val (v := .int .u32 (shR .u32 a0 1)) (by exact xr_assign rfl rfl) rfl rfl rfl ?_
    refine ol_nil ?_
    refine cw_ret ?_
    repeat (first | with_reducible refine thn_r ?_ | with_reducible refine blk_r ?_)
    obtain rfl := Option.some.inj h
    refine fin_ret1 Try.results156 rfl ?_
    exact ⟨_, rfl, rfl, fB⟩
end Go.Proofs.Ytklhbaghbmndeaa

/- rickyard/crc.Table: its model, and that the Go function computes it: written by gen.py. -/
set_option linter.unusedVariables false
namespace Go.Proofs.Ytklhbaghbmndeaa
open Go Go.Xw
def crc_Table.s3 (fu : Nat) : (Int × Int) → Option (Sum Int (Int × Int)) := fun s22 => (if (decide (s22.2 < 4)) = true then ((crc_step.f fu s22.1 : Option Int).bind fun t30 => some (Sum.inr (t30, (IntKind.i64.wrap (s22.2 + 1))))) else some (Sum.inl (s22.1)))
def crc_Table.s2 (fu : Nat) : (Int × (Arr 16 Int)) → Option (Sum (Arr 16 Int) (Int × (Arr 16 Int))) := fun s14 => (if (decide (s14.1 < 16)) = true then ((loopM (crc_Table.s3 fu) fu ((IntKind.u32.wrap s14.1), 0)).bind fun e23 => (if 0 ≤ s14.1 ∧ s14.1 < 16 then some (Sum.inr ((IntKind.i64.wrap (s14.1 + 1)), (Arr.set s14.2 s14.1 e23))) else none)) else some (Sum.inl (s14.2)))
def crc_Table.f (fu : Nat) : Option (Arr 16 Int) := ((loopM (crc_Table.s2 fu) fu (0, (Arr.rep 16 (0 : Int)))).bind fun e15 => some (e15))
set_option maxRecDepth 100000 in
set_option maxHeartbeats 400000 in
theorem crc_Table.ok (fu : Nat) (w : World)  (r : (Arr 16 Int)) (h : crc_Table.f fu = some r) :
    Calls Try.prog 154 (([] : List Value).toArray) w (fun e w' => ∃ v, e = .returned v ∧ v = aggV [Kd.seg (kA 16 (kI .u32)) r] ∧ Gr w w') := by
  unfold crc_Table.f at h
  have fB : Gr w w := Fr.refl _ _
  refine calls_cw Try.func154 rfl Try.ntmps154 rfl ?_
  refine cw_seq ?_
  refine cw_region ?_
  refine ol_op (by exact opv_alloc (ss := [Kd.seg (kA 16 (kI .u32)) (Arr.rep 16 (0 : Int))]) rfl ze205 rfl) rfl rfl rfl ?_
  rintro _ w6 ⟨G1, rfl, b2, q3, z4⟩
  have z4 := Nat.le_trans fB.size z4
  have fB := fB.gr q3
  refine ol_nil ?_
  refine cw_seq ?_
  refine cw_region ?_
  refine ol_op (by exact opv_alloc (ss := [Kd.seg (kA 16 (kI .u32)) (Arr.rep 16 (0 : Int))]) rfl ze205 rfl) rfl rfl rfl ?_
  rintro _ w12 ⟨G7, rfl, b8, q9, z10⟩
  have n13 := b2.ne z10
  have z10 := Nat.le_trans fB.size z10
  have b2 := b2.gr q9
  have fB := fB.gr q9
  refine ol_nil ?_
  refine cw_seq ?_
  refine cw_seq ?_
  refine cw_region ?_
  refine ol_val (v := .int .i64 0) (by exact xr_move rfl rfl) rfl rfl rfl ?_
  refine ol_nil ?_
  obtain ⟨e15, l16, h17⟩ := bs h
  refine cw_mid (fun ρ' w' => ρ' 0 = .pointer (some ⟨G1, 0, none⟩) ∧ ρ' 1 = .pointer (some ⟨G7, 0, none⟩) ∧ Blk w' G1 205 [Kd.seg (kA 16 (kI .u32)) (Arr.rep 16 (0 : Int))] ∧ Blk w' G7 205 [Kd.seg (kA 16 (kI .u32)) e15] ∧ Gr w w') ?_ ?_
  · refine cw_block ?_
    refine cw_round (fun (s14 : Int × (Arr 16 Int)) ρ' w' => ρ' 0 = .pointer (some ⟨G1, 0, none⟩) ∧ ρ' 1 = .pointer (some ⟨G7, 0, none⟩) ∧ ρ' 4 = .int .i64 s14.1 ∧ Blk w' G1 205 [Kd.seg (kA 16 (kI .u32)) (Arr.rep 16 (0 : Int))] ∧ Blk w' G7 205 [Kd.seg (kA 16 (kI .u32)) s14.2] ∧ Gr w w') l16 ?_ ?_
    · skip
      exact ⟨rfl, rfl, rfl, b2, b8, fB⟩
    · rintro s14 x20 ρ18 w19 ⟨e0, e1, e4, b2, b8, fB⟩ h
      unfold crc_Table.s2 at h
      refine cw_seq ?_
      refine cw_region ?_
      refine ol_val (v := .bool (decide (s14.1 < 16))) (by exact xr_lss rfl e4 rfl) rfl rfl rfl ?_
      refine ol_nil ?_
      refine cw_seq ?_
      rcases is h with ⟨c21, h⟩ | ⟨c21, h⟩
      · refine cw_condT rfl c21 ?_
        refine cw_skip ?_
        refine cw_seq ?_
        refine cw_block ?_
        refine cw_seq ?_
        refine cw_region ?_
        refine ol_val (v := .int .i64 s14.1) (by exact xr_move rfl e4) rfl rfl rfl ?_
        refine ol_val (v := .int .i64 s14.1) (by exact xr_assign rfl rfl) rfl rfl rfl ?_
        refine ol_nil ?_
        refine cw_seq ?_
        refine cw_region ?_
        refine ol_val (v := .int .i64 s14.1) (by exact xr_move rfl rfl) rfl rfl rfl ?_
        refine ol_val (v := .int .u32 (IntKind.u32.wrap s14.1)) (by exact xr_conv rfl Try.underlying3 Try.underlying191 rfl) rfl rfl rfl ?_
        refine ol_val (v := .int .u32 (IntKind.u32.wrap s14.1)) (by exact xr_assign rfl rfl) rfl rfl rfl ?_
        refine ol_nil ?_
        refine cw_seq ?_
        refine cw_seq ?_
        refine cw_region ?_
        refine ol_val (v := .int .i64 0) (by exact xr_move rfl rfl) rfl rfl rfl ?_
        refine ol_nil ?_
        obtain ⟨e23, l24, h25⟩ := bs h
        refine cw_mid (fun ρ' w' => ρ' 0 = .pointer (some ⟨G1, 0, none⟩) ∧ ρ' 1 = .pointer (some ⟨G7, 0, none⟩) ∧ ρ' 2 = .int .i64 s14.1 ∧ ρ' 3 = .int .u32 e23 ∧ ρ' 4 = .int .i64 s14.1 ∧ Blk w' G1 205 [Kd.seg (kA 16 (kI .u32)) (Arr.rep 16 (0 : Int))] ∧ Blk w' G7 205 [Kd.seg (kA 16 (kI .u32)) s14.2] ∧ Gr w w') ?_ ?_
        · refine cw_block ?_
          refine cw_round (fun (s22 : Int × Int) ρ' w' => ρ' 0 = .pointer (some ⟨G1, 0, none⟩) ∧ ρ' 1 = .pointer (some ⟨G7, 0, none⟩) ∧ ρ' 2 = .int .i64 s14.1 ∧ ρ' 3 = .int .u32 s22.1 ∧ ρ' 4 = .int .i64 s14.1 ∧ ρ' 9 = .int .i64 s22.2 ∧ Blk w' G1 205 [Kd.seg (kA 16 (kI .u32)) (Arr.rep 16 (0 : Int))] ∧ Blk w' G7 205 [Kd.seg (kA 16 (kI .u32)) s14.2] ∧ Gr w w') l24 ?_ ?_
          · skip
            exact ⟨e0, e1, rfl, rfl, e4, rfl, b2, b8, fB⟩
          · rintro s22 x28 ρ26 w27 ⟨e0, e1, e2, e3, e4, e9, b2, b8, fB⟩ h
            unfold crc_Table.s3 at h
            refine cw_seq ?_
            refine cw_region ?_
            refine ol_val (v := .bool (decide (s22.2 < 4))) (by exact xr_lss rfl e9 rfl) rfl rfl rfl ?_
            refine ol_nil ?_
            refine cw_seq ?_
            rcases is h with ⟨c29, h⟩ | ⟨c29, h⟩
            · refine cw_condT rfl c29 ?_
              refine cw_skip ?_
              refine cw_seq ?_
              refine cw_block ?_
              refine cw_region ?_
              refine ol_val (v := .int .u32 s22.1) (by exact xr_move rfl e3) rfl rfl rfl ?_
              obtain ⟨t30, k31, h⟩ := bs h
              refine ol_op (by exact opv_call rfl cal156 (ac rfl an) (crc_step.ok fu _ s22.1 _ k31)) rfl rfl rfl ?_
              rintro _ w33 ⟨rfl, q32⟩
              have b2 := b2.gr q32
              have b8 := b8.gr q32
              have fB := fB.gr q32
              refine ol_val (v := .int .u32 t30) (by exact xr_assign rfl rfl) rfl rfl rfl ?_
              refine ol_nil ?_
              refine blk_i ?_
              refine cw_region ?_
              refine ol_val (v := .int .i64 (IntKind.i64.wrap (s22.2 + 1))) (by exact xr_add rfl e9 rfl) rfl rfl rfl ?_
              refine ol_val (v := .int .i64 (IntKind.i64.wrap (s22.2 + 1))) (by exact xr_move rfl rfl) rfl rfl rfl ?_
              refine ol_nil ?_
              obtain rfl := Option.some.inj h
              refine lp_in ?_
              exact ⟨e0, e1, e2, rfl, e4, rfl, b2, b8, fB⟩
            · refine cw_condF rfl c29 ?_
              refine cw_exit ?_
              repeat (first | with_reducible refine thn_e ?_ | with_reducible refine blk_e rfl ?_)
              obtain rfl := Option.some.inj h
              refine lp_exit ?_
              rintro rfl
              refine thn_x ?_
              exact ⟨e0, e1, e2, e3, e4, b2, b8, fB⟩
        · rintro ρ34 w35 ⟨e0, e1, e2, e3, e4, b2, b8, fB⟩
          have h := h25
          refine cw_region ?_
          refine ol_val (v := .int .i64 s14.1) (by exact xr_move rfl e2) rfl rfl rfl ?_
          refine ol_val (v := .int .u32 e23) (by exact xr_move rfl e3) rfl rfl rfl ?_
          obtain ⟨g36, h⟩ := gs h
          refine ol_val (v := .pointer (some ⟨G7, 0 + Int.toNat s14.1 * 1, none⟩)) (by exact xr_indexA (p := 0) (s := 1) rfl Try.underlying205 sz191 e1 rfl g36.1 g36.2) rfl rfl rfl ?_
          refine ol_op0 (by exact opv_store (ss' := [Kd.seg (kA 16 (kI .u32)) (Arr.set s14.2 s14.1 e23)]) (xs := cellsOf [Seg.cell (.int .u32 e23)]) rfl sz191 rfl rfl rfl (len_cellsOf _) (one_cellsOf _) b8 (Spl.seg_in _ 0 (Kd.seg (kA 16 (kI .u32)) (Arr.set s14.2 s14.1 e23)) rfl rfl (Spl.arr s14.2 s14.1 e23 g36.1 g36.2 (Spl.whole ((Kd.len _ _).trans (Kd.len _ _).symm))))) rfl rfl ?_
          rintro _ w38 ⟨b8, q37⟩
          have b2 := b2.wr q37 n13
          have fB := fB.wr q37 z10
          refine ol_nil ?_
          refine blk_i ?_
          refine cw_region ?_
          refine ol_val (v := .int .i64 (IntKind.i64.wrap (s14.1 + 1))) (by exact xr_add rfl e4 rfl) rfl rfl rfl ?_
          refine ol_val (v := .int .i64 (IntKind.i64.wrap (s14.1 + 1))) (by exact xr_move rfl rfl) rfl rfl rfl ?_
          refine ol_nil ?_
          obtain rfl := Option.some.inj h
          refine lp_in ?_
          exact ⟨e0, e1, rfl, b2, b8, fB⟩
      · refine cw_condF rfl c21 ?_
        refine cw_exit ?_
        repeat (first | with_reducible refine thn_e ?_ | with_reducible refine blk_e rfl ?_)
        obtain rfl := Option.some.inj h
        refine lp_exit ?_
        rintro rfl
        refine thn_x ?_
        exact ⟨e0, e1, b2, b8, fB⟩
  · rintro ρ39 w40 ⟨e0, e1, b2, b8, fB⟩
    have h := h17
    refine cw_seq ?_
    refine cw_region ?_
    refine ol_val (v := aggV [Kd.seg (kA 16 (kI .u32)) e15]) (by exact xr_loadS (ss := [Kd.seg (kA 16 (kI .u32)) e15]) rfl ag205 sz205 rfl e1 (b8.segs 0 1 rfl)) rfl rfl rfl ?_
    refine ol_op0 (by exact opv_store (ss' := [Kd.seg (kA 16 (kI .u32)) e15]) (xs := cellsOf [Kd.seg (kA 16 (kI .u32)) e15]) rfl sz205 e0 rfl rfl (len_cellsOf _) (one_cellsOf _) b2 (Spl.segs _ 0 1 [Kd.seg (kA 16 (kI .u32)) e15] rfl rfl)) rfl rfl ?_
    rintro _ w42 ⟨b2, q41⟩
    have fB := fB.wr q41 z4
    refine ol_nil ?_
    refine cw_ret ?_
    repeat (first | with_reducible refine thn_r ?_ | with_reducible refine blk_r ?_)
    obtain rfl := Option.some.inj h
    refine fin_cell Try.results154 e0 ag205 sz205 b2 (by rfl) ?_
    exact ⟨_, rfl, rfl, fB⟩
end Go.Proofs.Ytklhbaghbmndeaa

/- rickyard/crc.register: its model, and that the Go function computes it: written by gen.py. -/
set_option linter.unusedVariables false
namespace Go.Proofs.Ytklhbaghbmndeaa
open Go Go.Xw
def crc_register.s0 (fu : Nat) (a0 : Arr 16 Int) (a2 : List Int) : (Int × Int) → Option (Sum Int (Int × Int)) := fun s1 => (if (decide (s1.2 < (List.length a2 : Int))) = true then (if 0 ≤ s1.2 ∧ s1.2 < (List.length a2 : Int) then (if 0 ≤ (bAnd .u32 (bXor .u32 s1.1 (IntKind.u32.wrap (ix a2 s1.2))) 15) ∧ (bAnd .u32 (bXor .u32 s1.1 (IntKind.u32.wrap (ix a2 s1.2))) 15) < 16 then (if 0 ≤ (bAnd .u32 (bXor .u32 (shR .u32 (bXor .u32 s1.1 (IntKind.u32.wrap (ix a2 s1.2))) 4) (Arr.get a0 (bAnd .u32 (bXor .u32 s1.1 (IntKind.u32.wrap (ix a2 s1.2))) 15))) 15) ∧ (bAnd .u32 (bXor .u32 (shR .u32 (bXor .u32 s1.1 (IntKind.u32.wrap (ix a2 s1.2))) 4) (Arr.get a0 (bAnd .u32 (bXor .u32 s1.1 (IntKind.u32.wrap (ix a2 s1.2))) 15))) 15) < 16 then some (Sum.inr ((bXor .u32 (shR .u32 (bXor .u32 (shR .u32 (bXor .u32 s1.1 (IntKind.u32.wrap (ix a2 s1.2))) 4) (Arr.get a0 (bAnd .u32 (bXor .u32 s1.1 (IntKind.u32.wrap (ix a2 s1.2))) 15))) 4) (Arr.get a0 (bAnd .u32 (bXor .u32 (shR .u32 (bXor .u32 s1.1 (IntKind.u32.wrap (ix a2 s1.2))) 4) (Arr.get a0 (bAnd .u32 (bXor .u32 s1.1 (IntKind.u32.wrap (ix a2 s1.2))) 15))) 15))), (IntKind.i64.wrap (s1.2 + 1)))) else none) else none) else none) else some (Sum.inl (s1.1)))
def crc_register.f (fu : Nat) (a0 : Arr 16 Int) (a1 : Int) (a2 : List Int) : Option Int := ((loopM (crc_register.s0 fu a0 a2) fu (a1, 0)).bind fun e2 => some (e2))
set_option maxRecDepth 100000 in
set_option maxHeartbeats 400000 in
theorem crc_register.ok (fu : Nat) (w : World) (a0 : Arr 16 Int) (G_0 : Nat) (b_0 : Blk w G_0 205 [Kd.seg (kA 16 (kI .u32)) a0]) (a1 : Int) (a2 : List Int) (V2_0 : Value) (R2_0 : Rd (kI .u8) w V2_0 a2) (r : Int) (h : crc_register.f fu a0 a1 a2 = some r) :
    Calls Try.prog 155 (([.pointer (some ⟨G_0, 0, none⟩), .int .u32 a1, V2_0] : List Value).toArray) w (fun e w' => ∃ v, e = .returned v ∧ v = .int .u32 r ∧ Gr w w') := by
  unfold crc_register.f at h
  have fB : Gr w w := Fr.refl _ _
  refine calls_cw Try.func155 rfl Try.ntmps155 rfl ?_
  refine cw_seq ?_
  refine cw_region ?_
  refine ol_val (v := .int .u32 0) (by exact xr_assign rfl rfl) rfl rfl rfl ?_
  refine ol_nil ?_
  refine cw_seq ?_
  refine cw_seq ?_
  refine cw_region ?_
  refine ol_val (v := V2_0) (by exact xr_move rfl rfl) rfl rfl rfl ?_
  refine ol_val (v := .int .i64 (List.length a2 : Int)) (by exact xr_lenR rfl Try.underlying43 rfl (R2_0.gr fB)) rfl rfl rfl ?_
  refine ol_val (v := .int .i64 0) (by exact xr_move rfl rfl) rfl rfl rfl ?_
  refine ol_nil ?_
  obtain ⟨e2, l3, h4⟩ := bs h
  refine cw_mid (fun ρ' w' => ρ' 1 = .int .u32 e2 ∧ Blk w' G_0 205 [Kd.seg (kA 16 (kI .u32)) a0] ∧ Gr w w') ?_ ?_
  · refine cw_block ?_
    refine cw_round (fun (s1 : Int × Int) ρ' w' => ρ' 0 = .pointer (some ⟨G_0, 0, none⟩) ∧ ρ' 1 = .int .u32 s1.1 ∧ ρ' 9 = V2_0 ∧ ρ' 10 = .int .i64 (List.length a2 : Int) ∧ ρ' 11 = .int .i64 s1.2 ∧ Blk w' G_0 205 [Kd.seg (kA 16 (kI .u32)) a0] ∧ Gr w w') l3 ?_ ?_
    · skip
      exact ⟨rfl, rfl, rfl, rfl, rfl, b_0, fB⟩
    · rintro s1 x7 ρ5 w6 ⟨e0, e1, e9, e10, e11, b_0, fB⟩ h
      unfold crc_register.s0 at h
      refine cw_seq ?_
      refine cw_region ?_
      refine ol_val (v := .bool (decide (s1.2 < (List.length a2 : Int)))) (by exact xr_lss rfl e11 e10) rfl rfl rfl ?_
      refine ol_nil ?_
      refine cw_seq ?_
      rcases is h with ⟨c8, h⟩ | ⟨c8, h⟩
      · refine cw_condT rfl c8 ?_
        refine cw_skip ?_
        refine cw_seq ?_
        refine cw_block ?_
        refine cw_seq ?_
        refine cw_region ?_
        obtain ⟨g9, h⟩ := gs h
        refine ol_val (v := .pointer (some ⟨(sb V2_0), so V2_0 + Int.toNat s1.2 * 1, none⟩)) (by exact xr_indexR (K := (kI .u8)) (v := V2_0) rfl Try.underlying43 sz5 e9 (R2_0.gr fB) e11 g9.1 g9.2) rfl rfl rfl ?_
        refine ol_val (v := .int .u8 (ix a2 s1.2)) (by exact xr_load1 (v := .int .u8 (ix a2 s1.2)) rfl ag5 rfl ((R2_0.gr fB).elem g9.1 g9.2)) rfl rfl rfl ?_
        refine ol_val (v := .int .u8 (ix a2 s1.2)) (by exact xr_assign rfl rfl) rfl rfl rfl ?_
        refine ol_nil ?_
        refine cw_seq ?_
        refine cw_region ?_
        refine ol_val (v := .int .u32 s1.1) (by exact xr_move rfl e1) rfl rfl rfl ?_
        refine ol_val (v := .int .u8 (ix a2 s1.2)) (by exact xr_move rfl rfl) rfl rfl rfl ?_
        refine ol_val (v := .int .u32 (IntKind.u32.wrap (ix a2 s1.2))) (by exact xr_conv rfl Try.underlying5 Try.underlying191 rfl) rfl rfl rfl ?_
        refine ol_val (v := .int .u32 (bXor .u32 s1.1 (IntKind.u32.wrap (ix a2 s1.2)))) (by exact xr_xor rfl rfl rfl) rfl rfl rfl ?_
        refine ol_val (v := .int .u32 (bXor .u32 s1.1 (IntKind.u32.wrap (ix a2 s1.2)))) (by exact xr_assign rfl rfl) rfl rfl rfl ?_
        refine ol_nil ?_
        refine cw_seq ?_
        refine cw_region ?_
        refine ol_val (v := .int .u32 (bXor .u32 s1.1 (IntKind.u32.wrap (ix a2 s1.2)))) (by exact xr_move rfl rfl) rfl rfl rfl ?_
        refine ol_val (v := .int .u32 (shR .u32 (bXor .u32 s1.1 (IntKind.u32.wrap (ix a2 s1.2))) 4)) (by exact xr_shr rfl rfl rfl (by decide)) rfl rfl rfl ?_
        refine ol_val (v := .pointer (some ⟨G_0, 0, none⟩)) (by exact xr_move rfl e0) rfl rfl rfl ?_
        refine ol_val (v := .int .u32 (bXor .u32 s1.1 (IntKind.u32.wrap (ix a2 s1.2)))) (by exact xr_move rfl rfl) rfl rfl rfl ?_
        refine ol_val (v := .int .u32 (bAnd .u32 (bXor .u32 s1.1 (IntKind.u32.wrap (ix a2 s1.2))) 15)) (by exact xr_and rfl rfl rfl) rfl rfl rfl ?_
        refine ol_val (v := .pointer (some ⟨G_0, 0, none⟩)) (by exact xr_nilCheck rfl rfl) rfl rfl rfl ?_
        obtain ⟨g10, h⟩ := gs h
        refine ol_val (v := .pointer (some ⟨G_0, 0 + Int.toNat (bAnd .u32 (bXor .u32 s1.1 (IntKind.u32.wrap (ix a2 s1.2))) 15) * 1, none⟩)) (by exact xr_indexA (p := 0) (s := 1) rfl Try.underlying205 sz191 rfl rfl g10.1 g10.2) rfl rfl rfl ?_
        refine ol_val (v := .int .u32 (Arr.get a0 (bAnd .u32 (bXor .u32 s1.1 (IntKind.u32.wrap (ix a2 s1.2))) 15))) (by exact xr_load1 (v := .int .u32 (Arr.get a0 (bAnd .u32 (bXor .u32 s1.1 (IntKind.u32.wrap (ix a2 s1.2))) 15))) rfl ag191 rfl (At.arr (a := a0) (b_0.seg 0 rfl rfl) g10.1 g10.2)) rfl rfl rfl ?_
        refine ol_val (v := .int .u32 (bXor .u32 (shR .u32 (bXor .u32 s1.1 (IntKind.u32.wrap (ix a2 s1.2))) 4) (Arr.get a0 (bAnd .u32 (bXor .u32 s1.1 (IntKind.u32.wrap (ix a2 s1.2))) 15)))) (by exact xr_xor rfl rfl rfl) rfl rfl rfl ?_
        refine ol_val (v := .int .u32 (bXor .u32 (shR .u32 (bXor .u32 s1.1 (IntKind.u32.wrap (ix a2 s1.2))) 4) (Arr.get a0 (bAnd .u32 (bXor .u32 s1.1 (IntKind.u32.wrap (ix a2 s1.2))) 15)))) (by exact xr_assign rfl rfl) rfl rfl rfl ?_
        refine ol_nil ?_
        refine cw_region ?_
        refine ol_val (v := .int .u32 (bXor .u32 (shR .u32 (bXor .u32 s1.1 (IntKind.u32.wrap (ix a2 s1.2))) 4) (Arr.get a0 (bAnd .u32 (bXor .u32 s1.1 (IntKind.u32.wrap (ix a2 s1.2))) 15)))) (by exact xr_move rfl rfl) rfl rfl rfl ?_
        refine ol_val (v := .int .u32 (shR .u32 (bXor .u32 (shR .u32 (bXor .u32 s1.1 (IntKind.u32.wrap (ix a2 s1.2))) 4) (Arr.get a0 (bAnd .u32 (bXor .u32 s1.1 (IntKind.u32.wrap (ix a2 s1.2))) 15))) 4)) (by exact xr_shr rfl rfl rfl (by decide)) rfl rfl rfl ?_
        refine ol_val (v := .pointer (some ⟨G_0, 0, none⟩)) (by exact xr_move rfl e0) rfl rfl rfl ?_
        refine ol_val (v := .int .u32 (bXor .u32 (shR .u32 (bXor .u32 s1.1 (IntKind.u32.wrap (ix a2 s1.2))) 4) (Arr.get a0 (bAnd .u32 (bXor .u32 s1.1 (IntKind.u32.wrap (ix a2 s1.2))) 15)))) (by exact xr_move rfl rfl) rfl rfl rfl ?_
        refine ol_val (v := .int .u32 (bAnd .u32 (bXor .u32 (shR .u32 (bXor .u32 s1.1 (IntKind.u32.wrap (ix a2 s1.2))) 4) (Arr.get a0 (bAnd .u32 (bXor .u32 s1.1 (IntKind.u32.wrap (ix a2 s1.2))) 15))) 15)) (by exact xr_and rfl rfl rfl) rfl rfl rfl ?_
        refine ol_val (v := .pointer (some ⟨G_0, 0, none⟩)) (by exact xr_nilCheck rfl rfl) rfl rfl rfl ?_
        obtain ⟨g11, h⟩ := gs h
        refine ol_val (v := .pointer (some ⟨G_0, 0 + Int.toNat (bAnd .u32 (bXor .u32 (shR .u32 (bXor .u32 s1.1 (IntKind.u32.wrap (ix a2 s1.2))) 4) (Arr.get a0 (bAnd .u32 (bXor .u32 s1.1 (IntKind.u32.wrap (ix a2 s1.2))) 15))) 15) * 1, none⟩)) (by exact xr_indexA (p := 0) (s := 1) rfl Try.underlying205 sz191 rfl rfl g11.1 g11.2) rfl rfl rfl ?_
        refine ol_val (v := .int .u32 (Arr.get a0 (bAnd .u32 (bXor .u32 (shR .u32 (bXor .u32 s1.1 (IntKind.u32.wrap (ix a2 s1.2))) 4) (Arr.get a0 (bAnd .u32 (bXor .u32 s1.1 (IntKind.u32.wrap (ix a2 s1.2))) 15))) 15))) (by exact xr_load1 (v := .int .u32 (Arr.get a0 (bAnd .u32 (bXor .u32 (shR .u32 (bXor .u32 s1.1 (IntKind.u32.wrap (ix a2 s1.2))) 4) (Arr.get a0 (bAnd .u32 (bXor .u32 s1.1 (IntKind.u32.wrap (ix a2 s1.2))) 15))) 15))) rfl ag191 rfl (At.arr (a := a0) (b_0.seg 0 rfl rfl) g11.1 g11.2)) rfl rfl rfl ?_
        refine ol_val (v := .int .u32 (bXor .u32 (shR .u32 (bXor .u32 (shR .u32 (bXor .u32 s1.1 (IntKind.u32.wrap (ix a2 s1.2))) 4) (Arr.get a0 (bAnd .u32 (bXor .u32 s1.1 (IntKind.u32.wrap (ix a2 s1.2))) 15))) 4) (Arr.get a0 (bAnd .u32 (bXor .u32 (shR .u32 (bXor .u32 s1.1 (IntKind.u32.wrap (ix a2 s1.2))) 4) (Arr.get a0 (bAnd .u32 (bXor .u32 s1.1 (IntKind.u32.wrap (ix a2 s1.2))) 15))) 15)))) (by exact xr_xor rfl rfl rfl) rfl rfl rfl ?_
        refine ol_val (v := .int .u32 (bXor .u32 (shR .u32 (bXor .u32 (shR .u32 (bXor .u32 s1.1 (IntKind.u32.wrap (ix a2 s1.2))) 4) (Arr.get a0 (bAnd .u32 (bXor .u32 s1.1 (IntKind.u32.wrap (ix a2 s1.2))) 15))) 4) (Arr.get a0 (bAnd .u32 (bXor .u32 (shR .u32 (bXor .u32 s1.1 (IntKind.u32.wrap (ix a2 s1.2))) 4) (Arr.get a0 (bAnd .u32 (bXor .u32 s1.1 (IntKind.u32.wrap (ix a2 s1.2))) 15))) 15)))) (by exact xr_assign rfl rfl) rfl rfl rfl ?_
        refine ol_nil ?_
        refine blk_i ?_
        refine cw_region ?_
        refine ol_val (v := .int .i64 (IntKind.i64.wrap (s1.2 + 1))) (by exact xr_add rfl e11 rfl) rfl rfl rfl ?_
        refine ol_val (v := .int .i64 (IntKind.i64.wrap (s1.2 + 1))) (by exact xr_move rfl rfl) rfl rfl rfl ?_
        refine ol_nil ?_
        obtain rfl := Option.some.inj h
        refine lp_in ?_
        exact ⟨e0, rfl, e9, e10, rfl, b_0, fB⟩
      · refine cw_condF rfl c8 ?_
        refine cw_exit ?_
        repeat (first | with_reducible refine thn_e ?_ | with_reducible refine blk_e rfl ?_)
        obtain rfl := Option.some.inj h
        refine lp_exit ?_
        rintro rfl
        refine thn_x ?_
        exact ⟨e1, b_0, fB⟩
  · rintro ρ12 w13 ⟨e1, b_0, fB⟩
    have h := h4
    refine cw_seq ?_
    refine cw_region ?_
    refine ol_val (v := .int .u32 e2) (by exact xr_move rfl e1) rfl rfl rfl ?_
    refine ol_val (v := .int .u32 e2) (by exact xr_assign rfl rfl) rfl rfl rfl ?_
    refine ol_nil ?_
    refine cw_ret ?_
    repeat (first | with_reducible refine thn_r ?_ | with_reducible refine blk_r ?_)
    obtain rfl := Option.some.inj h
    refine fin_ret1 Try.results155 rfl ?_
    exact ⟨_, rfl, rfl, fB⟩
end Go.Proofs.Ytklhbaghbmndeaa

/- rickyard/crc.Sum: its model, and that the Go function computes it: written by gen.py. -/
set_option linter.unusedVariables false
namespace Go.Proofs.Ytklhbaghbmndeaa
open Go Go.Xw
def crc_Sum.s0 (fu : Nat) (a0 : List (List Int)) (t1 : (Arr 16 Int)) : (Int × Int) → Option (Sum Int (Int × Int)) := fun s13 => (if (decide (s13.2 < (List.length a0 : Int))) = true then (if 0 ≤ s13.2 ∧ s13.2 < (List.length a0 : Int) then ((crc_register.f fu t1 s13.1 (ix a0 s13.2) : Option Int).bind fun t23 => some (Sum.inr (t23, (IntKind.i64.wrap (s13.2 + 1))))) else none) else some (Sum.inl (s13.1)))
def crc_Sum.f (fu : Nat) (a0 : List (List Int)) : Option Int := ((crc_Table.f fu : Option (Arr 16 Int)).bind fun t1 => ((loopM (crc_Sum.s0 fu a0 t1) fu (4294967295, 0)).bind fun e14 => some ((bXor .u32 e14 4294967295))))
set_option maxRecDepth 100000 in
set_option maxHeartbeats 400000 in
theorem crc_Sum.ok (fu : Nat) (w : World) (a0 : List (List Int)) (V0_0 : Value) (R0_0 : Rds (kI .u8) w V0_0 a0) (r : Int) (h : crc_Sum.f fu a0 = some r) :
    Calls Try.prog 149 (([V0_0] : List Value).toArray) w (fun e w' => ∃ v, e = .returned v ∧ v = .int .u32 r ∧ Gr w w') := by
  unfold crc_Sum.f at h
  have fB : Gr w w := Fr.refl _ _
  refine calls_cw Try.func149 rfl Try.ntmps149 rfl ?_
  refine cw_seq ?_
  refine cw_region ?_
  refine ol_val (v := .int .u32 0) (by exact xr_assign rfl rfl) rfl rfl rfl ?_
  refine ol_nil ?_
  refine cw_seq ?_
  refine cw_region ?_
  obtain ⟨t1, k2, h⟩ := bs h
  refine ol_op (by exact opv_call rfl cal154 an (crc_Table.ok fu _ _ k2)) rfl rfl rfl ?_
  rintro _ w4 ⟨rfl, q3⟩
  have fB := fB.gr q3
  refine ol_op (by exact opv_alloc (ss := [Kd.seg (kA 16 (kI .u32)) (Arr.rep 16 (0 : Int))]) rfl ze205 rfl) rfl rfl rfl ?_
  rintro _ w10 ⟨G5, rfl, b6, q7, z8⟩
  have z8 := Nat.le_trans fB.size z8
  have fB := fB.gr q7
  refine ol_op0 (by exact opv_store (ss' := [Kd.seg (kA 16 (kI .u32)) t1]) (xs := cellsOf [Kd.seg (kA 16 (kI .u32)) t1]) rfl sz205 rfl rfl rfl (len_cellsOf _) (one_cellsOf _) b6 (Spl.segs _ 0 1 [Kd.seg (kA 16 (kI .u32)) t1] rfl rfl)) rfl rfl ?_
  rintro _ w12 ⟨b6, q11⟩
  have fB := fB.wr q11 z8
  refine ol_val (v := .int .u32 4294967295) (by exact xr_assign rfl rfl) rfl rfl rfl ?_
  refine ol_nil ?_
  refine cw_seq ?_
  refine cw_seq ?_
  refine cw_region ?_
  refine ol_val (v := V0_0) (by exact xr_move rfl rfl) rfl rfl rfl ?_
  refine ol_val (v := .int .i64 (List.length a0 : Int)) (by exact xr_lenRs rfl Try.underlying100 rfl (R0_0.gr fB)) rfl rfl rfl ?_
  refine ol_val (v := .int .i64 0) (by exact xr_move rfl rfl) rfl rfl rfl ?_
  refine ol_nil ?_
  obtain ⟨e14, l15, h16⟩ := bs h
  refine cw_mid (fun ρ' w' => ρ' 4 = .int .u32 e14 ∧ Gr w w') ?_ ?_
  · refine cw_block ?_
    refine cw_round (fun (s13 : Int × Int) ρ' w' => ρ' 3 = .pointer (some ⟨G5, 0, none⟩) ∧ ρ' 4 = .int .u32 s13.1 ∧ ρ' 8 = V0_0 ∧ ρ' 9 = .int .i64 (List.length a0 : Int) ∧ ρ' 10 = .int .i64 s13.2 ∧ Blk w' G5 205 [Kd.seg (kA 16 (kI .u32)) t1] ∧ Gr w w') l15 ?_ ?_
    · skip
      exact ⟨rfl, rfl, rfl, rfl, rfl, b6, fB⟩
    · rintro s13 x19 ρ17 w18 ⟨e3, e4, e8, e9, e10, b6, fB⟩ h
      unfold crc_Sum.s0 at h
      refine cw_seq ?_
      refine cw_region ?_
      refine ol_val (v := .bool (decide (s13.2 < (List.length a0 : Int)))) (by exact xr_lss rfl e10 e9) rfl rfl rfl ?_
      refine ol_nil ?_
      refine cw_seq ?_
      rcases is h with ⟨c20, h⟩ | ⟨c20, h⟩
      · refine cw_condT rfl c20 ?_
        refine cw_skip ?_
        refine cw_seq ?_
        refine cw_block ?_
        refine cw_seq ?_
        refine cw_region ?_
        obtain ⟨g21, h⟩ := gs h
        refine ol_val (v := .pointer (some ⟨(sb V0_0), so V0_0 + Int.toNat s13.2 * 1, none⟩)) (by exact xr_indexRs (v := V0_0) rfl Try.underlying100 sz43 e8 (R0_0.gr fB) e10 g21.1 g21.2) rfl rfl rfl ?_
        refine ol_val (v := inner w18 V0_0 s13.2) (by exact xr_load1 (v := inner w18 V0_0 s13.2) rfl ag43 rfl ((R0_0.gr fB).elem g21.1 g21.2).1) rfl rfl rfl ?_
        have r22 : Rd (kI .u8) w18 (inner w18 V0_0 s13.2) (ix a0 s13.2) := ((R0_0.gr fB).elem g21.1 g21.2).2
        refine ol_val (v := inner w18 V0_0 s13.2) (by exact xr_assign rfl rfl) rfl rfl rfl ?_
        refine ol_nil ?_
        refine cw_region ?_
        refine ol_val (v := .int .u32 s13.1) (by exact xr_move rfl e4) rfl rfl rfl ?_
        refine ol_val (v := inner w18 V0_0 s13.2) (by exact xr_move rfl rfl) rfl rfl rfl ?_
        obtain ⟨t23, k24, h⟩ := bs h
        refine ol_op (by exact opv_call rfl cal155 (ac e3 (ac rfl (ac rfl an))) (crc_register.ok fu _ t1 G5 b6 s13.1 (ix a0 s13.2) (inner w18 V0_0 s13.2) (r22) _ k24)) rfl rfl rfl ?_
        rintro _ w26 ⟨rfl, q25⟩
        have b6 := b6.gr q25
        have fB := fB.gr q25
        refine ol_val (v := .int .u32 t23) (by exact xr_assign rfl rfl) rfl rfl rfl ?_
        refine ol_nil ?_
        refine blk_i ?_
        refine cw_region ?_
        refine ol_val (v := .int .i64 (IntKind.i64.wrap (s13.2 + 1))) (by exact xr_add rfl e10 rfl) rfl rfl rfl ?_
        refine ol_val (v := .int .i64 (IntKind.i64.wrap (s13.2 + 1))) (by exact xr_move rfl rfl) rfl rfl rfl ?_
        refine ol_nil ?_
        obtain rfl := Option.some.inj h
        refine lp_in ?_
        exact ⟨e3, rfl, e8, e9, rfl, b6, fB⟩
      · refine cw_condF rfl c20 ?_
        refine cw_exit ?_
        repeat (first | with_reducible refine thn_e ?_ | with_reducible refine blk_e rfl ?_)
        obtain rfl := Option.some.inj h
        refine lp_exit ?_
        rintro rfl
        refine thn_x ?_
        exact ⟨e4, fB⟩
  · rintro ρ27 w28 ⟨e4, fB⟩
    have h := h16
    refine cw_seq ?_
    refine cw_region ?_
    refine ol_val (v := .int .u32 e14) (by exact xr_move rfl e4) rfl rfl rfl ?_
    refine ol_val (v := .int .u32 (bXor .u32 e14 4294967295)) (by exact xr_xor rfl rfl rfl) rfl rfl rfl ?_
    refine ol_val (v := .int .u32 (bXor .u32 e14 4294967295)) (by exact xr_assign rfl rfl) rfl rfl rfl ?_
    refine ol_nil ?_
    refine cw_ret ?_
    repeat (first | with_reducible refine thn_r ?_ | with_reducible refine blk_r ?_)
    obtain rfl := Option.some.inj h
    refine fin_ret1 Try.results149 rfl ?_
    exact ⟨_, rfl, rfl, fB⟩
end Go.Proofs.Ytklhbaghbmndeaa

/- rickyard/rickyardref02.Step: its model, and that the Go function computes it: written by gen.py. -/
set_option linter.unusedVariables false
namespace Go.Proofs.Ytklhbaghbmndeaa
open Go Go.Xw
def rickyardref02_Step.f (fu : Nat) (a0 : Int) : Option Int := (if (decide ((Int.tmod a0 2) = 1)) = true then some ((bXor .u32 (IntKind.u32.wrap (Int.tdiv a0 2)) 2197175160)) else some ((IntKind.u32.wrap (Int.tdiv a0 2))))
set_option maxRecDepth 100000 in
set_option maxHeartbeats 400000 in
theorem rickyardref02_Step.ok (fu : Nat) (w : World) (a0 : Int) (r : Int) (h : rickyardref02_Step.f fu a0 = some r) :
    Calls Try.prog 153 (([.int .u32 a0] : List Value).toArray) w (fun e w' => ∃ v, e = .returned v ∧ v = .int .u32 r ∧ Gr w w') := by
  unfold rickyardref02_Step.f at h
  have fB : Gr w w := Fr.refl _ _
  refine calls_cw Try.func153 rfl Try.ntmps153 rfl ?_
  refine cw_seq ?_
  refine cw_region ?_
  refine ol_val (v := .int .u32 0) (by exact xr_assign rfl rfl) rfl rfl rfl ?_
  refine ol_nil ?_
  refine cw_seq ?_
  refine cw_seq ?_
  refine cw_region ?_
  refine ol_val (v := .int .u32 a0) (by exact xr_move rfl rfl) rfl rfl rfl ?_
  refine ol_val (v := .int .u32 (Int.tmod a0 2)) (by exact xr_rem rfl rfl rfl (by decide)) rfl rfl rfl ?_
  refine ol_val (v := .bool (decide ((Int.tmod a0 2) = 1))) (by exact xr_eqI rfl Try.underlying191 rfl rfl rfl) rfl rfl rfl ?_
  refine ol_nil ?_
  rcases is h with ⟨c1, h⟩ | ⟨c1, h⟩
  · refine cw_condT rfl c1 ?_
    refine cw_seq ?_
    refine cw_region ?_
    refine ol_val (v := .int .u32 a0) (by exact xr_move rfl rfl) rfl rfl rfl ?_
    refine ol_val (v := .int .u32 (IntKind.u32.wrap (Int.tdiv a0 2))) (by exact xr_quo rfl rfl rfl (by decide)) rfl rfl rfl ?_
    refine ol_val (v := .int .u32 (bXor .u32 (IntKind.u32.wrap (Int.tdiv a0 2)) 2197175160)) (by exact xr_xor rfl rfl rfl) rfl rfl rfl ?_
    refine ol_val (v := .int .u32 (bXor .u32 (IntKind.u32.wrap (Int.tdiv a0 2)) 2197175160)) (by exact xr_assign rfl rfl) rfl rfl rfl ?_
    refine ol_nil ?_
    refine cw_ret ?_
    repeat (first | with_reducible refine thn_r ?_ | with_reducible refine blk_r ?_)
    obtain rfl := Option.some.inj h
    refine fin_ret1 Try.results153 rfl ?_
    exact ⟨_, rfl, rfl, fB⟩
  · refine cw_condF rfl c1 ?_
    refine cw_skip ?_
    refine cw_seq ?_
    refine cw_region ?_
    refine ol_val (v := .int .u32 a0) (by exact xr_move rfl rfl) rfl rfl rfl ?_
    refine ol_val (v := .int .u32 (IntKind.u32.wrap (Int.tdiv a0 2))) (by exact xr_quo rfl rfl rfl (by decide)) rfl rfl rfl ?_
    refine ol_val (v := .int .u32 (IntKind.u32.wrap (Int.tdiv a0 2))) (by exact xr_assign rfl rfl) rfl rfl rfl ?_
    refine ol_nil ?_
    refine cw_ret ?_
    repeat (first | with_reducible refine thn_r ?_ | with_reducible refine blk_r ?_)
    obtain rfl := Option.some.inj h
    refine fin_ret1 Try.results153 rfl ?_
    exact ⟨_, rfl, rfl, fB⟩
end Go.Proofs.Ytklhbaghbmndeaa

/- rickyard/rickyardref02.Steps: its model, and that the Go function computes it: written by gen.py. -/
set_option linter.unusedVariables false
namespace Go.Proofs.Ytklhbaghbmndeaa
open Go Go.Xw
def rickyardref02_Steps.s0 (fu : Nat) (a1 : Int) : (Int × Int) → Option (Sum Int (Int × Int)) := fun s1 => (if (decide (s1.2 < a1)) = true then ((rickyardref02_Step.f fu s1.1 : Option Int).bind fun t9 => some (Sum.inr (t9, (IntKind.i64.wrap (s1.2 + 1))))) else some (Sum.inl (s1.1)))
def rickyardref02_Steps.f (fu : Nat) (a0 : Int) (a1 : Int) : Option Int := ((loopM (rickyardref02_Steps.s0 fu a1) fu (a0, 0)).bind fun e2 => some (e2))
set_option maxRecDepth 100000 in
set_option maxHeartbeats 400000 in
theorem rickyardref02_Steps.ok (fu : Nat) (w : World) (a0 : Int) (a1 : Int) (r : Int) (h : rickyardref02_Steps.f fu a0 a1 = some r) :
    Calls Try.prog 148 (([.int .u32 a0, .int .i64 a1] : List Value).toArray) w (fun e w' => ∃ v, e = .returned v ∧ v = .int .u32 r ∧ Gr w w') := by
  unfold rickyardref02_Steps.f at h
  have fB : Gr w w := Fr.refl _ _
  refine calls_cw Try.func148 rfl Try.ntmps148 rfl ?_
  refine cw_seq ?_
  refine cw_region ?_
  refine ol_val (v := .int .u32 0) (by exact xr_assign rfl rfl) rfl rfl rfl ?_
  refine ol_nil ?_
  refine cw_seq ?_
  refine cw_seq ?_
  refine cw_region ?_
  refine ol_val (v := .int .i64 0) (by exact xr_assign rfl rfl) rfl rfl rfl ?_
  refine ol_nil ?_
  obtain ⟨e2, l3, h4⟩ := bs h
  refine cw_mid (fun ρ' w' => ρ' 0 = .int .u32 e2 ∧ Gr w w') ?_ ?_
  · refine cw_block ?_
    refine cw_round (fun (s1 : Int × Int) ρ' w' => ρ' 0 = .int .u32 s1.1 ∧ ρ' 1 = .int .i64 a1 ∧ ρ' 5 = .int .i64 s1.2 ∧ Gr w w') l3 ?_ ?_
    · skip
      exact ⟨rfl, rfl, rfl, fB⟩
    · rintro s1 x7 ρ5 w6 ⟨e0, e1, e5, fB⟩ h
      unfold rickyardref02_Steps.s0 at h
      refine cw_seq ?_
      refine cw_seq ?_
      refine cw_region ?_
      refine ol_val (v := .int .i64 s1.2) (by exact xr_move rfl e5) rfl rfl rfl ?_
      refine ol_val (v := .int .i64 a1) (by exact xr_move rfl e1) rfl rfl rfl ?_
      refine ol_val (v := .bool (decide (s1.2 < a1))) (by exact xr_lss rfl rfl rfl) rfl rfl rfl ?_
      refine ol_nil ?_
      rcases is h with ⟨c8, h⟩ | ⟨c8, h⟩
      · refine cw_condT rfl c8 ?_
        refine cw_skip ?_
        refine cw_seq ?_
        refine cw_block ?_
        refine cw_region ?_
        refine ol_val (v := .int .u32 s1.1) (by exact xr_move rfl e0) rfl rfl rfl ?_
        obtain ⟨t9, k10, h⟩ := bs h
        refine ol_op (by exact opv_call rfl cal153 (ac rfl an) (rickyardref02_Step.ok fu _ s1.1 _ k10)) rfl rfl rfl ?_
        rintro _ w12 ⟨rfl, q11⟩
        have fB := fB.gr q11
        refine ol_val (v := .int .u32 t9) (by exact xr_assign rfl rfl) rfl rfl rfl ?_
        refine ol_nil ?_
        refine blk_i ?_
        refine cw_region ?_
        refine ol_val (v := .int .i64 s1.2) (by exact xr_move rfl e5) rfl rfl rfl ?_
        refine ol_val (v := .int .i64 (IntKind.i64.wrap (s1.2 + 1))) (by exact xr_add rfl rfl rfl) rfl rfl rfl ?_
        refine ol_val (v := .int .i64 (IntKind.i64.wrap (s1.2 + 1))) (by exact xr_assign rfl rfl) rfl rfl rfl ?_
        refine ol_nil ?_
        obtain rfl := Option.some.inj h
        refine lp_in ?_
        exact ⟨rfl, e1, rfl, fB⟩
      · refine cw_condF rfl c8 ?_
        refine cw_exit ?_
        repeat (first | with_reducible refine thn_e ?_ | with_reducible refine blk_e rfl ?_)
        obtain rfl := Option.some.inj h
        refine lp_exit ?_
        rintro rfl
        refine thn_x ?_
        exact ⟨e0, fB⟩
  · rintro ρ13 w14 ⟨e0, fB⟩
    have h := h4
    refine cw_seq ?_
    refine cw_region ?_
    refine ol_val (v := .int .u32 e2) (by exact xr_move rfl e0) rfl rfl rfl ?_
    refine ol_val (v := .int .u32 e2) (by exact xr_assign rfl rfl) rfl rfl rfl ?_
    refine ol_nil ?_
    refine cw_ret ?_
    repeat (first | with_reducible refine thn_r ?_ | with_reducible refine blk_r ?_)
    obtain rfl := Option.some.inj h
    refine fin_ret1 Try.results148 rfl ?_
    exact ⟨_, rfl, rfl, fB⟩
end Go.Proofs.Ytklhbaghbmndeaa

/- rickyard/rickyardref02.Sum: its model, and that the Go function computes it: written by gen.py. -/
set_option linter.unusedVariables false
namespace Go.Proofs.Ytklhbaghbmndeaa
open Go Go.Xw
def rickyardref02_Sum.s0 (fu : Nat) (a0 : List Int) : (Int × Int) → Option (Sum Int (Int × Int)) := fun s1 => (if (decide (s1.2 < (List.length a0 : Int))) = true then (if 0 ≤ s1.2 ∧ s1.2 < (List.length a0 : Int) then ((rickyardref02_Steps.f fu (bXor .u32 s1.1 (IntKind.u32.wrap (ix a0 s1.2))) 8 : Option Int).bind fun t10 => some (Sum.inr (t10, (IntKind.i64.wrap (s1.2 + 1))))) else none) else some (Sum.inl (s1.1)))
def rickyardref02_Sum.f (fu : Nat) (a0 : List Int) : Option Int := ((loopM (rickyardref02_Sum.s0 fu a0) fu (4294967295, 0)).bind fun e2 => some ((IntKind.u32.wrap (4294967295 - e2))))
set_option maxRecDepth 100000 in
set_option maxHeartbeats 400000 in
theorem rickyardref02_Sum.ok (fu : Nat) (w : World) (a0 : List Int) (V0_0 : Value) (R0_0 : Rd (kI .u8) w V0_0 a0) (r : Int) (h : rickyardref02_Sum.f fu a0 = some r) :
    Calls Try.prog 139 (([V0_0] : List Value).toArray) w (fun e w' => ∃ v, e = .returned v ∧ v = .int .u32 r ∧ Gr w w') := by
  unfold rickyardref02_Sum.f at h
  have fB : Gr w w := Fr.refl _ _
  refine calls_cw Try.func139 rfl Try.ntmps139 rfl ?_
  refine cw_seq ?_
  refine cw_region ?_
  refine ol_val (v := .int .u32 0) (by exact xr_assign rfl rfl) rfl rfl rfl ?_
  refine ol_nil ?_
  refine cw_seq ?_
  refine cw_region ?_
  refine ol_val (v := .int .u32 4294967295) (by exact xr_assign rfl rfl) rfl rfl rfl ?_
  refine ol_nil ?_
  refine cw_seq ?_
  refine cw_seq ?_
  refine cw_region ?_
  refine ol_val (v := .int .i64 0) (by exact xr_assign rfl rfl) rfl rfl rfl ?_
  refine ol_nil ?_
  obtain ⟨e2, l3, h4⟩ := bs h
  refine cw_mid (fun ρ' w' => ρ' 3 = .int .u32 e2 ∧ Gr w w') ?_ ?_
  · refine cw_block ?_
    refine cw_round (fun (s1 : Int × Int) ρ' w' => ρ' 0 = V0_0 ∧ ρ' 3 = .int .u32 s1.1 ∧ ρ' 4 = .int .i64 s1.2 ∧ Gr w w') l3 ?_ ?_
    · skip
      exact ⟨rfl, rfl, rfl, fB⟩
    · rintro s1 x7 ρ5 w6 ⟨e0, e3, e4, fB⟩ h
      unfold rickyardref02_Sum.s0 at h
      refine cw_seq ?_
      refine cw_seq ?_
      refine cw_region ?_
      refine ol_val (v := .int .i64 s1.2) (by exact xr_move rfl e4) rfl rfl rfl ?_
      refine ol_val (v := V0_0) (by exact xr_move rfl e0) rfl rfl rfl ?_
      refine ol_val (v := .int .i64 (List.length a0 : Int)) (by exact xr_lenR rfl Try.underlying43 rfl (R0_0.gr fB)) rfl rfl rfl ?_
      refine ol_val (v := .bool (decide (s1.2 < (List.length a0 : Int)))) (by exact xr_lss rfl rfl rfl) rfl rfl rfl ?_
      refine ol_nil ?_
      rcases is h with ⟨c8, h⟩ | ⟨c8, h⟩
      · refine cw_condT rfl c8 ?_
        refine cw_skip ?_
        refine cw_seq ?_
        refine cw_block ?_
        refine cw_region ?_
        refine ol_val (v := .int .u32 s1.1) (by exact xr_move rfl e3) rfl rfl rfl ?_
        refine ol_val (v := V0_0) (by exact xr_move rfl e0) rfl rfl rfl ?_
        refine ol_val (v := .int .i64 s1.2) (by exact xr_move rfl e4) rfl rfl rfl ?_
        obtain ⟨g9, h⟩ := gs h
        refine ol_val (v := .pointer (some ⟨(sb V0_0), so V0_0 + Int.toNat s1.2 * 1, none⟩)) (by exact xr_indexR (K := (kI .u8)) (v := V0_0) rfl Try.underlying43 sz5 rfl (R0_0.gr fB) rfl g9.1 g9.2) rfl rfl rfl ?_
        refine ol_val (v := .int .u8 (ix a0 s1.2)) (by exact xr_load1 (v := .int .u8 (ix a0 s1.2)) rfl ag5 rfl ((R0_0.gr fB).elem g9.1 g9.2)) rfl rfl rfl ?_
        refine ol_val (v := .int .u32 (IntKind.u32.wrap (ix a0 s1.2))) (by exact xr_conv rfl Try.underlying5 Try.underlying191 rfl) rfl rfl rfl ?_
        refine ol_val (v := .int .u32 (bXor .u32 s1.1 (IntKind.u32.wrap (ix a0 s1.2)))) (by exact xr_xor rfl rfl rfl) rfl rfl rfl ?_
        obtain ⟨t10, k11, h⟩ := bs h
        refine ol_op (by exact opv_call rfl cal148 (ac rfl (ac rfl an)) (rickyardref02_Steps.ok fu _ (bXor .u32 s1.1 (IntKind.u32.wrap (ix a0 s1.2))) 8 _ k11)) rfl rfl rfl ?_
        rintro _ w13 ⟨rfl, q12⟩
        have fB := fB.gr q12
        refine ol_val (v := .int .u32 t10) (by exact xr_assign rfl rfl) rfl rfl rfl ?_
        refine ol_nil ?_
        refine blk_i ?_
        refine cw_region ?_
        refine ol_val (v := .int .i64 s1.2) (by exact xr_move rfl e4) rfl rfl rfl ?_
        refine ol_val (v := .int .i64 (IntKind.i64.wrap (s1.2 + 1))) (by exact xr_add rfl rfl rfl) rfl rfl rfl ?_
        refine ol_val (v := .int .i64 (IntKind.i64.wrap (s1.2 + 1))) (by exact xr_assign rfl rfl) rfl rfl rfl ?_
        refine ol_nil ?_
        obtain rfl := Option.some.inj h
        refine lp_in ?_
        exact ⟨e0, rfl, rfl, fB⟩
      · refine cw_condF rfl c8 ?_
        refine cw_exit ?_
        repeat (first | with_reducible refine thn_e ?_ | with_reducible refine blk_e rfl ?_)
        obtain rfl := Option.some.inj h
        refine lp_exit ?_
        rintro rfl
        refine thn_x ?_
        exact ⟨e3, fB⟩
  · rintro ρ14 w15 ⟨e3, fB⟩
    have h := h4
    refine cw_seq ?_
    refine cw_region ?_
    refine ol_val (v := .int .u32 e2) (by exact xr_move rfl e3) rfl rfl rfl ?_
    refine ol_val (v := .int .u32 (IntKind.u32.wrap (4294967295 - e2))) (by exact xr_sub rfl rfl rfl) rfl rfl rfl ?_
    refine ol_val (v := .int .u32 (IntKind.u32.wrap (4294967295 - e2))) (by exact xr_assign rfl rfl) rfl rfl rfl ?_
    refine ol_nil ?_
    refine cw_ret ?_
    repeat (first | with_reducible refine thn_r ?_ | with_reducible refine blk_r ?_)
    obtain rfl := Option.some.inj h
    refine fin_ret1 Try.results139 rfl ?_
    exact ⟨_, rfl, rfl, fB⟩
end Go.Proofs.Ytklhbaghbmndeaa

/- Sums in plain words: steps of one bit over words of 32 bits; the program's halves of octets and the document's single steps tell the same. -/
set_option linter.unusedVariables false
set_option linter.unusedSimpArgs false
namespace Go.Proofs.Ytklhbaghbmndeaa.Pure
open Go Go.Xw
def I32 (x : BitVec 32) : Int := (x.toNat : Int)
theorem I32_lt (x : BitVec 32) : 0 ≤ I32 x ∧ I32 x ≤ 4294967295 := by
  unfold I32
  have := x.isLt
  omega
theorem ofI (x : BitVec 32) : BitVec.ofInt 32 (I32 x) = x := by
  unfold I32
  rw [BitVec.ofInt_natCast, BitVec.ofNat_toNat, BitVec.setWidth_eq]
theorem I32_of {n : Int} (h0 : 0 ≤ n) (h1 : n ≤ 4294967295) : n = I32 (BitVec.ofNat 32 n.toNat) := by
  unfold I32
  rw [BitVec.toNat_ofNat, Nat.mod_eq_of_lt (by omega)]
  omega
theorem wI32 (x : BitVec 32) : IntKind.u32.wrap (I32 x) = I32 x := wu32 (I32_lt x).1 (I32_lt x).2
theorem bx32 (x y : BitVec 32) : bXor .u32 (I32 x) (I32 y) = I32 (x ^^^ y) := by
  unfold bXor
  show IntKind.u32.wrap (((BitVec.ofInt 32 (I32 x) ^^^ BitVec.ofInt 32 (I32 y)).toNat : Nat) : Int) = _
  rw [ofI, ofI]
  exact wI32 _
theorem ba32 (x y : BitVec 32) : bAnd .u32 (I32 x) (I32 y) = I32 (x &&& y) := by
  unfold bAnd
  show IntKind.u32.wrap (((BitVec.ofInt 32 (I32 x) &&& BitVec.ofInt 32 (I32 y)).toNat : Nat) : Int) = _
  rw [ofI, ofI]
  exact wI32 _
theorem sr32 (x : BitVec 32) (n : Nat) (hn : n ≤ 32) : shR .u32 (I32 x) (n : Int) = I32 (x >>> n) := by
  unfold shR I32
  rw [BitVec.toNat_ushiftRight, Nat.shiftRight_eq_div_pow]
  show Int.fdiv (x.toNat : Int) (2 ^ min ((n : Int).toNat) 32) = _
  rw [Int.toNat_natCast, Nat.min_eq_left hn, Int.fdiv_eq_ediv_of_nonneg _ (Int.le_of_lt (Int.pow_pos (by decide)))]
  simp
def poly : BitVec 32 := 2197175160#32
def stp (x : BitVec 32) : BitVec 32 := (x >>> 1) ^^^ (if x.getLsbD 0 then poly else 0#32)
theorem lsb_and (x : BitVec 32) : (I32 (x &&& 1#32) = 1) ↔ x.getLsbD 0 = true := by
  unfold I32
  rw [BitVec.toNat_and]
  show ((x.toNat &&& 1 : Nat) : Int) = 1 ↔ x.toNat.testBit 0 = true
  rw [Nat.and_one_is_mod, Nat.testBit_zero]
  simp
  omega
theorem step_eq (fu : Nat) (x : BitVec 32) : crc_step.f fu (I32 x) = some (I32 (stp x)) := by
  unfold crc_step.f stp
  have e1 : bAnd .u32 (I32 x) 1 = I32 (x &&& 1#32) := ba32 x 1#32
  have e2 : shR .u32 (I32 x) 1 = I32 (x >>> 1) := sr32 x 1 (by decide)
  have e3 : bXor .u32 (I32 (x >>> 1)) 2197175160 = I32 (x >>> 1 ^^^ poly) := bx32 (x >>> 1) poly
  rw [e1, e2, e3]
  by_cases h : x.getLsbD 0 = true
  · rw [if_pos (by simpa using (lsb_and x).2 h), if_pos h]
  · rw [if_neg (by simpa using fun e => h ((lsb_and x).1 e)), if_neg h]
    simp
theorem rstep_eq (fu : Nat) (x : BitVec 32) : rickyardref02_Step.f fu (I32 x) = some (I32 (stp x)) := by
  unfold rickyardref02_Step.f stp
  have hb := I32_lt x
  have e1 : Int.tmod (I32 x) 2 = I32 (x &&& 1#32) := by
    rw [Int.tmod_eq_emod_of_nonneg hb.1]
    unfold I32
    rw [BitVec.toNat_and]
    show ((x.toNat : Int)) % 2 = ((x.toNat &&& 1 : Nat) : Int)
    rw [Nat.and_one_is_mod]
    omega
  have e2 : Int.tdiv (I32 x) 2 = I32 (x >>> 1) := by
    rw [Int.tdiv_eq_ediv_of_nonneg hb.1]
    unfold I32
    rw [BitVec.toNat_ushiftRight, Nat.shiftRight_eq_div_pow]
    omega
  have e3 : bXor .u32 (I32 (x >>> 1)) 2197175160 = I32 (x >>> 1 ^^^ poly) := bx32 (x >>> 1) poly
  rw [e1, e2, wI32, e3]
  by_cases h : x.getLsbD 0 = true
  · rw [if_pos (by simpa using (lsb_and x).2 h), if_pos h]
  · rw [if_neg (by simpa using fun e => h ((lsb_and x).1 e)), if_neg h]
    simp
theorem xor4 (a b p q : BitVec 32) : (a ^^^ b) ^^^ (p ^^^ q) = (a ^^^ p) ^^^ (b ^^^ q) := by
  rw [BitVec.xor_assoc, ← BitVec.xor_assoc b, BitVec.xor_comm b p, BitVec.xor_assoc p, ← BitVec.xor_assoc]
theorem sel_xor (a b : Bool) (p : BitVec 32) : (if (a ^^ b) = true then p else 0#32) = (if a = true then p else 0#32) ^^^ (if b = true then p else 0#32) := by
  cases a <;> cases b <;> simp
theorem stp_xor (x y : BitVec 32) : stp (x ^^^ y) = stp x ^^^ stp y := by
  unfold stp
  rw [BitVec.ushiftRight_xor_distrib, BitVec.getLsbD_xor, sel_xor, xor4]
def stps : Nat → BitVec 32 → BitVec 32
  | 0, x => x
  | n + 1, x => stps n (stp x)
theorem stps_xor : ∀ (n : Nat) (x y : BitVec 32), stps n (x ^^^ y) = stps n x ^^^ stps n y
  | 0, x, y => rfl
  | n + 1, x, y => by
    unfold stps
    rw [stp_xor, stps_xor n]
theorem stps_add (m : Nat) : ∀ (n : Nat) (x : BitVec 32), stps (n + m) x = stps m (stps n x)
  | 0, x => by simp [stps]
  | n + 1, x => by
    rw [Nat.add_right_comm]
    show stps (n + m) (stp x) = stps m (stps n (stp x))
    exact stps_add m n (stp x)
theorem stps_succ (n : Nat) (x : BitVec 32) : stps (n + 1) x = stp (stps n x) := stps_add 1 n x
theorem stp_even {x : BitVec 32} (h : x.getLsbD 0 = false) : stp x = x >>> 1 := by
  unfold stp
  rw [h]
  simp
theorem stps_high (x : BitVec 32) : ∀ n, (∀ j, j < n → x.getLsbD j = false) → stps n x = x >>> n
  | 0, _ => by simp [stps]
  | n + 1, h => by
    rw [stps_succ, stps_high x n fun j hj => h j (by omega)]
    rw [stp_even (by rw [BitVec.getLsbD_ushiftRight]; exact h (n + 0) (by omega)), ← BitVec.shiftRight_add]
theorem low_bit (n j : Nat) (hj : j < n) (hn : n ≤ 32) : (BitVec.ofNat 32 (2 ^ n - 1)).getLsbD j = true := by
  rw [BitVec.getLsbD_ofNat, Nat.testBit_two_pow_sub_one]
  simp
  omega
theorem high_bit (n j : Nat) (hj : n ≤ j) : (BitVec.ofNat 32 (2 ^ n - 1)).getLsbD j = false := by
  rw [BitVec.getLsbD_ofNat, Nat.testBit_two_pow_sub_one]
  simp
  omega
/-- n steps: what is above the lowest n bits moves down, the lowest n bits make the rest. -/
theorem stps_split (n : Nat) (hn : n ≤ 32) (x : BitVec 32) : stps n x = (x >>> n) ^^^ stps n (x &&& BitVec.ofNat 32 (2 ^ n - 1)) := by
  have e : x = (x &&& ~~~ BitVec.ofNat 32 (2 ^ n - 1)) ^^^ (x &&& BitVec.ofNat 32 (2 ^ n - 1)) := by
    apply BitVec.eq_of_getLsbD_eq
    intro i hi
    rw [BitVec.getLsbD_xor, BitVec.getLsbD_and, BitVec.getLsbD_and, BitVec.getLsbD_not]
    cases x.getLsbD i <;> cases (BitVec.ofNat 32 (2 ^ n - 1)).getLsbD i <;> simp [hi]
  conv => lhs; rw [e]
  rw [stps_xor, stps_high]
  · congr 1
    apply BitVec.eq_of_getLsbD_eq
    intro i hi
    rw [BitVec.getLsbD_ushiftRight, BitVec.getLsbD_ushiftRight, BitVec.getLsbD_and, BitVec.getLsbD_not, high_bit n (n + i) (by omega)]
    by_cases h : n + i < 32
    · simp [h]
    · have : x.getLsbD (n + i) = false := BitVec.getLsbD_of_ge _ _ (by omega)
      simp [this]
  · intro j hj
    rw [BitVec.getLsbD_and, BitVec.getLsbD_not, low_bit n j hj hn]
    simp
/-- Steps lose nothing. -/
theorem stp_inj0 {x : BitVec 32} (h : stp x = 0#32) : x = 0#32 := by
  unfold stp at h
  have hp : poly.getLsbD 31 = true := by decide
  have h31 : (stp x).getLsbD 31 = x.getLsbD 0 := by
    unfold stp
    rw [BitVec.getLsbD_xor, BitVec.getLsbD_ushiftRight, BitVec.getLsbD_of_ge x (1 + 31) (by omega)]
    cases x.getLsbD 0 <;> simp [hp]
  have h0 : x.getLsbD 0 = false := by
    rw [← h31]
    unfold stp
    rw [h]
    simp
  simp only [h0] at h
  apply BitVec.eq_of_getLsbD_eq
  intro i hi
  cases i with
  | zero => rw [h0]; simp
  | succ i =>
    have := congrArg (fun z => z.getLsbD i) h
    simp [BitVec.getLsbD_ushiftRight] at this
    rw [Nat.add_comm] at this
    simpa using this
theorem stps_inj0 : ∀ (n : Nat) {x : BitVec 32}, stps n x = 0#32 → x = 0#32
  | 0, x, h => h
  | n + 1, x, h => stp_inj0 (stps_inj0 n h)
def Bytes (l : List Int) : Prop := ∀ x ∈ l, 0 ≤ x ∧ x ≤ 255
def b32 (c : Int) : BitVec 32 := BitVec.ofNat 32 c.toNat
theorem b32_eq {c : Int} (h : 0 ≤ c ∧ c ≤ 255) : IntKind.u32.wrap c = I32 (b32 c) := by
  rw [wu32 h.1 (by omega)]
  exact I32_of h.1 (by omega)
def take8 (x : BitVec 32) (c : Int) : BitVec 32 := stps 8 (x ^^^ b32 c)
def regs (x : BitVec 32) (l : List Int) : BitVec 32 := l.foldl take8 x
def tabL : List Int := (List.range 16).map fun i => I32 (stps 4 (BitVec.ofNat 32 i))
def tabA : Arr 16 Int := ⟨tabL, rfl⟩
theorem table_at (n : Nat) : crc_Table.f (n + 20) = some tabA := by kernel_rfl
theorem table_eq {fu : Nat} (h : 20 ≤ fu) : crc_Table.f fu = some tabA := by
  obtain ⟨n, rfl⟩ : ∃ n, fu = n + 20 := ⟨fu - 20, by omega⟩
  exact table_at n
theorem tab_get : ∀ i : Fin 16, Arr.get tabA ((i : Nat) : Int) = I32 (stps 4 (BitVec.ofNat 32 (i : Nat))) := by decide +kernel
theorem nib (x : BitVec 32) : bXor .u32 (shR .u32 (I32 x) 4) (Arr.get tabA (bAnd .u32 (I32 x) 15)) = I32 (stps 4 x) := by
  have e1 : bAnd .u32 (I32 x) 15 = I32 (x &&& 15#32) := ba32 x 15#32
  have e2 : shR .u32 (I32 x) 4 = I32 (x >>> 4) := sr32 x 4 (by decide)
  have hlt : (x &&& 15#32).toNat < 16 := by
    rw [BitVec.toNat_and]
    exact Nat.lt_of_le_of_lt Nat.and_le_right (by decide)
  have e3 : Arr.get tabA (I32 (x &&& 15#32)) = I32 (stps 4 (x &&& 15#32)) := by
    have := tab_get ⟨(x &&& 15#32).toNat, hlt⟩
    simp only [BitVec.ofNat_toNat, BitVec.setWidth_eq] at this
    exact this
  rw [e1, e2, e3, bx32]
  exact congrArg I32 (stps_split 4 (by decide) x).symm
theorem nib_in (x : BitVec 32) : 0 ≤ bAnd .u32 (I32 x) 15 ∧ bAnd .u32 (I32 x) 15 < 16 := by
  have e1 : bAnd .u32 (I32 x) 15 = I32 (x &&& 15#32) := ba32 x 15#32
  have hlt : (x &&& 15#32).toNat < 16 := by
    rw [BitVec.toNat_and]
    exact Nat.lt_of_le_of_lt Nat.and_le_right (by decide)
  rw [e1]
  unfold I32
  omega
theorem ix_nat {α : Type} [Inhabited α] {l : List α} {j : Nat} (h : j < l.length) : ix l (j : Int) = l[j] := by
  simp [ix, List.getD_eq_getElem?_getD, List.getElem?_eq_getElem h]
theorem take_next {α : Type} {l : List α} {j : Nat} (h : j < l.length) : l.take (j + 1) = l.take j ++ [l[j]] := by
  rw [List.take_add_one, List.getElem?_eq_getElem h]
  rfl
theorem reg_eq {fu : Nat} {x : BitVec 32} {l : List Int} (hb : Bytes l) (hl : l.length ≤ 9000000000000000000) (hf : l.length < fu) : crc_register.f fu tabA (I32 x) l = some (I32 (regs x l)) := by
  unfold crc_register.f
  have : loopM (crc_register.s0 fu tabA l) fu (I32 x, 0) = some (I32 (regs x l)) := by
    refine loopM_run (S := fun j => (I32 (regs x (l.take j)), (j : Int))) l.length (by simp [regs]) ?_ ?_ hf
    · intro j hj
      unfold crc_register.s0
      have h1 : (j : Int) < (l.length : Int) := by omega
      have w3 : IntKind.i64.wrap ((j : Int) + 1) = ((j + 1 : Nat) : Int) := by rw [w64 (by omega) (by omega)]; omega
      have hc := hb _ (List.getElem_mem hj)
      have e1 : bXor .u32 (I32 (regs x (l.take j))) (IntKind.u32.wrap (ix l (j : Int))) = I32 (regs x (l.take j) ^^^ b32 l[j]) := by
        rw [ix_nat hj, b32_eq hc, bx32]
      have e2 : regs x (l.take (j + 1)) = stps 4 (stps 4 (regs x (l.take j) ^^^ b32 l[j])) := by
        rw [take_next hj]
        unfold regs
        rw [List.foldl_append]
        exact stps_add 4 4 _
      simp only [h1, decide_true, if_true, e1, nib, w3, e2]
      rw [if_pos ⟨by omega, trivial⟩, if_pos (nib_in _), if_pos (nib_in _)]
    · unfold crc_register.s0
      simp
  rw [this]
  rfl
def ones : BitVec 32 := 4294967295#32
def crc (l : List Int) : BitVec 32 := regs ones l ^^^ ones
theorem regs_append (x : BitVec 32) (a b : List Int) : regs x (a ++ b) = regs (regs x a) b := by
  unfold regs
  rw [List.foldl_append]
theorem sum_eq {fu : Nat} {l : List Int} (hb : Bytes l) (hl : l.length ≤ 9000000000000000000) (hf : l.length + 20 < fu) : crc_Sum.f fu [l] = some (I32 (crc l)) := by
  unfold crc_Sum.f
  rw [table_eq (by omega)]
  have : loopM (crc_Sum.s0 fu [l] tabA) fu (4294967295, 0) = some (I32 (regs ones l)) := by
    refine loopM_run (S := fun j => (if j = 0 then I32 ones else I32 (regs ones l), (j : Int))) 1 rfl ?_ ?_ (by omega)
    · intro j hj
      obtain rfl : j = 0 := by omega
      unfold crc_Sum.s0
      have e0 : ix [l] ((0 : Nat) : Int) = l := rfl
      have w3 : IntKind.i64.wrap (((0 : Nat) : Int) + 1) = ((0 + 1 : Nat) : Int) := by decide
      simp only [e0, w3, if_true, reg_eq hb hl (by omega : l.length < fu)]
      simp
    · unfold crc_Sum.s0
      simp
  simp only [Option.bind_some]
  rw [this]
  simp only [Option.bind_some]
  exact congrArg some (bx32 _ ones)
theorem rsteps_eq {fu : Nat} {x : BitVec 32} (hf : 8 < fu) : rickyardref02_Steps.f fu (I32 x) 8 = some (I32 (stps 8 x)) := by
  unfold rickyardref02_Steps.f
  have : loopM (rickyardref02_Steps.s0 fu 8) fu (I32 x, 0) = some (I32 (stps 8 x)) := by
    refine loopM_run (S := fun j => (I32 (stps j x), (j : Int))) 8 rfl ?_ ?_ hf
    · intro j hj
      unfold rickyardref02_Steps.s0
      have h1 : (j : Int) < 8 := by omega
      have w3 : IntKind.i64.wrap ((j : Int) + 1) = ((j + 1 : Nat) : Int) := by rw [w64 (by omega) (by omega)]; omega
      simp only [h1, decide_true, if_true, rstep_eq, w3, stps_succ]
      rfl
    · unfold rickyardref02_Steps.s0
      simp
  rw [this]
  rfl
theorem rsum_eq {fu : Nat} {l : List Int} (hb : Bytes l) (hl : l.length ≤ 9000000000000000000) (hf : l.length + 20 < fu) : rickyardref02_Sum.f fu l = some (I32 (crc l)) := by
  unfold rickyardref02_Sum.f
  have : loopM (rickyardref02_Sum.s0 fu l) fu (4294967295, 0) = some (I32 (regs ones l)) := by
    refine loopM_run (S := fun j => (I32 (regs ones (l.take j)), (j : Int))) l.length (by simp [regs]; rfl) ?_ ?_ (by omega)
    · intro j hj
      unfold rickyardref02_Sum.s0
      have h1 : (j : Int) < (l.length : Int) := by omega
      have w3 : IntKind.i64.wrap ((j : Int) + 1) = ((j + 1 : Nat) : Int) := by rw [w64 (by omega) (by omega)]; omega
      have hc := hb _ (List.getElem_mem hj)
      have e1 : bXor .u32 (I32 (regs ones (l.take j))) (IntKind.u32.wrap (ix l (j : Int))) = I32 (regs ones (l.take j) ^^^ b32 l[j]) := by
        rw [ix_nat hj, b32_eq hc, bx32]
      have e2 : regs ones (l.take (j + 1)) = stps 8 (regs ones (l.take j) ^^^ b32 l[j]) := by
        rw [take_next hj]
        unfold regs
        rw [List.foldl_append]
        rfl
      simp only [h1, decide_true, if_true, e1, w3, e2, rsteps_eq (by omega : 8 < fu)]
      rw [if_pos ⟨by omega, trivial⟩]
      rfl
    · unfold rickyardref02_Sum.s0
      simp
  rw [this]
  have e : IntKind.u32.wrap (4294967295 - I32 (regs ones l)) = I32 (crc l) := by
    have hlt := (regs ones l).isLt
    have h2 : (crc l).toNat = 4294967295 - (regs ones l).toNat := by
      unfold crc
      have : regs ones l ^^^ ones = ~~~ (regs ones l) := by
        apply BitVec.eq_of_getLsbD_eq
        intro i hi
        have ho : ones.getLsbD i = true := by
          have := low_bit 32 i hi (by decide)
          exact this
        rw [BitVec.getLsbD_xor, BitVec.getLsbD_not, ho]
        simp [hi]
      rw [this, BitVec.toNat_not]
    unfold I32
    rw [h2, wu32 (by omega) (by omega)]
    omega
  simp only [Option.bind_some, e]
end Go.Proofs.Ytklhbaghbmndeaa.Pure

/- rickyard/octet.there: its model, and that the Go function computes it: written by gen.py. -/
set_option linter.unusedVariables false
namespace Go.Proofs.Ytklhbaghbmndeaa
open Go Go.Xw
def octet_there.f (fu : Nat) (a0 : List Int) (a1 : Int) (a2 : Int) : Option Bool := some ((if (decide (a1 ≥ 0)) = true then (if (decide (a2 ≥ 0)) = true then (if (decide (a2 ≤ (List.length a0 : Int))) = true then (decide (a1 ≤ (IntKind.i64.wrap ((List.length a0 : Int) - a2)))) else false) else false) else false))
set_option maxRecDepth 100000 in
set_option maxHeartbeats 400000 in
theorem octet_there.ok (fu : Nat) (w : World) (a0 : List Int) (V0_0 : Value) (R0_0 : Rd (kI .u8) w V0_0 a0) (a1 : Int) (a2 : Int) (r : Bool) (h : octet_there.f fu a0 a1 a2 = some r) :
    Calls Try.prog 147 (([V0_0, .int .i64 a1, .int .i64 a2] : List Value).toArray) w (fun e w' => ∃ v, e = .returned v ∧ v = .bool r ∧ Gr w w') := by
  unfold octet_there.f at h
  have fB : Gr w w := Fr.refl _ _
  refine calls_cw Try.func147 rfl Try.ntmps147 rfl ?_
  refine cw_seq ?_
  refine cw_region ?_
  refine ol_val (v := .bool false) (by exact xr_assign rfl rfl) rfl rfl rfl ?_
  refine ol_nil ?_
  refine cw_seq ?_
  refine cw_mid (fun ρ' w' => ρ' 6 = .bool (if (decide (a1 ≥ 0)) = true then (if (decide (a2 ≥ 0)) = true then (if (decide (a2 ≤ (List.length a0 : Int))) = true then (decide (a1 ≤ (IntKind.i64.wrap ((List.length a0 : Int) - a2)))) else false) else false) else false) ∧ w = w') ?_ ?_
  · skip
    refine cw_region ?_
    refine ol_val (v := .int .i64 a1) (by exact xr_move rfl rfl) rfl rfl rfl ?_
    refine ol_val (v := .bool (decide (a1 ≥ 0))) (by exact xr_geq rfl rfl rfl) rfl rfl rfl ?_
    refine ol_val (v := .bool (decide (a1 ≥ 0))) (by exact xr_move rfl rfl) rfl rfl rfl ?_
    rcases bt (decide (a1 ≥ 0)) with c1 | c1
    · skip
      refine ol_gval (v := .int .i64 a2) (by exact xr_move rfl rfl) rfl rfl rfl rfl rfl c1 ?_
      refine ol_gval (v := .bool (decide (a2 ≥ 0))) (by exact xr_geq rfl rfl rfl) rfl rfl rfl rfl rfl c1 ?_
      refine ol_val (v := .bool (decide (a2 ≥ 0))) (by exact xr_pickT rfl rfl c1 rfl) rfl rfl rfl ?_
      refine ol_val (v := .bool (decide (a2 ≥ 0))) (by exact xr_move rfl rfl) rfl rfl rfl ?_
      rcases bt (decide (a2 ≥ 0)) with c2 | c2
      · skip
        refine ol_gval (v := .int .i64 a2) (by exact xr_move rfl rfl) rfl rfl rfl rfl rfl c2 ?_
        refine ol_gval (v := V0_0) (by exact xr_move rfl rfl) rfl rfl rfl rfl rfl c2 ?_
        refine ol_gval (v := .int .i64 (List.length a0 : Int)) (by exact xr_lenR rfl Try.underlying43 rfl (R0_0.gr fB)) rfl rfl rfl rfl rfl c2 ?_
        refine ol_gval (v := .bool (decide (a2 ≤ (List.length a0 : Int)))) (by exact xr_leq rfl rfl rfl) rfl rfl rfl rfl rfl c2 ?_
        refine ol_val (v := .bool (decide (a2 ≤ (List.length a0 : Int)))) (by exact xr_pickT rfl rfl c2 rfl) rfl rfl rfl ?_
        refine ol_val (v := .bool (decide (a2 ≤ (List.length a0 : Int)))) (by exact xr_move rfl rfl) rfl rfl rfl ?_
        rcases bt (decide (a2 ≤ (List.length a0 : Int))) with c3 | c3
        · skip
          refine ol_gval (v := .int .i64 a1) (by exact xr_move rfl rfl) rfl rfl rfl rfl rfl c3 ?_
          refine ol_gval (v := V0_0) (by exact xr_move rfl rfl) rfl rfl rfl rfl rfl c3 ?_
          refine ol_gval (v := .int .i64 (List.length a0 : Int)) (by exact xr_lenR rfl Try.underlying43 rfl (R0_0.gr fB)) rfl rfl rfl rfl rfl c3 ?_
          refine ol_gval (v := .int .i64 a2) (by exact xr_move rfl rfl) rfl rfl rfl rfl rfl c3 ?_
          refine ol_gval (v := .int .i64 (IntKind.i64.wrap ((List.length a0 : Int) - a2))) (by exact xr_sub rfl rfl rfl) rfl rfl rfl rfl rfl c3 ?_
          refine ol_gval (v := .bool (decide (a1 ≤ (IntKind.i64.wrap ((List.length a0 : Int) - a2))))) (by exact xr_leq rfl rfl rfl) rfl rfl rfl rfl rfl c3 ?_
          refine ol_val (v := .bool (decide (a1 ≤ (IntKind.i64.wrap ((List.length a0 : Int) - a2))))) (by exact xr_pickT rfl rfl c3 rfl) rfl rfl rfl ?_
          refine ol_val (v := .bool (decide (a1 ≤ (IntKind.i64.wrap ((List.length a0 : Int) - a2))))) (by exact xr_assign rfl rfl) rfl rfl rfl ?_
          refine ol_nil ?_
          refine thn_i ?_
          exact ⟨(rfl).trans (congrArg (fun z => (.bool z : Value)) (show (decide (a1 ≤ (IntKind.i64.wrap ((List.length a0 : Int) - a2)))) = (if (decide (a1 ≥ 0)) = true then (if (decide (a2 ≥ 0)) = true then (if (decide (a2 ≤ (List.length a0 : Int))) = true then (decide (a1 ≤ (IntKind.i64.wrap ((List.length a0 : Int) - a2)))) else false) else false) else false) from by rw [ite_t c1, ite_t c2, ite_t c3])), rfl⟩
        · skip
          refine ol_gskip rfl rfl rfl rfl rfl c3 ?_
          refine ol_gskip rfl rfl rfl rfl rfl c3 ?_
          refine ol_gskip rfl rfl rfl rfl rfl c3 ?_
          refine ol_gskip rfl rfl rfl rfl rfl c3 ?_
          refine ol_gskip rfl rfl rfl rfl rfl c3 ?_
          refine ol_gskip rfl rfl rfl rfl rfl c3 ?_
          refine ol_val (v := .bool false) (by exact xr_pickF rfl rfl c3 rfl) rfl rfl rfl ?_
          refine ol_val (v := .bool false) (by exact xr_assign rfl rfl) rfl rfl rfl ?_
          refine ol_nil ?_
          refine thn_i ?_
          exact ⟨(rfl).trans (congrArg (fun z => (.bool z : Value)) (show false = (if (decide (a1 ≥ 0)) = true then (if (decide (a2 ≥ 0)) = true then (if (decide (a2 ≤ (List.length a0 : Int))) = true then (decide (a1 ≤ (IntKind.i64.wrap ((List.length a0 : Int) - a2)))) else false) else false) else false) from by rw [ite_t c1, ite_t c2, ite_f c3])), rfl⟩
      · skip
        refine ol_gskip rfl rfl rfl rfl rfl c2 ?_
        refine ol_gskip rfl rfl rfl rfl rfl c2 ?_
        refine ol_gskip rfl rfl rfl rfl rfl c2 ?_
        refine ol_gskip rfl rfl rfl rfl rfl c2 ?_
        refine ol_val (v := .bool false) (by exact xr_pickF rfl rfl c2 rfl) rfl rfl rfl ?_
        refine ol_val (v := .bool false) (by exact xr_move rfl rfl) rfl rfl rfl ?_
        refine ol_gskip rfl rfl rfl rfl rfl rfl ?_
        refine ol_gskip rfl rfl rfl rfl rfl rfl ?_
        refine ol_gskip rfl rfl rfl rfl rfl rfl ?_
        refine ol_gskip rfl rfl rfl rfl rfl rfl ?_
        refine ol_gskip rfl rfl rfl rfl rfl rfl ?_
        refine ol_gskip rfl rfl rfl rfl rfl rfl ?_
        refine ol_val (v := .bool false) (by exact xr_pickF rfl rfl rfl rfl) rfl rfl rfl ?_
        refine ol_val (v := .bool false) (by exact xr_assign rfl rfl) rfl rfl rfl ?_
        refine ol_nil ?_
        refine thn_i ?_
        exact ⟨(rfl).trans (congrArg (fun z => (.bool z : Value)) (show false = (if (decide (a1 ≥ 0)) = true then (if (decide (a2 ≥ 0)) = true then (if (decide (a2 ≤ (List.length a0 : Int))) = true then (decide (a1 ≤ (IntKind.i64.wrap ((List.length a0 : Int) - a2)))) else false) else false) else false) from by rw [ite_t c1, ite_f c2])), rfl⟩
    · skip
      refine ol_gskip rfl rfl rfl rfl rfl c1 ?_
      refine ol_gskip rfl rfl rfl rfl rfl c1 ?_
      refine ol_val (v := .bool false) (by exact xr_pickF rfl rfl c1 rfl) rfl rfl rfl ?_
      refine ol_val (v := .bool false) (by exact xr_move rfl rfl) rfl rfl rfl ?_
      refine ol_gskip rfl rfl rfl rfl rfl rfl ?_
      refine ol_gskip rfl rfl rfl rfl rfl rfl ?_
      refine ol_gskip rfl rfl rfl rfl rfl rfl ?_
      refine ol_gskip rfl rfl rfl rfl rfl rfl ?_
      refine ol_val (v := .bool false) (by exact xr_pickF rfl rfl rfl rfl) rfl rfl rfl ?_
      refine ol_val (v := .bool false) (by exact xr_move rfl rfl) rfl rfl rfl ?_
      refine ol_gskip rfl rfl rfl rfl rfl rfl ?_
      refine ol_gskip rfl rfl rfl rfl rfl rfl ?_
      refine ol_gskip rfl rfl rfl rfl rfl rfl ?_
      refine ol_gskip rfl rfl rfl rfl rfl rfl ?_
      refine ol_gskip rfl rfl rfl rfl rfl rfl ?_
      refine ol_gskip rfl rfl rfl rfl rfl rfl ?_
      refine ol_val (v := .bool false) (by exact xr_pickF rfl rfl rfl rfl) rfl rfl rfl ?_
      refine ol_val (v := .bool false) (by exact xr_assign rfl rfl) rfl rfl rfl ?_
      refine ol_nil ?_
      refine thn_i ?_
      exact ⟨(rfl).trans (congrArg (fun z => (.bool z : Value)) (show false = (if (decide (a1 ≥ 0)) = true then (if (decide (a2 ≥ 0)) = true then (if (decide (a2 ≤ (List.length a0 : Int))) = true then (decide (a1 ≤ (IntKind.i64.wrap ((List.length a0 : Int) - a2)))) else false) else false) else false) from by rw [ite_f c1])), rfl⟩
  · skip
    rintro ρ4 _ ⟨e6, rfl⟩
    refine cw_ret ?_
    repeat (first | with_reducible refine thn_r ?_ | with_reducible refine blk_r ?_)
    obtain rfl := Option.some.inj h
    refine fin_ret1 Try.results147 e6 ?_
    exact ⟨_, rfl, rfl, fB⟩
end Go.Proofs.Ytklhbaghbmndeaa

/- rickyard/octet.Noughts: its model, and that the Go function computes it: written by gen.py. -/
set_option linter.unusedVariables false
namespace Go.Proofs.Ytklhbaghbmndeaa
open Go Go.Xw
def octet_Noughts.s0 (fu : Nat) (a0 : List Int) (a1 : Int) (a2 : Int) : Int → Option (Sum (Sum Bool Unit) Int) := fun s8 => (if (decide (s8 < (List.length (cut a0 a1 (IntKind.i64.wrap (a1 + a2))) : Int))) = true then (if 0 ≤ s8 ∧ s8 < (List.length (cut a0 a1 (IntKind.i64.wrap (a1 + a2))) : Int) then (if (!decide ((ix (cut a0 a1 (IntKind.i64.wrap (a1 + a2))) s8) = 0)) = true then some (Sum.inl (Sum.inl (false))) else some (Sum.inr ((IntKind.i64.wrap (s8 + 1))))) else none) else some (Sum.inl (Sum.inr ())))
def octet_Noughts.f (fu : Nat) (a0 : List Int) (a1 : Int) (a2 : Int) : Option Bool := ((octet_there.f fu a0 a1 a2 : Option Bool).bind fun t1 => (if (!t1) = true then some (false) else (if (0 : Int) ≤ a1 ∧ a1 ≤ (IntKind.i64.wrap (a1 + a2)) ∧ (IntKind.i64.wrap (a1 + a2)) ≤ (List.length a0 : Int) then ((loopM (octet_Noughts.s0 fu a0 a1 a2) fu (0)).bind fun e9 => match e9 with | Sum.inl p => some p | Sum.inr x12 => some (true)) else none)))
set_option maxRecDepth 100000 in
set_option maxHeartbeats 400000 in
theorem octet_Noughts.ok (fu : Nat) (w : World) (a0 : List Int) (V0_0 : Value) (R0_0 : Rd (kI .u8) w V0_0 a0) (a1 : Int) (a2 : Int) (r : Bool) (h : octet_Noughts.f fu a0 a1 a2 = some r) :
    Calls Try.prog 133 (([V0_0, .int .i64 a1, .int .i64 a2] : List Value).toArray) w (fun e w' => ∃ v, e = .returned v ∧ v = .bool r ∧ Gr w w') := by
  unfold octet_Noughts.f at h
  have fB : Gr w w := Fr.refl _ _
  refine calls_cw Try.func133 rfl Try.ntmps133 rfl ?_
  refine cw_seq ?_
  refine cw_region ?_
  refine ol_val (v := .bool false) (by exact xr_assign rfl rfl) rfl rfl rfl ?_
  refine ol_nil ?_
  refine cw_seq ?_
  refine cw_seq ?_
  refine cw_region ?_
  refine ol_val (v := V0_0) (by exact xr_move rfl rfl) rfl rfl rfl ?_
  refine ol_val (v := .int .i64 a1) (by exact xr_move rfl rfl) rfl rfl rfl ?_
  refine ol_val (v := .int .i64 a2) (by exact xr_move rfl rfl) rfl rfl rfl ?_
  obtain ⟨t1, k2, h⟩ := bs h
  refine ol_op (by exact opv_call rfl cal147 (ac rfl (ac rfl (ac rfl an))) (octet_there.ok fu _ a0 V0_0 (R0_0.gr fB) a1 a2 _ k2)) rfl rfl rfl ?_
  rintro _ w4 ⟨rfl, q3⟩
  have fB := fB.gr q3
  refine ol_val (v := .bool (!t1)) (by exact xr_not rfl rfl) rfl rfl rfl ?_
  refine ol_nil ?_
  rcases is h with ⟨c5, h⟩ | ⟨c5, h⟩
  · refine cw_condT rfl c5 ?_
    refine cw_seq ?_
    refine cw_region ?_
    refine ol_val (v := .bool false) (by exact xr_assign rfl rfl) rfl rfl rfl ?_
    refine ol_nil ?_
    refine cw_ret ?_
    repeat (first | with_reducible refine thn_r ?_ | with_reducible refine blk_r ?_)
    obtain rfl := Option.some.inj h
    refine fin_ret1 Try.results133 rfl ?_
    exact ⟨_, rfl, rfl, fB⟩
  · refine cw_condF rfl c5 ?_
    refine cw_skip ?_
    refine cw_seq ?_
    refine cw_seq ?_
    refine cw_region ?_
    refine ol_val (v := V0_0) (by exact xr_move rfl rfl) rfl rfl rfl ?_
    refine ol_val (v := .int .i64 a1) (by exact xr_move rfl rfl) rfl rfl rfl ?_
    refine ol_val (v := .int .i64 a1) (by exact xr_move rfl rfl) rfl rfl rfl ?_
    refine ol_val (v := .int .i64 a2) (by exact xr_move rfl rfl) rfl rfl rfl ?_
    refine ol_val (v := .int .i64 (IntKind.i64.wrap (a1 + a2))) (by exact xr_add rfl rfl rfl) rfl rfl rfl ?_
    obtain ⟨g7, h⟩ := gs h
    refine ol_val (v := subv 1 V0_0 (Int.toNat a1) (Int.toNat (IntKind.i64.wrap (a1 + a2)))) (by exact xr_slice_lh (K := (kI .u8)) (v := V0_0) rfl Try.underlying43 sz5 rfl (R0_0.gr fB) rfl rfl g7.1 g7.2.1 g7.2.2) rfl rfl rfl ?_
    have r6 : Rd (kI .u8) w4 (subv 1 V0_0 (Int.toNat a1) (Int.toNat (IntKind.i64.wrap (a1 + a2)))) (cut a0 a1 (IntKind.i64.wrap (a1 + a2))) := (R0_0.gr fB).cut (lo := a1) (hi := (IntKind.i64.wrap (a1 + a2))) g7.1 g7.2.1 g7.2.2
    refine ol_val (v := .int .i64 (List.length (cut a0 a1 (IntKind.i64.wrap (a1 + a2))) : Int)) (by exact xr_lenR rfl Try.underlying43 rfl r6) rfl rfl rfl ?_
    refine ol_val (v := .int .i64 0) (by exact xr_move rfl rfl) rfl rfl rfl ?_
    refine ol_nil ?_
    obtain ⟨e9, l10, h11⟩ := bs h
    refine cw_mid (fun ρ' w' => ∃ x12, e9 = Sum.inr x12 ∧ Gr w w') ?_ ?_
    · refine cw_block ?_
      refine cw_round (fun (s8 : Int) ρ' w' => ∃ r6 : Rd (kI .u8) w' (subv 1 V0_0 (Int.toNat a1) (Int.toNat (IntKind.i64.wrap (a1 + a2)))) (cut a0 a1 (IntKind.i64.wrap (a1 + a2))), ρ' 19 = subv 1 V0_0 (Int.toNat a1) (Int.toNat (IntKind.i64.wrap (a1 + a2))) ∧ ρ' 20 = .int .i64 (List.length (cut a0 a1 (IntKind.i64.wrap (a1 + a2))) : Int) ∧ ρ' 21 = .int .i64 s8 ∧ Gr w w') l10 ?_ ?_
      · skip
        exact ⟨r6, rfl, rfl, rfl, fB⟩
      · rintro s8 x15 ρ13 w14 ⟨r6, e19, e20, e21, fB⟩ h
        unfold octet_Noughts.s0 at h
        refine cw_seq ?_
        refine cw_region ?_
        refine ol_val (v := .bool (decide (s8 < (List.length (cut a0 a1 (IntKind.i64.wrap (a1 + a2))) : Int)))) (by exact xr_lss rfl e21 e20) rfl rfl rfl ?_
        refine ol_nil ?_
        refine cw_seq ?_
        rcases is h with ⟨c16, h⟩ | ⟨c16, h⟩
        · refine cw_condT rfl c16 ?_
          refine cw_skip ?_
          refine cw_seq ?_
          refine cw_block ?_
          refine cw_seq ?_
          refine cw_region ?_
          obtain ⟨g17, h⟩ := gs h
          refine ol_val (v := .pointer (some ⟨(sb (subv 1 V0_0 (Int.toNat a1) (Int.toNat (IntKind.i64.wrap (a1 + a2))))), so (subv 1 V0_0 (Int.toNat a1) (Int.toNat (IntKind.i64.wrap (a1 + a2)))) + Int.toNat s8 * 1, none⟩)) (by exact xr_indexR (K := (kI .u8)) (v := subv 1 V0_0 (Int.toNat a1) (Int.toNat (IntKind.i64.wrap (a1 + a2)))) rfl Try.underlying43 sz5 e19 r6 e21 g17.1 g17.2) rfl rfl rfl ?_
          refine ol_val (v := .int .u8 (ix (cut a0 a1 (IntKind.i64.wrap (a1 + a2))) s8)) (by exact xr_load1 (v := .int .u8 (ix (cut a0 a1 (IntKind.i64.wrap (a1 + a2))) s8)) rfl ag5 rfl (r6.elem g17.1 g17.2)) rfl rfl rfl ?_
          refine ol_val (v := .int .u8 (ix (cut a0 a1 (IntKind.i64.wrap (a1 + a2))) s8)) (by exact xr_assign rfl rfl) rfl rfl rfl ?_
          refine ol_nil ?_
          refine cw_seq ?_
          refine cw_region ?_
          refine ol_val (v := .int .u8 (ix (cut a0 a1 (IntKind.i64.wrap (a1 + a2))) s8)) (by exact xr_move rfl rfl) rfl rfl rfl ?_
          refine ol_val (v := .bool (!decide ((ix (cut a0 a1 (IntKind.i64.wrap (a1 + a2))) s8) = 0))) (by exact xr_neI rfl Try.underlying5 rfl rfl rfl) rfl rfl rfl ?_
          refine ol_nil ?_
          rcases is h with ⟨c18, h⟩ | ⟨c18, h⟩
          · refine cw_condT rfl c18 ?_
            refine cw_seq ?_
            refine cw_region ?_
            refine ol_val (v := .bool false) (by exact xr_assign rfl rfl) rfl rfl rfl ?_
            refine ol_nil ?_
            refine cw_ret ?_
            repeat (first | with_reducible refine thn_r ?_ | with_reducible refine blk_r ?_)
            obtain rfl := Option.some.inj h
            refine lp_ret ?_
            rintro rfl
            repeat (first | with_reducible refine thn_r ?_ | with_reducible refine blk_r ?_)
            have h := h11
            obtain rfl := Option.some.inj h
            refine fin_ret1 Try.results133 rfl ?_
            exact ⟨_, rfl, rfl, fB⟩
          · refine cw_condF rfl c18 ?_
            refine cw_skip ?_
            refine blk_i ?_
            refine cw_region ?_
            refine ol_val (v := .int .i64 (IntKind.i64.wrap (s8 + 1))) (by exact xr_add rfl e21 rfl) rfl rfl rfl ?_
            refine ol_val (v := .int .i64 (IntKind.i64.wrap (s8 + 1))) (by exact xr_move rfl rfl) rfl rfl rfl ?_
            refine ol_nil ?_
            obtain rfl := Option.some.inj h
            refine lp_in ?_
            exact ⟨r6, e19, e20, rfl, fB⟩
        · refine cw_condF rfl c16 ?_
          refine cw_exit ?_
          repeat (first | with_reducible refine thn_e ?_ | with_reducible refine blk_e rfl ?_)
          obtain rfl := Option.some.inj h
          refine lp_exit ?_
          rintro rfl
          refine thn_x ?_
          exact ⟨_, rfl, fB⟩
    · rintro ρ19 w20 ⟨x12, rfl, fB⟩
      have h := h11
      refine cw_seq ?_
      refine cw_region ?_
      refine ol_val (v := .bool true) (by exact xr_assign rfl rfl) rfl rfl rfl ?_
      refine ol_nil ?_
      refine cw_ret ?_
      repeat (first | with_reducible refine thn_r ?_ | with_reducible refine blk_r ?_)
      obtain rfl := Option.some.inj h
      refine fin_ret1 Try.results133 rfl ?_
      exact ⟨_, rfl, rfl, fB⟩
end Go.Proofs.Ytklhbaghbmndeaa

/- rickyard/rickyardref01.Octet: its model, and that the Go function computes it: written by gen.py. -/
set_option linter.unusedVariables false
namespace Go.Proofs.Ytklhbaghbmndeaa
open Go Go.Xw
def rickyardref01_Octet.s0 (fu : Nat) (a1 : Int) : (Int × Int) → Option (Sum Int (Int × Int)) := fun s1 => (if (decide (s1.2 < a1)) = true then some (Sum.inr ((IntKind.u64.wrap (Int.tdiv s1.1 256)), (IntKind.i64.wrap (s1.2 + 1)))) else some (Sum.inl (s1.1)))
def rickyardref01_Octet.f (fu : Nat) (a0 : Int) (a1 : Int) : Option Int := ((loopM (rickyardref01_Octet.s0 fu a1) fu (a0, 0)).bind fun e2 => some ((IntKind.u8.wrap (Int.tmod e2 256))))
set_option maxRecDepth 100000 in
set_option maxHeartbeats 400000 in
theorem rickyardref01_Octet.ok (fu : Nat) (w : World) (a0 : Int) (a1 : Int) (r : Int) (h : rickyardref01_Octet.f fu a0 a1 = some r) :
    Calls Try.prog 137 (([.int .u64 a0, .int .i64 a1] : List Value).toArray) w (fun e w' => ∃ v, e = .returned v ∧ v = .int .u8 r ∧ Gr w w') := by
  unfold rickyardref01_Octet.f at h
  have fB : Gr w w := Fr.refl _ _
  refine calls_cw Try.func137 rfl Try.ntmps137 rfl ?_
  refine cw_seq ?_
  refine cw_region ?_
  refine ol_val (v := .int .u8 0) (by exact xr_assign rfl rfl) rfl rfl rfl ?_
  refine ol_nil ?_
  refine cw_seq ?_
  refine cw_seq ?_
  refine cw_region ?_
  refine ol_val (v := .int .i64 0) (by exact xr_assign rfl rfl) rfl rfl rfl ?_
  refine ol_nil ?_
  obtain ⟨e2, l3, h4⟩ := bs h
  refine cw_mid (fun ρ' w' => ρ' 0 = .int .u64 e2 ∧ Gr w w') ?_ ?_
  · refine cw_block ?_
    refine cw_round (fun (s1 : Int × Int) ρ' w' => ρ' 0 = .int .u64 s1.1 ∧ ρ' 1 = .int .i64 a1 ∧ ρ' 5 = .int .i64 s1.2 ∧ Gr w w') l3 ?_ ?_
    · skip
      exact ⟨rfl, rfl, rfl, fB⟩
    · rintro s1 x7 ρ5 w6 ⟨e0, e1, e5, fB⟩ h
      unfold rickyardref01_Octet.s0 at h
      refine cw_seq ?_
      refine cw_seq ?_
      refine cw_region ?_
      refine ol_val (v := .int .i64 s1.2) (by exact xr_move rfl e5) rfl rfl rfl ?_
      refine ol_val (v := .int .i64 a1) (by exact xr_move rfl e1) rfl rfl rfl ?_
      refine ol_val (v := .bool (decide (s1.2 < a1))) (by exact xr_lss rfl rfl rfl) rfl rfl rfl ?_
      refine ol_nil ?_
      rcases is h with ⟨c8, h⟩ | ⟨c8, h⟩
      · refine cw_condT rfl c8 ?_
        refine cw_skip ?_
        refine cw_seq ?_
        refine cw_block ?_
        refine cw_region ?_
        refine ol_val (v := .int .u64 s1.1) (by exact xr_move rfl e0) rfl rfl rfl ?_
        refine ol_val (v := .int .u64 (IntKind.u64.wrap (Int.tdiv s1.1 256))) (by exact xr_quo rfl rfl rfl (by decide)) rfl rfl rfl ?_
        refine ol_val (v := .int .u64 (IntKind.u64.wrap (Int.tdiv s1.1 256))) (by exact xr_assign rfl rfl) rfl rfl rfl ?_
        refine ol_nil ?_
        refine blk_i ?_
        refine cw_region ?_
        refine ol_val (v := .int .i64 s1.2) (by exact xr_move rfl e5) rfl rfl rfl ?_
        refine ol_val (v := .int .i64 (IntKind.i64.wrap (s1.2 + 1))) (by exact xr_add rfl rfl rfl) rfl rfl rfl ?_
        refine ol_val (v := .int .i64 (IntKind.i64.wrap (s1.2 + 1))) (by exact xr_assign rfl rfl) rfl rfl rfl ?_
        refine ol_nil ?_
        obtain rfl := Option.some.inj h
        refine lp_in ?_
        exact ⟨rfl, e1, rfl, fB⟩
      · refine cw_condF rfl c8 ?_
        refine cw_exit ?_
        repeat (first | with_reducible refine thn_e ?_ | with_reducible refine blk_e rfl ?_)
        obtain rfl := Option.some.inj h
        refine lp_exit ?_
        rintro rfl
        refine thn_x ?_
        exact ⟨e0, fB⟩
  · rintro ρ9 w10 ⟨e0, fB⟩
    have h := h4
    refine cw_seq ?_
    refine cw_region ?_
    refine ol_val (v := .int .u64 e2) (by exact xr_move rfl e0) rfl rfl rfl ?_
    refine ol_val (v := .int .u64 (Int.tmod e2 256)) (by exact xr_rem rfl rfl rfl (by decide)) rfl rfl rfl ?_
    refine ol_val (v := .int .u8 (IntKind.u8.wrap (Int.tmod e2 256))) (by exact xr_conv rfl Try.underlying22 Try.underlying5 rfl) rfl rfl rfl ?_
    refine ol_val (v := .int .u8 (IntKind.u8.wrap (Int.tmod e2 256))) (by exact xr_assign rfl rfl) rfl rfl rfl ?_
    refine ol_nil ?_
    refine cw_ret ?_
    repeat (first | with_reducible refine thn_r ?_ | with_reducible refine blk_r ?_)
    obtain rfl := Option.some.inj h
    refine fin_ret1 Try.results137 rfl ?_
    exact ⟨_, rfl, rfl, fB⟩
end Go.Proofs.Ytklhbaghbmndeaa

/- rickyard/rickyardref01.Lay: its model, and that the Go function computes it: written by gen.py. -/
set_option linter.unusedVariables false
namespace Go.Proofs.Ytklhbaghbmndeaa
open Go Go.Xw
def rickyardref01_Lay.s0 (fu : Nat) (a0 : Int) (a1 : Int) : ((List UInt8) × Int) → Option (Sum (List UInt8) ((List UInt8) × Int)) := fun s1 => (if (decide (s1.2 < a1)) = true then ((rickyardref01_Octet.f fu a0 s1.2 : Option Int).bind fun t9 => (if List.length s1.1 + List.length (List.map toB [t9]) ≤ LIM then some (Sum.inr ((s1.1 ++ (List.map toB [t9])), (IntKind.i64.wrap (s1.2 + 1)))) else none)) else some (Sum.inl (s1.1)))
def rickyardref01_Lay.f (fu : Nat) (a0 : Int) (a1 : Int) : Option (List UInt8) := ((loopM (rickyardref01_Lay.s0 fu a0 a1) fu ([], 0)).bind fun e2 => some (e2))
set_option maxRecDepth 100000 in
set_option maxHeartbeats 400000 in
theorem rickyardref01_Lay.ok (fu : Nat) (w : World) (a0 : Int) (a1 : Int) (r : (List UInt8)) (h : rickyardref01_Lay.f fu a0 a1 = some r) :
    Calls Try.prog 117 (([.int .u64 a0, .int .i64 a1] : List Value).toArray) w (fun e w' => ∃ v, e = .returned v ∧ v = sv r ∧ Gr w w') := by
  unfold rickyardref01_Lay.f at h
  have fB : Gr w w := Fr.refl _ _
  refine calls_cw Try.func117 rfl Try.ntmps117 rfl ?_
  refine cw_seq ?_
  refine cw_region ?_
  refine ol_val (v := sv []) (by exact xr_assign rfl rfl) rfl rfl rfl ?_
  refine ol_nil ?_
  refine cw_seq ?_
  refine cw_region ?_
  refine ol_val (v := sv []) (by exact xr_assign rfl rfl) rfl rfl rfl ?_
  refine ol_nil ?_
  refine cw_seq ?_
  refine cw_seq ?_
  refine cw_region ?_
  refine ol_val (v := .int .i64 0) (by exact xr_assign rfl rfl) rfl rfl rfl ?_
  refine ol_nil ?_
  obtain ⟨e2, l3, h4⟩ := bs h
  refine cw_mid (fun ρ' w' => ρ' 5 = sv e2 ∧ Gr w w') ?_ ?_
  · refine cw_block ?_
    refine cw_round (fun (s1 : (List UInt8) × Int) ρ' w' => ρ' 0 = .int .u64 a0 ∧ ρ' 1 = .int .i64 a1 ∧ ρ' 5 = sv s1.1 ∧ ρ' 6 = .int .i64 s1.2 ∧ Gr w w') l3 ?_ ?_
    · skip
      exact ⟨rfl, rfl, rfl, rfl, fB⟩
    · rintro s1 x7 ρ5 w6 ⟨e0, e1, e5, e6, fB⟩ h
      unfold rickyardref01_Lay.s0 at h
      refine cw_seq ?_
      refine cw_seq ?_
      refine cw_region ?_
      refine ol_val (v := .int .i64 s1.2) (by exact xr_move rfl e6) rfl rfl rfl ?_
      refine ol_val (v := .int .i64 a1) (by exact xr_move rfl e1) rfl rfl rfl ?_
      refine ol_val (v := .bool (decide (s1.2 < a1))) (by exact xr_lss rfl rfl rfl) rfl rfl rfl ?_
      refine ol_nil ?_
      rcases is h with ⟨c8, h⟩ | ⟨c8, h⟩
      · refine cw_condT rfl c8 ?_
        refine cw_skip ?_
        refine cw_seq ?_
        refine cw_block ?_
        refine cw_region ?_
        refine ol_val (v := sv s1.1) (by exact xr_move rfl e5) rfl rfl rfl ?_
        refine ol_val (v := .int .u64 a0) (by exact xr_move rfl e0) rfl rfl rfl ?_
        refine ol_val (v := .int .i64 s1.2) (by exact xr_move rfl e6) rfl rfl rfl ?_
        obtain ⟨t9, k10, h⟩ := bs h
        refine ol_op (by exact opv_call rfl cal137 (ac rfl (ac rfl an)) (rickyardref01_Octet.ok fu _ a0 s1.2 _ k10)) rfl rfl rfl ?_
        rintro _ w12 ⟨rfl, q11⟩
        have fB := fB.gr q11
        refine ol_op (by exact opv_buildSlice (K := (kI .u8)) (xs := [t9]) (vals := [.int .u8 t9]) rfl Try.underlying43 el5 rfl rfl ⟨rfl, rfl, trivial⟩ rfl rfl rfl fB.size) rfl rfl rfl ?_
        rintro v13 w18 ⟨o15, q14, z16⟩
        have fB := fB.gr q14
        refine ol_val (v := sv (List.map toB [t9])) (by exact xr_toStr rfl Try.underlying43 Try.underlying5 Try.underlying9 rfl o15.rd) rfl rfl rfl ?_
        obtain ⟨g19, h⟩ := gs h
        refine ol_val (v := sv (s1.1 ++ (List.map toB [t9]))) (by exact xr_addStr rfl rfl rfl g19) rfl rfl rfl ?_
        refine ol_val (v := sv (s1.1 ++ (List.map toB [t9]))) (by exact xr_assign rfl rfl) rfl rfl rfl ?_
        refine ol_nil ?_
        refine blk_i ?_
        refine cw_region ?_
        refine ol_val (v := .int .i64 s1.2) (by exact xr_move rfl e6) rfl rfl rfl ?_
        refine ol_val (v := .int .i64 (IntKind.i64.wrap (s1.2 + 1))) (by exact xr_add rfl rfl rfl) rfl rfl rfl ?_
        refine ol_val (v := .int .i64 (IntKind.i64.wrap (s1.2 + 1))) (by exact xr_assign rfl rfl) rfl rfl rfl ?_
        refine ol_nil ?_
        obtain rfl := Option.some.inj h
        refine lp_in ?_
        exact ⟨e0, e1, rfl, rfl, fB⟩
      · refine cw_condF rfl c8 ?_
        refine cw_exit ?_
        repeat (first | with_reducible refine thn_e ?_ | with_reducible refine blk_e rfl ?_)
        obtain rfl := Option.some.inj h
        refine lp_exit ?_
        rintro rfl
        refine thn_x ?_
        exact ⟨e5, fB⟩
  · rintro ρ20 w21 ⟨e5, fB⟩
    have h := h4
    refine cw_seq ?_
    refine cw_region ?_
    refine ol_val (v := sv e2) (by exact xr_move rfl e5) rfl rfl rfl ?_
    refine ol_val (v := sv e2) (by exact xr_assign rfl rfl) rfl rfl rfl ?_
    refine ol_nil ?_
    refine cw_ret ?_
    repeat (first | with_reducible refine thn_r ?_ | with_reducible refine blk_r ?_)
    obtain rfl := Option.some.inj h
    refine fin_ret1 Try.results117 rfl ?_
    exact ⟨_, rfl, rfl, fB⟩
end Go.Proofs.Ytklhbaghbmndeaa
