/- FateAll: texts merged, part 5 of 6. The last part proves that the law FateAll holds for every input. -/
import Derived.Test.YtklhbaghbmndeaaPkFateAll4
import Derived.ProofKit
import Derived.OpenShut
import Derived.ChangeOld
import Derived.Below
import Derived.SizedLaws
import Derived.WalkKit
set_option maxRecDepth 100000
set_option maxHeartbeats 4000000
set_option linter.unusedVariables false
set_option linter.unusedSimpArgs false
namespace Go.Proofs.Ytklhbaghbmndeaa
open Go Go.Xw
def rickyardlaw06_made.s0 (fu : Nat) (a1 : List S_rickyardlaw05_Act) : (Int × (List S_pmem_cell) × (List Int) × Int × Bool × Bool × Int × Int × (List Int) × (List Int) × (List Int) × (List Bool) × (List Int) × Int × Int × Int) → Option (Sum ((List S_pmem_cell) × (List Int) × Int × Bool × Bool × Int × Int × (List Int) × (List Int) × (List Int) × (List Bool) × (List Int) × Int × Int × Int) (Int × (List S_pmem_cell) × (List Int) × Int × Bool × Bool × Int × Int × (List Int) × (List Int) × (List Int) × (List Bool) × (List Int) × Int × Int × Int)) := fun s64 => (if (decide (s64.1 < (List.length a1 : Int))) = true then (if 0 ≤ s64.1 ∧ s64.1 < (List.length a1 : Int) then ((rickyardlaw05_Do.f fu (⟨s64.2.1, (⟨s64.2.2.1, s64.2.2.2.1⟩ : S_pmem_plan), s64.2.2.2.2.1, s64.2.2.2.2.2.1, s64.2.2.2.2.2.2.1, s64.2.2.2.2.2.2.2.1⟩ : S_pmem_Device) (ix a1 s64.1)).bind fun t123 => (if 0 ≤ s64.1 ∧ s64.1 < (List.length a1 : Int) then ((rickyardlaw05_Refs.f fu (⟨s64.2.2.2.2.2.2.2.2.1, s64.2.2.2.2.2.2.2.2.2.1, s64.2.2.2.2.2.2.2.2.2.2.1, s64.2.2.2.2.2.2.2.2.2.2.2.1, s64.2.2.2.2.2.2.2.2.2.2.2.2.1, s64.2.2.2.2.2.2.2.2.2.2.2.2.2.1, s64.2.2.2.2.2.2.2.2.2.2.2.2.2.2.1, s64.2.2.2.2.2.2.2.2.2.2.2.2.2.2.2⟩ : S_rickyardref05_Device) (ix a1 s64.1)).bind fun t144 => some (Sum.inr ((IntKind.i64.wrap (s64.1 + 1)), t123.2.2.cells, t123.2.2.plan.list, t123.2.2.plan.at_, t123.2.2.off, t123.2.2.armed, t123.2.2.left, t123.2.2.steps, t144.2.2.Lasts, t144.2.2.Stored, t144.2.2.Sent, t144.2.2.Flushed, t144.2.2.Plan, t144.2.2.Since, t144.2.2.Left, t144.2.2.Steps))) else none)) else none) else some (Sum.inl (s64.2.1, s64.2.2.1, s64.2.2.2.1, s64.2.2.2.2.1, s64.2.2.2.2.2.1, s64.2.2.2.2.2.2.1, s64.2.2.2.2.2.2.2.1, s64.2.2.2.2.2.2.2.2.1, s64.2.2.2.2.2.2.2.2.2.1, s64.2.2.2.2.2.2.2.2.2.2.1, s64.2.2.2.2.2.2.2.2.2.2.2.1, s64.2.2.2.2.2.2.2.2.2.2.2.2.1, s64.2.2.2.2.2.2.2.2.2.2.2.2.2.1, s64.2.2.2.2.2.2.2.2.2.2.2.2.2.2.1, s64.2.2.2.2.2.2.2.2.2.2.2.2.2.2.2)))
def rickyardlaw06_made.f (fu : Nat) (a0 : Int) (a1 : List S_rickyardlaw05_Act) : Option ((Option S_pmem_Device) × (Option S_rickyardref05_Device)) := ((pmem_New.f fu (Int.tmod (IntKind.i64.wrap a0) 4)).bind fun t5 => (Option.elim t5.1 (some (none, none)) (fun m12 => ((((rickyardlaw05_Small.f fu a1 40).bind fun t26 => some ((!t26))) : Option Bool).bind fun x24 => (if x24 = true then some (none, none) else ((rickyardref05_New.f fu (Int.tmod (IntKind.i64.wrap a0) 4)).bind fun t34 => ((loopM (rickyardlaw06_made.s0 fu a1) fu (0, m12.cells, m12.plan.list, m12.plan.at_, m12.off, m12.armed, m12.left, m12.steps, t34.Lasts, t34.Stored, t34.Sent, t34.Flushed, t34.Plan, t34.Since, t34.Left, t34.Steps)).bind fun e65 => some ((some (⟨e65.1, (⟨e65.2.1, e65.2.2.1⟩ : S_pmem_plan), e65.2.2.2.1, e65.2.2.2.2.1, e65.2.2.2.2.2.1, e65.2.2.2.2.2.2.1⟩ : S_pmem_Device)), (some (⟨e65.2.2.2.2.2.2.2.1, e65.2.2.2.2.2.2.2.2.1, e65.2.2.2.2.2.2.2.2.2.1, e65.2.2.2.2.2.2.2.2.2.2.1, e65.2.2.2.2.2.2.2.2.2.2.2.1, e65.2.2.2.2.2.2.2.2.2.2.2.2.1, e65.2.2.2.2.2.2.2.2.2.2.2.2.2.1, e65.2.2.2.2.2.2.2.2.2.2.2.2.2.2⟩ : S_rickyardref05_Device))))))))))
theorem rickyardlaw06_made.ok (fu : Nat) (w : World) (a0 : Int) (a1 : List S_rickyardlaw05_Act) (V1_0 : Value) (R1_0 : RdN 4 D_rickyardlaw05_Act w V1_0 a1) (r : (Option S_pmem_Device) × (Option S_rickyardref05_Device)) (h : rickyardlaw06_made.f fu a0 a1 = some r) :
  Calls Try.prog 60 (([.int .u8 a0, V1_0] : List Value).toArray) w (fun e w' => ∃ v, e = .returned v ∧ ∃ u1 : Value, ∃ u3 : Value, ∃ p2 : (r.1 = none → u1 = .pointer none) ∧ ∀ m9, r.1 = some m9 → ∃ G9 : Nat, ∃ U0 : Value, ∃ U1 : Value, ∃ O0 : Own k_pmem_cell 142 w' w.heap.size U0 m9.cells, ∃ O1 : Own (kI .i64) 3 w' w.heap.size U1 m9.plan.list, u1 = (pt G9 0) ∧ w.heap.size ≤ G9 ∧ Blk w' G9 139 [Seg.cell U0 O0.one, Seg.cell U1 O1.one, (sI m9.plan.at_), Seg.cell (.bool m9.off), Seg.cell (.bool m9.armed), (sI m9.left), (sI m9.steps)], ∃ p4 : (r.2 = none → u3 = .pointer none) ∧ ∀ m9, r.2 = some m9 → ∃ G9 : Nat, ∃ U0 : Value, ∃ U1 : Value, ∃ U2 : Value, ∃ U3 : Value, ∃ U4 : Value, ∃ O0 : Own (kI .u64) 22 w' w.heap.size U0 m9.Lasts, ∃ O1 : Own (kI .u64) 22 w' w.heap.size U1 m9.Stored, ∃ O2 : Own (kI .u64) 22 w' w.heap.size U2 m9.Sent, ∃ O3 : Own kB 4 w' w.heap.size U3 m9.Flushed, ∃ O4 : Own (kI .i64) 3 w' w.heap.size U4 m9.Plan, ∃ A0_1 : OffV U0 U1, ∃ A0_2 : OffV U0 U2, ∃ A1_2 : OffV U1 U2, u3 = (pt G9 0) ∧ w.heap.size ≤ G9 ∧ Blk w' G9 65 [Seg.cell U0 O0.one, Seg.cell U1 O1.one, Seg.cell U2 O2.one, Seg.cell U3 O3.one, Seg.cell U4 O4.one, (sI m9.Since), (sI m9.Left), (sI m9.Steps)], v = .tuple #[u1, u3] ∧ Gr w w') := by
 unfold rickyardlaw06_made.f at h
 have fB : Gr w w := Fr.refl _ _
 refine calls_cw Try.func60 rfl Try.ntmps60 rfl ?_
 refine cw_seq ?_
 refine cw_region ?_
 refine ol_val (v := .pointer none) (xr_assign rfl rfl) rfl rfl rfl ?_
 refine ol_val (v := .pointer none) (xr_assign rfl rfl) rfl rfl rfl ?_
 refine ol_nil ?_
 refine cw_seq ?_
 refine cw_region ?_
 refine ol_val (v := .int .u8 a0) (xr_move rfl rfl) rfl rfl rfl ?_
 refine ol_val (v := .int .i64 (IntKind.i64.wrap a0)) (xr_conv rfl Try.underlying5 Try.underlying3 rfl) rfl rfl rfl ?_
 refine ol_val (v := .int .i64 (Int.tmod (IntKind.i64.wrap a0) 4)) (xr_rem rfl rfl rfl (by decide)) rfl rfl rfl ?_
 refine ol_val (v := .int .i64 (Int.tmod (IntKind.i64.wrap a0) 4)) (xr_assign rfl rfl) rfl rfl rfl ?_
 refine ol_nil ?_
 refine cw_seq ?_
 refine cw_region ?_
 refine ol_val (v := .int .i64 (Int.tmod (IntKind.i64.wrap a0) 4)) (xr_move rfl rfl) rfl rfl rfl ?_
 obtain ⟨t5, k6, h⟩ := bs h
 refine ol_op (opv_call rfl cal26 (ac rfl an) (pmem_New.ok fu _ (Int.tmod (IntKind.i64.wrap a0) 4) _ k6)) rfl rfl rfl ?_
 rintro _ w10 ⟨u7, p8, rfl, q9⟩
 rcases en h with ⟨e11, h⟩ | ⟨m12, e11, h⟩
 ·obtain rfl := p8.1 e11
  have fB := fB.gr q9
  refine ol_val (v := .tuple #[.pointer none, .int .i64 t5.2]) (xr_move rfl rfl) rfl rfl rfl ?_
  refine ol_val (v := .pointer none) (xr_extract rfl rfl rfl) rfl rfl rfl ?_
  refine ol_val (v := .int .i64 t5.2) (xr_extract rfl rfl rfl) rfl rfl rfl ?_
  refine ol_val (v := .pointer none) (xr_assign rfl rfl) rfl rfl rfl ?_
  refine ol_val (v := .int .i64 t5.2) (xr_assign rfl rfl) rfl rfl rfl ?_
  refine ol_nil ?_
  refine cw_seq ?_
  refine cw_seq ?_
  refine cw_mid (fun ρ' w' => ρ' 1 = V1_0 ∧ ρ' 6 = .int .i64 (Int.tmod (IntKind.i64.wrap a0) 4) ∧ ρ' 7 = .pointer none ∧ ρ' 25 = .bool true ∧ w10 = w') ?_ ?_
  ·skip
   refine cw_region ?_
   refine ol_val (v := .pointer none) (xr_move rfl rfl) rfl rfl rfl ?_
   refine ol_val (v := .bool true) (xr_eqP (b := true) rfl Try.underlying30 rfl rfl (by simp) (by simp)) rfl rfl rfl ?_
   refine ol_val (v := .bool true) (xr_move rfl rfl) rfl rfl rfl ?_
   refine ol_gskip rfl rfl rfl rfl rfl rfl ?_
   refine ol_gskip rfl rfl rfl rfl rfl rfl ?_
   refine ol_gskip rfl rfl rfl rfl rfl rfl ?_
   refine ol_val (v := .bool true) (xr_pickT rfl rfl rfl rfl) rfl rfl rfl ?_
   refine ol_nil ?_
   refine thn_i ?_
   exact ⟨rfl, rfl, rfl, rfl, rfl⟩
  rintro ρ13 _ ⟨e1, e6, e7, e25, rfl⟩
  refine cw_condT e25 rfl ?_
  refine cw_seq ?_
  refine cw_region ?_
  refine ol_val (v := .pointer none) (xr_assign rfl rfl) rfl rfl rfl ?_
  refine ol_val (v := .pointer none) (xr_assign rfl rfl) rfl rfl rfl ?_
  refine ol_nil ?_
  refine cw_ret ?_
  repeat (first | with_reducible refine thn_r ?_ | with_reducible refine blk_r ?_)
  obtain rfl := Option.some.inj h
  refine fin_ret2 Try.results60 rfl rfl ?_
  exact ⟨_, rfl, (.pointer none), (.pointer none), ⟨(fun _ => rfl), (fun _ e => by cases e)⟩, ⟨(fun _ => rfl), (fun _ e => by cases e)⟩, rfl, fB⟩
 obtain ⟨G14, u18, u21, o19, o22, rfl, z15, b16⟩ := p8.2 _ e11
 have o19 := Own.base o19 fB.size
 have o22 := Own.base o22 fB.size
 have z15 := Nat.le_trans fB.size z15
 have fB := fB.gr q9
 refine ol_val (v := .tuple #[(pt G14 0), .int .i64 t5.2]) (xr_move rfl rfl) rfl rfl rfl ?_
 refine ol_val (v := (pt G14 0)) (xr_extract rfl rfl rfl) rfl rfl rfl ?_
 refine ol_val (v := .int .i64 t5.2) (xr_extract rfl rfl rfl) rfl rfl rfl ?_
 refine ol_val (v := (pt G14 0)) (xr_assign rfl rfl) rfl rfl rfl ?_
 refine ol_val (v := .int .i64 t5.2) (xr_assign rfl rfl) rfl rfl rfl ?_
 refine ol_nil ?_
 refine cw_seq ?_
 refine cw_seq ?_
 obtain ⟨x24, j25, h⟩ := bs h
 refine cw_mid (fun ρ' w' => ρ' 1 = V1_0 ∧ ρ' 6 = .int .i64 (Int.tmod (IntKind.i64.wrap a0) 4) ∧ ρ' 7 = (pt G14 0) ∧ ρ' 25 = .bool x24 ∧ Gr w10 w') ?_ ?_
 ·skip
  refine cw_region ?_
  refine ol_val (v := (pt G14 0)) (xr_move rfl rfl) rfl rfl rfl ?_
  refine ol_val (v := .bool false) (xr_eqP (b := false) rfl Try.underlying30 rfl rfl (by simp) (by simp)) rfl rfl rfl ?_
  refine ol_val (v := .bool false) (xr_move rfl rfl) rfl rfl rfl ?_
  refine ol_gval (v := V1_0) (xr_move rfl rfl) rfl rfl rfl rfl rfl rfl ?_
  obtain ⟨t26, k27, j25⟩ := bs j25
  refine ol_gop (opv_call rfl cal25 (ac rfl (ac rfl an)) (rickyardlaw05_Small.ok fu _ a1 V1_0 (RdN.gr R1_0 D_rickyardlaw05_Act.gr fB) 40 _ k27)) rfl rfl rfl rfl rfl rfl ?_
  rintro _ w29 ⟨rfl, q28⟩
  have b16 := b16.gr q28
  have o19 := o19.gr q28
  have o22 := o22.gr q28
  have fB := fB.gr q28
  refine ol_gval (v := .bool (!t26)) (xr_not rfl rfl) rfl rfl rfl rfl rfl rfl ?_
  refine ol_val (v := .bool (!t26)) (xr_pickF rfl rfl rfl rfl) rfl rfl rfl ?_
  refine ol_nil ?_
  obtain rfl := Option.some.inj j25
  refine thn_i ?_
  exact ⟨rfl, rfl, rfl, rfl, q28⟩
 rintro ρ30 w31 ⟨e1, e6, e7, e25, q32⟩
 have b16 := b16.gr q32
 have o19 := o19.gr q32
 have o22 := o22.gr q32
 have fB := fB.gr q32
 rcases is h with ⟨c33, h⟩ | ⟨c33, h⟩
 ·refine cw_condT e25 c33 ?_
  refine cw_seq ?_
  refine cw_region ?_
  refine ol_val (v := .pointer none) (xr_assign rfl rfl) rfl rfl rfl ?_
  refine ol_val (v := .pointer none) (xr_assign rfl rfl) rfl rfl rfl ?_
  refine ol_nil ?_
  refine cw_ret ?_
  repeat (first | with_reducible refine thn_r ?_ | with_reducible refine blk_r ?_)
  obtain rfl := Option.some.inj h
  refine fin_ret2 Try.results60 rfl rfl ?_
  exact ⟨_, rfl, (.pointer none), (.pointer none), ⟨(fun _ => rfl), (fun _ e => by cases e)⟩, ⟨(fun _ => rfl), (fun _ e => by cases e)⟩, rfl, fB⟩
 refine cw_condF e25 c33 ?_
 refine cw_skip ?_
 refine cw_seq ?_
 refine cw_region ?_
 refine ol_val (v := .int .i64 (Int.tmod (IntKind.i64.wrap a0) 4)) (xr_move rfl e6) rfl rfl rfl ?_
 obtain ⟨t34, k35, h⟩ := bs h
 refine ol_op (opv_call rfl cal44 (ac rfl an) (rickyardref05_New.ok fu _ (Int.tmod (IntKind.i64.wrap a0) 4) _ k35)) rfl rfl rfl ?_
 rintro u36 w39 ⟨_, p37, rfl, q38⟩
 obtain ⟨G40, u44, u47, u50, u53, u56, o45, o48, o51, o54, o57, a59, a60, a61, rfl, z41, b42⟩ := p37
 have a62 := OffV.call o22 o57
 have o45 := Own.base o45 fB.size
 have o48 := Own.base o48 fB.size
 have o51 := Own.base o51 fB.size
 have o54 := Own.base o54 fB.size
 have o57 := Own.base o57 fB.size
 have n63 := b16.ne z41
 have z41 := Nat.le_trans fB.size z41
 have b16 := b16.gr q38
 have o19 := o19.gr q38
 have o22 := o22.gr q38
 have fB := fB.gr q38
 refine ol_val (v := (pt G40 0)) (xr_assign rfl rfl) rfl rfl rfl ?_
 refine ol_nil ?_
 refine cw_seq ?_
 refine cw_seq ?_
 refine cw_region ?_
 refine ol_val (v := .int .i64 0) (xr_assign rfl rfl) rfl rfl rfl ?_
 refine ol_nil ?_
 obtain ⟨e65, l66, h67⟩ := bs h
 refine cw_mid (fun ρ' w' => ∃ v68 : Value, ∃ v71 : Value, ∃ v74 : Value, ∃ v77 : Value, ∃ v80 : Value, ∃ v83 : Value, ∃ v86 : Value, ∃ o69 : Own k_pmem_cell 142 w' w.heap.size v68 e65.1, ∃ o72 : Own (kI .i64) 3 w' w.heap.size v71 e65.2.1, ∃ o75 : Own (kI .u64) 22 w' w.heap.size v74 e65.2.2.2.2.2.2.2.1, ∃ o78 : Own (kI .u64) 22 w' w.heap.size v77 e65.2.2.2.2.2.2.2.2.1, ∃ o81 : Own (kI .u64) 22 w' w.heap.size v80 e65.2.2.2.2.2.2.2.2.2.1, ∃ o84 : Own kB 4 w' w.heap.size v83 e65.2.2.2.2.2.2.2.2.2.2.1, ∃ o87 : Own (kI .i64) 3 w' w.heap.size v86 e65.2.2.2.2.2.2.2.2.2.2.2.1, OffV v71 v86 ∧ OffV v74 v77 ∧ OffV v74 v80 ∧ OffV v77 v80 ∧ ρ' 7 = (pt G14 0) ∧ ρ' 9 = (pt G40 0) ∧ Blk w' G14 139 [Seg.cell v68 o69.one, Seg.cell v71 o72.one, (sI e65.2.2.1), Seg.cell (.bool e65.2.2.2.1), Seg.cell (.bool e65.2.2.2.2.1), (sI e65.2.2.2.2.2.1), (sI e65.2.2.2.2.2.2.1)] ∧ Blk w' G40 65 [Seg.cell v74 o75.one, Seg.cell v77 o78.one, Seg.cell v80 o81.one, Seg.cell v83 o84.one, Seg.cell v86 o87.one, (sI e65.2.2.2.2.2.2.2.2.2.2.2.2.1), (sI e65.2.2.2.2.2.2.2.2.2.2.2.2.2.1), (sI e65.2.2.2.2.2.2.2.2.2.2.2.2.2.2)] ∧ Gr w w') ?_ ?_
 ·refine cw_block ?_
  refine cw_round (fun (s64 : Int × (List S_pmem_cell) × (List Int) × Int × Bool × Bool × Int × Int × (List Int) × (List Int) × (List Int) × (List Bool) × (List Int) × Int × Int × Int) ρ' w' => ∃ v93 : Value, ∃ v96 : Value, ∃ v99 : Value, ∃ v102 : Value, ∃ v105 : Value, ∃ v108 : Value, ∃ v111 : Value, ∃ o94 : Own k_pmem_cell 142 w' w.heap.size v93 s64.2.1, ∃ o97 : Own (kI .i64) 3 w' w.heap.size v96 s64.2.2.1, ∃ o100 : Own (kI .u64) 22 w' w.heap.size v99 s64.2.2.2.2.2.2.2.2.1, ∃ o103 : Own (kI .u64) 22 w' w.heap.size v102 s64.2.2.2.2.2.2.2.2.2.1, ∃ o106 : Own (kI .u64) 22 w' w.heap.size v105 s64.2.2.2.2.2.2.2.2.2.2.1, ∃ o109 : Own kB 4 w' w.heap.size v108 s64.2.2.2.2.2.2.2.2.2.2.2.1, ∃ o112 : Own (kI .i64) 3 w' w.heap.size v111 s64.2.2.2.2.2.2.2.2.2.2.2.2.1, OffV v96 v111 ∧ OffV v99 v102 ∧ OffV v99 v105 ∧ OffV v102 v105 ∧ ρ' 1 = V1_0 ∧ ρ' 7 = (pt G14 0) ∧ ρ' 9 = (pt G40 0) ∧ ρ' 10 = .int .i64 s64.1 ∧ Blk w' G14 139 [Seg.cell v93 o94.one, Seg.cell v96 o97.one, (sI s64.2.2.2.1), Seg.cell (.bool s64.2.2.2.2.1), Seg.cell (.bool s64.2.2.2.2.2.1), (sI s64.2.2.2.2.2.2.1), (sI s64.2.2.2.2.2.2.2.1)] ∧ Blk w' G40 65 [Seg.cell v99 o100.one, Seg.cell v102 o103.one, Seg.cell v105 o106.one, Seg.cell v108 o109.one, Seg.cell v111 o112.one, (sI s64.2.2.2.2.2.2.2.2.2.2.2.2.2.1), (sI s64.2.2.2.2.2.2.2.2.2.2.2.2.2.2.1), (sI s64.2.2.2.2.2.2.2.2.2.2.2.2.2.2.2)] ∧ Gr w w') l66 ?_ ?_
  ·skip
   exact ⟨u18, u21, u44, u47, u50, u53, u56, o19, o22, o45, o48, o51, o54, o57, a62, a59, a60, a61, e1, e7, rfl, rfl, b16, b42, fB⟩
  rintro s64 x120 ρ118 w119 ⟨v93, v96, v99, v102, v105, v108, v111, o94, o97, o100, o103, o106, o109, o112, a114, a115, a116, a117, e1, e7, e9, e10, b16, b42, fB⟩ h
  unfold rickyardlaw06_made.s0 at h
  refine cw_seq ?_
  refine cw_seq ?_
  refine cw_region ?_
  refine ol_val (v := .int .i64 s64.1) (xr_move rfl e10) rfl rfl rfl ?_
  refine ol_val (v := V1_0) (xr_move rfl e1) rfl rfl rfl ?_
  refine ol_val (v := .int .i64 (List.length a1 : Int)) (xr_lenN rfl Try.underlying24 rfl (RdN.gr R1_0 D_rickyardlaw05_Act.gr fB)) rfl rfl rfl ?_
  refine ol_val (v := .bool (decide (s64.1 < (List.length a1 : Int)))) (xr_lss rfl rfl rfl) rfl rfl rfl ?_
  refine ol_nil ?_
  rcases is h with ⟨c121, h⟩ | ⟨c121, h⟩
  ·refine cw_condT rfl c121 ?_
   refine cw_skip ?_
   refine cw_seq ?_
   refine cw_block ?_
   refine cw_seq ?_
   refine cw_region ?_
   refine ol_val (v := (pt G14 0)) (xr_move rfl e7) rfl rfl rfl ?_
   refine ol_val (v := V1_0) (xr_move rfl e1) rfl rfl rfl ?_
   refine ol_val (v := .int .i64 s64.1) (xr_move rfl e10) rfl rfl rfl ?_
   obtain ⟨g122, h⟩ := gs h
   refine ol_val (v := (pt ((sb V1_0)) (so V1_0 + Int.toNat s64.1 * 4))) (xr_indexN (v := V1_0) rfl Try.underlying24 sz39 rfl (RdN.gr R1_0 D_rickyardlaw05_Act.gr fB) rfl g122.1 g122.2) rfl rfl rfl ?_
   refine ol_val (v := aggV [(sI ((ix a1 s64.1).Kind)), (sI ((ix a1 s64.1).At)), Seg.cell (.int .u64 ((ix a1 s64.1).W)), Seg.cell (cellAt w (sb V1_0) (so V1_0 + Int.toNat s64.1 * 4 + 3)) (N_rickyardlaw05_Act R1_0 g122.1 g122.2).2.one]) (xr_loadS (ss := [(sI ((ix a1 s64.1).Kind)), (sI ((ix a1 s64.1).At)), Seg.cell (.int .u64 ((ix a1 s64.1).W)), Seg.cell (cellAt w (sb V1_0) (so V1_0 + Int.toNat s64.1 * 4 + 3)) (N_rickyardlaw05_Act R1_0 g122.1 g122.2).2.one]) rfl ag39 sz39 rfl rfl (At.gr (N_rickyardlaw05_Act R1_0 g122.1 g122.2).1 fB)) rfl rfl rfl ?_
   obtain ⟨t123, k124, h⟩ := bs h
   have f134 := (nb_or n63.symm (nb_or (nb_off (off_ty b42 o94 (by decide))) (nb_off (off_ty b42 o97 (by decide)))))
   have f135 := (vo_or (vo_eq (off_ty b16 o100 (by decide))) (vo_or (vo_own (OffV.ty o100 o94 (by decide))) (vo_own (OffV.ty o100 o97 (by decide)))))
   have f136 := (vo_or (vo_eq (off_ty b16 o103 (by decide))) (vo_or (vo_own (OffV.ty o103 o94 (by decide))) (vo_own (OffV.ty o103 o97 (by decide)))))
   have f137 := (vo_or (vo_eq (off_ty b16 o106 (by decide))) (vo_or (vo_own (OffV.ty o106 o94 (by decide))) (vo_own (OffV.ty o106 o97 (by decide)))))
   have f138 := (vo_or (vo_eq (off_ty b16 o109 (by decide))) (vo_or (vo_own (OffV.ty o109 o94 (by decide))) (vo_own (OffV.ty o109 o97 (by decide)))))
   have f139 := (vo_or (vo_eq (off_ty b16 o112 (by decide))) (vo_or (vo_own (OffV.ty o112 o94 (by decide))) (vo_own a114.symm)))
   have c140 : ∀ k, (k = G14 ∨ some k = Value.ownBlock v93 ∨ some k = Value.ownBlock v96) → w.heap.size ≤ k := (cv_or (cv_eq z15) (cv_or (cv_own o94.geO) (cv_own o97.geO)))
   refine ol_op (opv_call rfl cal31 (ac rfl (ac rfl an)) (rickyardlaw05_Do.ok fu _ (⟨s64.2.1, (⟨s64.2.2.1, s64.2.2.2.1⟩ : S_pmem_plan), s64.2.2.2.2.1, s64.2.2.2.2.2.1, s64.2.2.2.2.2.2.1, s64.2.2.2.2.2.2.2.1⟩ : S_pmem_Device) G14 v93 (Own.base o94 (Nat.zero_le _)) v96 (Own.base o97 (Nat.zero_le _)) b16 (ix a1 s64.1) (cellAt w (sb V1_0) (so V1_0 + Int.toNat s64.1 * 4 + 3)) ((N_rickyardlaw05_Act R1_0 g122.1 g122.2).2.gr fB) (OffR.new (N_rickyardlaw05_Act R1_0 g122.1 g122.2).2 z15 rfl) (OffRV.call (N_rickyardlaw05_Act R1_0 g122.1 g122.2).2 o94 rfl) (OffRV.call (N_rickyardlaw05_Act R1_0 g122.1 g122.2).2 o97 rfl) _ k124)) rfl rfl rfl ?_
   rintro _ w141 ⟨u126, u130, o127, m128, o131, m132, rfl, b16, q125⟩
   have a142 := ov_new o112 f139 m132
   have o127 := Own.rebase o127 (fun g hg => (m128 g hg).elim (fun x => Nat.le_trans fB.size x) (c140 g))
   have o131 := Own.rebase o131 (fun g hg => (m132 g hg).elim (fun x => Nat.le_trans fB.size x) (c140 g))
   have b42 := b42.fr q125 f134
   have o100 := o100.fr q125 f135
   have o103 := o103.fr q125 f136
   have o106 := o106.fr q125 f137
   have o109 := o109.fr q125 f138
   have o112 := o112.fr q125 f139
   have fB := fB.call q125 (fun k h => .inl (c140 k h))
   refine ol_nil ?_
   refine cw_region ?_
   refine ol_val (v := (pt G40 0)) (xr_move rfl e9) rfl rfl rfl ?_
   refine ol_val (v := V1_0) (xr_move rfl e1) rfl rfl rfl ?_
   refine ol_val (v := .int .i64 s64.1) (xr_move rfl e10) rfl rfl rfl ?_
   obtain ⟨g143, h⟩ := gs h
   refine ol_val (v := (pt ((sb V1_0)) (so V1_0 + Int.toNat s64.1 * 4))) (xr_indexN (v := V1_0) rfl Try.underlying24 sz39 rfl (RdN.gr R1_0 D_rickyardlaw05_Act.gr fB) rfl g143.1 g143.2) rfl rfl rfl ?_
   refine ol_val (v := aggV [(sI ((ix a1 s64.1).Kind)), (sI ((ix a1 s64.1).At)), Seg.cell (.int .u64 ((ix a1 s64.1).W)), Seg.cell (cellAt w (sb V1_0) (so V1_0 + Int.toNat s64.1 * 4 + 3)) (N_rickyardlaw05_Act R1_0 g143.1 g143.2).2.one]) (xr_loadS (ss := [(sI ((ix a1 s64.1).Kind)), (sI ((ix a1 s64.1).At)), Seg.cell (.int .u64 ((ix a1 s64.1).W)), Seg.cell (cellAt w (sb V1_0) (so V1_0 + Int.toNat s64.1 * 4 + 3)) (N_rickyardlaw05_Act R1_0 g143.1 g143.2).2.one]) rfl ag39 sz39 rfl rfl (At.gr (N_rickyardlaw05_Act R1_0 g143.1 g143.2).1 fB)) rfl rfl rfl ?_
   obtain ⟨t144, k145, h⟩ := bs h
   have f170 := (nb_or n63 (nb_or (nb_off (off_ty b16 o100 (by decide))) (nb_or (nb_off (off_ty b16 o103 (by decide))) (nb_or (nb_off (off_ty b16 o106 (by decide))) (nb_or (nb_off (off_ty b16 o109 (by decide))) (nb_off (off_ty b16 o112 (by decide))))))))
   have f171 := (vo_or (vo_eq (off_ty b42 o127 (by decide))) (vo_or (vo_own (OffV.ty o127 o100 (by decide))) (vo_or (vo_own (OffV.ty o127 o103 (by decide))) (vo_or (vo_own (OffV.ty o127 o106 (by decide))) (vo_or (vo_own (OffV.ty o127 o109 (by decide))) (vo_own (OffV.ty o127 o112 (by decide))))))))
   have f172 := (vo_or (vo_eq (off_ty b42 o131 (by decide))) (vo_or (vo_own (OffV.ty o131 o100 (by decide))) (vo_or (vo_own (OffV.ty o131 o103 (by decide))) (vo_or (vo_own (OffV.ty o131 o106 (by decide))) (vo_or (vo_own (OffV.ty o131 o109 (by decide))) (vo_own a142.symm))))))
   have c173 : ∀ k, (k = G40 ∨ some k = Value.ownBlock v99 ∨ some k = Value.ownBlock v102 ∨ some k = Value.ownBlock v105 ∨ some k = Value.ownBlock v108 ∨ some k = Value.ownBlock v111) → w.heap.size ≤ k := (cv_or (cv_eq z41) (cv_or (cv_own o100.geO) (cv_or (cv_own o103.geO) (cv_or (cv_own o106.geO) (cv_or (cv_own o109.geO) (cv_own o112.geO))))))
   refine ol_op (opv_call rfl cal45 (ac rfl (ac rfl an)) (rickyardlaw05_Refs.ok fu _ (⟨s64.2.2.2.2.2.2.2.2.1, s64.2.2.2.2.2.2.2.2.2.1, s64.2.2.2.2.2.2.2.2.2.2.1, s64.2.2.2.2.2.2.2.2.2.2.2.1, s64.2.2.2.2.2.2.2.2.2.2.2.2.1, s64.2.2.2.2.2.2.2.2.2.2.2.2.2.1, s64.2.2.2.2.2.2.2.2.2.2.2.2.2.2.1, s64.2.2.2.2.2.2.2.2.2.2.2.2.2.2.2⟩ : S_rickyardref05_Device) G40 v99 (Own.base o100 (Nat.zero_le _)) v102 (Own.base o103 (Nat.zero_le _)) v105 (Own.base o106 (Nat.zero_le _)) v108 (Own.base o109 (Nat.zero_le _)) v111 (Own.base o112 (Nat.zero_le _)) b42 (ix a1 s64.1) (cellAt w (sb V1_0) (so V1_0 + Int.toNat s64.1 * 4 + 3)) ((N_rickyardlaw05_Act R1_0 g143.1 g143.2).2.gr fB) a115 a116 a117 (OffR.new (N_rickyardlaw05_Act R1_0 g143.1 g143.2).2 z41 rfl) (OffRV.call (N_rickyardlaw05_Act R1_0 g143.1 g143.2).2 o100 rfl) (OffRV.call (N_rickyardlaw05_Act R1_0 g143.1 g143.2).2 o103 rfl) (OffRV.call (N_rickyardlaw05_Act R1_0 g143.1 g143.2).2 o106 rfl) (OffRV.call (N_rickyardlaw05_Act R1_0 g143.1 g143.2).2 o109 rfl) (OffRV.call (N_rickyardlaw05_Act R1_0 g143.1 g143.2).2 o112 rfl) _ k145)) rfl rfl rfl ?_
   rintro _ w174 ⟨u147, u151, u155, u159, u163, o148, m149, o152, m153, o156, m157, o160, m161, o164, m165, a167, a168, a169, rfl, b42, q146⟩
   have a175 := ov_new o131 f172 m165
   have o148 := Own.rebase o148 (fun g hg => (m149 g hg).elim (fun x => Nat.le_trans fB.size x) (c173 g))
   have o152 := Own.rebase o152 (fun g hg => (m153 g hg).elim (fun x => Nat.le_trans fB.size x) (c173 g))
   have o156 := Own.rebase o156 (fun g hg => (m157 g hg).elim (fun x => Nat.le_trans fB.size x) (c173 g))
   have o160 := Own.rebase o160 (fun g hg => (m161 g hg).elim (fun x => Nat.le_trans fB.size x) (c173 g))
   have o164 := Own.rebase o164 (fun g hg => (m165 g hg).elim (fun x => Nat.le_trans fB.size x) (c173 g))
   have b16 := b16.fr q146 f170
   have o127 := o127.fr q146 f171
   have o131 := o131.fr q146 f172
   have fB := fB.call q146 (fun k h => .inl (c173 k h))
   refine ol_nil ?_
   refine blk_i ?_
   refine cw_region ?_
   refine ol_val (v := .int .i64 s64.1) (xr_move rfl e10) rfl rfl rfl ?_
   refine ol_val (v := .int .i64 (IntKind.i64.wrap (s64.1 + 1))) (xr_add rfl rfl rfl) rfl rfl rfl ?_
   refine ol_val (v := .int .i64 (IntKind.i64.wrap (s64.1 + 1))) (xr_assign rfl rfl) rfl rfl rfl ?_
   refine ol_nil ?_
   obtain rfl := Option.some.inj h
   refine lp_in ?_
   exact ⟨u126, u130, u147, u151, u155, u159, u163, o127, o131, o148, o152, o156, o160, o164, a175, a167, a168, a169, e1, e7, e9, rfl, b16, b42, fB⟩
  refine cw_condF rfl c121 ?_
  refine cw_exit ?_
  repeat (first | with_reducible refine thn_e ?_ | with_reducible refine blk_e rfl ?_)
  obtain rfl := Option.some.inj h
  refine lp_exit ?_
  rintro rfl
  refine thn_x ?_
  exact ⟨v93, v96, v99, v102, v105, v108, v111, o94, o97, o100, o103, o106, o109, o112, a114, a115, a116, a117, e7, e9, b16, b42, fB⟩
 rintro ρ176 w177 ⟨v68, v71, v74, v77, v80, v83, v86, o69, o72, o75, o78, o81, o84, o87, a89, a90, a91, a92, e7, e9, b16, b42, fB⟩
 have h := h67
 refine cw_seq ?_
 refine cw_region ?_
 refine ol_val (v := (pt G14 0)) (xr_move rfl e7) rfl rfl rfl ?_
 refine ol_val (v := (pt G40 0)) (xr_move rfl e9) rfl rfl rfl ?_
 refine ol_val (v := (pt G14 0)) (xr_assign rfl rfl) rfl rfl rfl ?_
 refine ol_val (v := (pt G40 0)) (xr_assign rfl rfl) rfl rfl rfl ?_
 refine ol_nil ?_
 refine cw_ret ?_
 repeat (first | with_reducible refine thn_r ?_ | with_reducible refine blk_r ?_)
 obtain rfl := Option.some.inj h
 refine fin_ret2 Try.results60 rfl rfl ?_
 exact ⟨_, rfl, ((pt G14 0)), ((pt G40 0)), ⟨(fun e => by cases e), (fun _ e => by obtain rfl := Option.some.inj e; exact ⟨G14, v68, v71, o69, o72, rfl, z15, b16⟩)⟩, ⟨(fun e => by cases e), (fun _ e => by obtain rfl := Option.some.inj e; exact ⟨G40, v74, v77, v80, v83, v86, o75, o78, o81, o84, o87, a90, a91, a92, rfl, z41, b42⟩)⟩, rfl, fB⟩
def rickyardref06_Values.s2 (fu : Nat) (s10 : (List Int) × Int) (t24 : Int) : (Bool × Int) → Option (Sum Bool (Bool × Int)) := fun s28 => (if (decide (s28.2 < (List.length s10.1 : Int))) = true then (((if s28.1 = true then some (true) else (if 0 ≤ s28.2 ∧ s28.2 < (List.length s10.1 : Int) then some ((decide ((ix s10.1 s28.2) = t24))) else none)) : Option Bool).bind fun x36 => some (Sum.inr (x36, (IntKind.i64.wrap (s28.2 + 1))))) else some (Sum.inl (s28.1)))
def rickyardref06_Values.s1 (fu : Nat) (a0 : S_api_Fate) : ((List Int) × Int) → Option (Sum (List Int) ((List Int) × Int)) := fun s10 => (if (decide (s10.2 < 3)) = true then ((rickyardref05_Value.f fu a0 s10.2).bind fun t24 => ((loopM (rickyardref06_Values.s2 fu s10 t24) fu (false, 0)).bind fun e29 => (((if (!e29) = true then (if List.length s10.1 + List.length [t24] ≤ LIM then some ((s10.1 ++ [t24])) else none) else some (s10.1)) : Option (List Int)).bind fun x43 => some (Sum.inr (x43, (IntKind.i64.wrap (s10.2 + 1))))))) else some (Sum.inl (s10.1)))
def rickyardref06_Values.f (fu : Nat) (a0 : S_api_Fate) : Option (List Int) := ((loopM (rickyardref06_Values.s1 fu a0) fu ([], 0)).bind fun e11 => some (e11))
theorem rickyardref06_Values.ok (fu : Nat) (w : World) (a0 : S_api_Fate) (r : (List Int)) (h : rickyardref06_Values.f fu a0 = some r) :
  Calls Try.prog 51 (([aggV [(sI a0.At), Seg.cell (.int .u64 a0.Lasts), Seg.cell (.bool a0.Flushed), Seg.cell (.int .u64 a0.Sent), Seg.cell (.int .u64 a0.Stored)]] : List Value).toArray) w (fun e w' => ∃ v, e = .returned v ∧ ∃ u1 : Value, ∃ o2 : Own (kI .u64) 22 w' w.heap.size u1 r, v = u1 ∧ Gr w w') := by
 unfold rickyardref06_Values.f at h
 have fB : Gr w w := Fr.refl _ _
 refine calls_cw Try.func51 rfl Try.ntmps51 rfl ?_
 refine cw_seq ?_
 refine cw_region ?_
 refine ol_op (opv_box (ss := [(sI a0.At), Seg.cell (.int .u64 a0.Lasts), Seg.cell (.bool a0.Flushed), Seg.cell (.int .u64 a0.Sent), Seg.cell (.int .u64 a0.Stored)]) rfl rfl rfl) rfl rfl rfl ?_
 rintro _ w9 ⟨G4, rfl, b5, q6, z7⟩
 have z7 := Nat.le_trans fB.size z7
 have fB := fB.gr q6
 refine ol_val (v := .slice none 0 0) (xr_assign rfl rfl) rfl rfl rfl ?_
 refine ol_nil ?_
 refine cw_seq ?_
 refine cw_region ?_
 refine ol_val (v := .slice none 0 0) (xr_assign rfl rfl) rfl rfl rfl ?_
 refine ol_nil ?_
 refine cw_seq ?_
 refine cw_seq ?_
 refine cw_region ?_
 refine ol_val (v := .int .i64 0) (xr_assign rfl rfl) rfl rfl rfl ?_
 refine ol_nil ?_
 obtain ⟨e11, l12, h13⟩ := bs h
 refine cw_mid (fun ρ' w' => ∃ v14 : Value, ∃ o15 : Own (kI .u64) 22 w' w.heap.size v14 e11, ρ' 3 = v14 ∧ Gr w w') ?_ ?_
 ·refine cw_block ?_
  refine cw_round (fun (s10 : (List Int) × Int) ρ' w' => ∃ v17 : Value, ∃ o18 : Own (kI .u64) 22 w' w.heap.size v17 s10.1, ρ' 1 = (pt G4 0) ∧ ρ' 3 = v17 ∧ ρ' 4 = .int .i64 s10.2 ∧ Blk w' G4 55 [(sI a0.At), Seg.cell (.int .u64 a0.Lasts), Seg.cell (.bool a0.Flushed), Seg.cell (.int .u64 a0.Sent), Seg.cell (.int .u64 a0.Stored)] ∧ Gr w w') l12 ?_ ?_
  ·skip
   exact ⟨(.slice none 0 0), Own.nil _ _ _ _, rfl, rfl, rfl, b5, fB⟩
  rintro s10 x22 ρ20 w21 ⟨v17, o18, e1, e3, e4, b5, fB⟩ h
  unfold rickyardref06_Values.s1 at h
  refine cw_seq ?_
  refine cw_seq ?_
  refine cw_region ?_
  refine ol_val (v := .int .i64 s10.2) (xr_move rfl e4) rfl rfl rfl ?_
  refine ol_val (v := .bool (decide (s10.2 < 3))) (xr_lss rfl rfl rfl) rfl rfl rfl ?_
  refine ol_nil ?_
  rcases is h with ⟨c23, h⟩ | ⟨c23, h⟩
  ·refine cw_condT rfl c23 ?_
   refine cw_skip ?_
   refine cw_seq ?_
   refine cw_block ?_
   refine cw_seq ?_
   refine cw_region ?_
   refine ol_val (v := aggV [(sI a0.At), Seg.cell (.int .u64 a0.Lasts), Seg.cell (.bool a0.Flushed), Seg.cell (.int .u64 a0.Sent), Seg.cell (.int .u64 a0.Stored)]) (xr_loadS (ss := [(sI a0.At), Seg.cell (.int .u64 a0.Lasts), Seg.cell (.bool a0.Flushed), Seg.cell (.int .u64 a0.Sent), Seg.cell (.int .u64 a0.Stored)]) rfl ag55 sz55 rfl e1 (b5.segs 0 5 rfl)) rfl rfl rfl ?_
   refine ol_val (v := .int .i64 s10.2) (xr_move rfl e4) rfl rfl rfl ?_
   obtain ⟨t24, k25, h⟩ := bs h
   refine ol_op (opv_call rfl cal42 (ac rfl (ac rfl an)) (rickyardref05_Value.ok fu _ a0 s10.2 _ k25)) rfl rfl rfl ?_
   rintro _ w27 ⟨rfl, q26⟩
   have b5 := b5.gr q26
   have o18 := o18.gr q26
   have fB := fB.gr q26
   refine ol_val (v := .int .u64 t24) (xr_assign rfl rfl) rfl rfl rfl ?_
   refine ol_nil ?_
   refine cw_seq ?_
   refine cw_region ?_
   refine ol_val (v := .bool false) (xr_assign rfl rfl) rfl rfl rfl ?_
   refine ol_nil ?_
   refine cw_seq ?_
   refine cw_seq ?_
   refine cw_region ?_
   refine ol_val (v := .int .i64 0) (xr_assign rfl rfl) rfl rfl rfl ?_
   refine ol_nil ?_
   obtain ⟨e29, l30, h31⟩ := bs h
   refine cw_mid (fun ρ' w' => ∃ o18 : Own (kI .u64) 22 w' w.heap.size v17 s10.1, ρ' 1 = (pt G4 0) ∧ ρ' 3 = v17 ∧ ρ' 4 = .int .i64 s10.2 ∧ ρ' 5 = .int .u64 t24 ∧ ρ' 6 = .bool e29 ∧ Blk w' G4 55 [(sI a0.At), Seg.cell (.int .u64 a0.Lasts), Seg.cell (.bool a0.Flushed), Seg.cell (.int .u64 a0.Sent), Seg.cell (.int .u64 a0.Stored)] ∧ Gr w w') ?_ ?_
   ·refine cw_block ?_
    refine cw_round (fun (s28 : Bool × Int) ρ' w' => ∃ o18 : Own (kI .u64) 22 w' w.heap.size v17 s10.1, ρ' 1 = (pt G4 0) ∧ ρ' 3 = v17 ∧ ρ' 4 = .int .i64 s10.2 ∧ ρ' 5 = .int .u64 t24 ∧ ρ' 6 = .bool s28.1 ∧ ρ' 7 = .int .i64 s28.2 ∧ Blk w' G4 55 [(sI a0.At), Seg.cell (.int .u64 a0.Lasts), Seg.cell (.bool a0.Flushed), Seg.cell (.int .u64 a0.Sent), Seg.cell (.int .u64 a0.Stored)] ∧ Gr w w') l30 ?_ ?_
    ·skip
     exact ⟨o18, e1, e3, e4, rfl, rfl, rfl, b5, fB⟩
    rintro s28 x34 ρ32 w33 ⟨o18, e1, e3, e4, e5, e6, e7, b5, fB⟩ h
    unfold rickyardref06_Values.s2 at h
    refine cw_seq ?_
    refine cw_seq ?_
    refine cw_region ?_
    refine ol_val (v := .int .i64 s28.2) (xr_move rfl e7) rfl rfl rfl ?_
    refine ol_val (v := v17) (xr_move rfl e3) rfl rfl rfl ?_
    refine ol_val (v := .int .i64 (List.length s10.1 : Int)) (xr_lenR rfl Try.underlying46 rfl o18.rd) rfl rfl rfl ?_
    refine ol_val (v := .bool (decide (s28.2 < (List.length s10.1 : Int)))) (xr_lss rfl rfl rfl) rfl rfl rfl ?_
    refine ol_nil ?_
    rcases is h with ⟨c35, h⟩ | ⟨c35, h⟩
    ·refine cw_condT rfl c35 ?_
     refine cw_skip ?_
     refine cw_seq ?_
     refine cw_block ?_
     obtain ⟨x36, j37, h⟩ := bs h
     refine cw_mid (fun ρ' w' => ρ' 1 = (pt G4 0) ∧ ρ' 3 = v17 ∧ ρ' 4 = .int .i64 s10.2 ∧ ρ' 5 = .int .u64 t24 ∧ ρ' 6 = .bool x36 ∧ ρ' 7 = .int .i64 s28.2 ∧ w33 = w') ?_ ?_
     ·skip
      refine cw_region ?_
      refine ol_val (v := .bool s28.1) (xr_move rfl e6) rfl rfl rfl ?_
      refine ol_val (v := .bool s28.1) (xr_move rfl rfl) rfl rfl rfl ?_
      rcases is j37 with ⟨c38, j37⟩ | ⟨c38, j37⟩
      ·skip
       refine ol_gskip rfl rfl rfl rfl rfl c38 ?_
       refine ol_gskip rfl rfl rfl rfl rfl c38 ?_
       refine ol_gskip rfl rfl rfl rfl rfl c38 ?_
       refine ol_gskip rfl rfl rfl rfl rfl c38 ?_
       refine ol_gskip rfl rfl rfl rfl rfl c38 ?_
       refine ol_gskip rfl rfl rfl rfl rfl c38 ?_
       refine ol_val (v := .bool true) (xr_pickT rfl rfl c38 rfl) rfl rfl rfl ?_
       refine ol_val (v := .bool true) (xr_assign rfl rfl) rfl rfl rfl ?_
       refine ol_nil ?_
       obtain rfl := Option.some.inj j37
       refine thn_i ?_
       exact ⟨e1, e3, e4, e5, rfl, e7, rfl⟩
      refine ol_gval (v := v17) (xr_move rfl e3) rfl rfl rfl rfl rfl c38 ?_
      refine ol_gval (v := .int .i64 s28.2) (xr_move rfl e7) rfl rfl rfl rfl rfl c38 ?_
      obtain ⟨g39, j37⟩ := gs j37
      refine ol_gval (v := (pt ((sb v17)) (so v17 + Int.toNat s28.2 * 1))) (xr_indexR (K := (kI .u64)) (v := v17) rfl Try.underlying46 sz22 rfl o18.rd rfl g39.1 g39.2) rfl rfl rfl rfl rfl c38 ?_
      refine ol_gval (v := .int .u64 (ix s10.1 s28.2)) (xr_load1 (v := .int .u64 (ix s10.1 s28.2)) rfl ag22 rfl (o18.rd.elem g39.1 g39.2)) rfl rfl rfl rfl rfl c38 ?_
      refine ol_gval (v := .int .u64 t24) (xr_move rfl e5) rfl rfl rfl rfl rfl c38 ?_
      refine ol_gval (v := .bool (decide ((ix s10.1 s28.2) = t24))) (xr_eqI rfl Try.underlying22 rfl rfl rfl) rfl rfl rfl rfl rfl c38 ?_
      refine ol_val (v := .bool (decide ((ix s10.1 s28.2) = t24))) (xr_pickF rfl rfl c38 rfl) rfl rfl rfl ?_
      refine ol_val (v := .bool (decide ((ix s10.1 s28.2) = t24))) (xr_assign rfl rfl) rfl rfl rfl ?_
      refine ol_nil ?_
      obtain rfl := Option.some.inj j37
      refine thn_i ?_
      exact ⟨e1, e3, e4, e5, rfl, e7, rfl⟩
     rintro ρ40 _ ⟨e1, e3, e4, e5, e6, e7, rfl⟩
     refine blk_i ?_
     refine cw_region ?_
     refine ol_val (v := .int .i64 s28.2) (xr_move rfl e7) rfl rfl rfl ?_
     refine ol_val (v := .int .i64 (IntKind.i64.wrap (s28.2 + 1))) (xr_add rfl rfl rfl) rfl rfl rfl ?_
     refine ol_val (v := .int .i64 (IntKind.i64.wrap (s28.2 + 1))) (xr_assign rfl rfl) rfl rfl rfl ?_
     refine ol_nil ?_
     obtain rfl := Option.some.inj h
     refine lp_in ?_
     exact ⟨o18, e1, e3, e4, e5, e6, rfl, b5, fB⟩
    refine cw_condF rfl c35 ?_
    refine cw_exit ?_
    repeat (first | with_reducible refine thn_e ?_ | with_reducible refine blk_e rfl ?_)
    obtain rfl := Option.some.inj h
    refine lp_exit ?_
    rintro rfl
    refine thn_x ?_
    exact ⟨o18, e1, e3, e4, e5, e6, b5, fB⟩
   rintro ρ41 w42 ⟨o18, e1, e3, e4, e5, e6, b5, fB⟩
   have h := h31
   refine cw_seq ?_
   refine cw_region ?_
   refine ol_val (v := .bool e29) (xr_move rfl e6) rfl rfl rfl ?_
   refine ol_val (v := .bool (!e29)) (xr_not rfl rfl) rfl rfl rfl ?_
   refine ol_nil ?_
   obtain ⟨x43, j44, h45⟩ := bs h
   refine cw_mid (fun ρ' w' => ∃ v46 : Value, ∃ o47 : Own (kI .u64) 22 w' w.heap.size v46 x43, ρ' 1 = (pt G4 0) ∧ ρ' 3 = v46 ∧ ρ' 4 = .int .i64 s10.2 ∧ Blk w' G4 55 [(sI a0.At), Seg.cell (.int .u64 a0.Lasts), Seg.cell (.bool a0.Flushed), Seg.cell (.int .u64 a0.Sent), Seg.cell (.int .u64 a0.Stored)] ∧ Gr w w') ?_ ?_
   ·have h := j44
    rcases is h with ⟨c49, h⟩ | ⟨c49, h⟩
    ·refine cw_condT rfl c49 ?_
     refine cw_region ?_
     refine ol_val (v := v17) (xr_move rfl e3) rfl rfl rfl ?_
     refine ol_val (v := .int .u64 t24) (xr_move rfl e5) rfl rfl rfl ?_
     refine ol_op (opv_buildSlice (K := (kI .u64)) (xs := [t24]) (vals := [.int .u64 t24]) rfl Try.underlying46 el22 rfl rfl ⟨rfl, rfl, trivial⟩ rfl rfl rfl fB.size) rfl rfl rfl ?_
     rintro v50 w55 ⟨o52, q51, z53⟩
     have a56 := OffV.new o18 z53
     have b5 := b5.gr q51
     have o18 := o18.gr q51
     have fB := fB.gr q51
     obtain ⟨g61, h⟩ := gs h
     have f63 := off_ty b5 o18 (by decide)
     have f64 := o18.geO
     refine ol_op (opv_append (K := (kI .u64)) rfl Try.underlying46 el22 rfl rfl rfl rfl rfl o18 o52.rd g61 fB.size) rfl rfl rfl ?_
     rintro v57 w65 ⟨o58, q59, n60⟩
     have b5 := b5.wrO q59 f63
     have fB := fB.wrO q59 f64
     refine ol_val (v := v57) (xr_assign rfl rfl) rfl rfl rfl ?_
     refine ol_nil ?_
     obtain rfl := Option.some.inj h
     refine thn_i ?_
     exact ⟨v57, o58, e1, rfl, e4, b5, fB⟩
    refine cw_condF rfl c49 ?_
    refine cw_skip ?_
    obtain rfl := Option.some.inj h
    refine thn_i ?_
    exact ⟨v17, o18, e1, e3, e4, b5, fB⟩
   rintro ρ66 w67 ⟨v46, o47, e1, e3, e4, b5, fB⟩
   have h := h45
   refine blk_i ?_
   refine cw_region ?_
   refine ol_val (v := .int .i64 s10.2) (xr_move rfl e4) rfl rfl rfl ?_
   refine ol_val (v := .int .i64 (IntKind.i64.wrap (s10.2 + 1))) (xr_add rfl rfl rfl) rfl rfl rfl ?_
   refine ol_val (v := .int .i64 (IntKind.i64.wrap (s10.2 + 1))) (xr_assign rfl rfl) rfl rfl rfl ?_
   refine ol_nil ?_
   obtain rfl := Option.some.inj h
   refine lp_in ?_
   exact ⟨v46, o47, e1, e3, rfl, b5, fB⟩
  refine cw_condF rfl c23 ?_
  refine cw_exit ?_
  repeat (first | with_reducible refine thn_e ?_ | with_reducible refine blk_e rfl ?_)
  obtain rfl := Option.some.inj h
  refine lp_exit ?_
  rintro rfl
  refine thn_x ?_
  exact ⟨v17, o18, e3, fB⟩
 rintro ρ68 w69 ⟨v14, o15, e3, fB⟩
 have h := h13
 refine cw_seq ?_
 refine cw_region ?_
 refine ol_val (v := v14) (xr_move rfl e3) rfl rfl rfl ?_
 refine ol_val (v := v14) (xr_assign rfl rfl) rfl rfl rfl ?_
 refine ol_nil ?_
 refine cw_ret ?_
 repeat (first | with_reducible refine thn_r ?_ | with_reducible refine blk_r ?_)
 obtain rfl := Option.some.inj h
 refine fin_ret1 Try.results51 rfl ?_
 exact ⟨_, rfl, v14, o15, rfl, fB⟩
def rickyardref06_Count.s0 (fu : Nat) (t1 : (List S_api_Fate)) : (Int × Int) → Option (Sum Int (Int × Int)) := fun s8 => (if (decide (s8.2 < (List.length t1 : Int))) = true then (if 0 ≤ s8.2 ∧ s8.2 < (List.length t1 : Int) then ((rickyardref06_Values.f fu (ix t1 s8.2)).bind fun t17 => (((if (decide ((IntKind.i64.wrap (s8.1 * (List.length t17 : Int))) > 1099511627776)) = true then some (1099511627776) else some ((IntKind.i64.wrap (s8.1 * (List.length t17 : Int))))) : Option Int).bind fun x24 => some (Sum.inr (x24, (IntKind.i64.wrap (s8.2 + 1)))))) else none) else some (Sum.inl (s8.1)))
def rickyardref06_Count.f (fu : Nat) (a0 : S_rickyardref05_Device) : Option Int := ((rickyardref05_Device_Fates.f fu a0).bind fun t1 => ((loopM (rickyardref06_Count.s0 fu t1) fu (1, 0)).bind fun e9 => some (e9)))
theorem rickyardref06_Count.ok (fu : Nat) (w : World) (a0 : S_rickyardref05_Device) (G_0 : Nat) (V0_0 : Value) (R0_0 : Rd (kI .u64) w V0_0 a0.Lasts) (V0_1 : Value) (R0_1 : Rd (kI .u64) w V0_1 a0.Stored) (V0_2 : Value) (R0_2 : Rd (kI .u64) w V0_2 a0.Sent) (V0_3 : Value) (R0_3 : Rd kB w V0_3 a0.Flushed) (V0_4 : Value) (R0_4 : Rd (kI .i64) w V0_4 a0.Plan) (b_0 : Blk w G_0 65 [Seg.cell V0_0 R0_0.one, Seg.cell V0_1 R0_1.one, Seg.cell V0_2 R0_2.one, Seg.cell V0_3 R0_3.one, Seg.cell V0_4 R0_4.one, (sI a0.Since), (sI a0.Left), (sI a0.Steps)]) (r : Int) (h : rickyardref06_Count.f fu a0 = some r) :
  Calls Try.prog 62 (([(pt G_0 0)] : List Value).toArray) w (fun e w' => ∃ v, e = .returned v ∧ v = .int .i64 r ∧ Gr w w') := by
 unfold rickyardref06_Count.f at h
 have fB : Gr w w := Fr.refl _ _
 refine calls_cw Try.func62 rfl Try.ntmps62 rfl ?_
 refine cw_seq ?_
 refine cw_region ?_
 refine ol_val (v := .int .i64 0) (xr_assign rfl rfl) rfl rfl rfl ?_
 refine ol_nil ?_
 refine cw_seq ?_
 refine cw_region ?_
 refine ol_val (v := (pt G_0 0)) (xr_move rfl rfl) rfl rfl rfl ?_
 obtain ⟨t1, k2, h⟩ := bs h
 refine ol_op (opv_call rfl cal47 (ac rfl an) (rickyardref05_Device_Fates.ok fu _ a0 G_0 V0_0 (R0_0.gr fB) V0_1 (R0_1.gr fB) V0_2 (R0_2.gr fB) V0_3 (R0_3.gr fB) V0_4 (R0_4.gr fB) b_0 _ k2)) rfl rfl rfl ?_
 rintro u3 w7 ⟨_, o4, rfl, q6⟩
 have o4 := Own.base o4 fB.size
 have b_0 := b_0.gr q6
 have fB := fB.gr q6
 refine ol_val (v := u3) (xr_assign rfl rfl) rfl rfl rfl ?_
 refine ol_nil ?_
 refine cw_seq ?_
 refine cw_region ?_
 refine ol_val (v := .int .i64 1) (xr_assign rfl rfl) rfl rfl rfl ?_
 refine ol_nil ?_
 refine cw_seq ?_
 refine cw_seq ?_
 refine cw_region ?_
 refine ol_val (v := .int .i64 0) (xr_assign rfl rfl) rfl rfl rfl ?_
 refine ol_nil ?_
 obtain ⟨e9, l10, h11⟩ := bs h
 refine cw_mid (fun ρ' w' => ρ' 4 = .int .i64 e9 ∧ Blk w' G_0 65 [Seg.cell V0_0 R0_0.one, Seg.cell V0_1 R0_1.one, Seg.cell V0_2 R0_2.one, Seg.cell V0_3 R0_3.one, Seg.cell V0_4 R0_4.one, (sI a0.Since), (sI a0.Left), (sI a0.Steps)] ∧ Gr w w') ?_ ?_
 ·refine cw_block ?_
  refine cw_round (fun (s8 : Int × Int) ρ' w' => ∃ o4 : Own k_api_Fate 55 w' w.heap.size u3 t1, ρ' 3 = u3 ∧ ρ' 4 = .int .i64 s8.1 ∧ ρ' 5 = .int .i64 s8.2 ∧ Blk w' G_0 65 [Seg.cell V0_0 R0_0.one, Seg.cell V0_1 R0_1.one, Seg.cell V0_2 R0_2.one, Seg.cell V0_3 R0_3.one, Seg.cell V0_4 R0_4.one, (sI a0.Since), (sI a0.Left), (sI a0.Steps)] ∧ Gr w w') l10 ?_ ?_
  ·skip
   exact ⟨o4, rfl, rfl, rfl, b_0, fB⟩
  rintro s8 x14 ρ12 w13 ⟨o4, e3, e4, e5, b_0, fB⟩ h
  unfold rickyardref06_Count.s0 at h
  refine cw_seq ?_
  refine cw_seq ?_
  refine cw_region ?_
  refine ol_val (v := .int .i64 s8.2) (xr_move rfl e5) rfl rfl rfl ?_
  refine ol_val (v := u3) (xr_move rfl e3) rfl rfl rfl ?_
  refine ol_val (v := .int .i64 (List.length t1 : Int)) (xr_lenR rfl Try.underlying52 rfl o4.rd) rfl rfl rfl ?_
  refine ol_val (v := .bool (decide (s8.2 < (List.length t1 : Int)))) (xr_lss rfl rfl rfl) rfl rfl rfl ?_
  refine ol_nil ?_
  rcases is h with ⟨c15, h⟩ | ⟨c15, h⟩
  ·refine cw_condT rfl c15 ?_
   refine cw_skip ?_
   refine cw_seq ?_
   refine cw_block ?_
   refine cw_seq ?_
   refine cw_region ?_
   refine ol_val (v := .int .i64 s8.1) (xr_move rfl e4) rfl rfl rfl ?_
   refine ol_val (v := u3) (xr_move rfl e3) rfl rfl rfl ?_
   refine ol_val (v := .int .i64 s8.2) (xr_move rfl e5) rfl rfl rfl ?_
   obtain ⟨g16, h⟩ := gs h
   refine ol_val (v := (pt ((sb u3)) (so u3 + Int.toNat s8.2 * 5))) (xr_indexR (K := k_api_Fate) (v := u3) rfl Try.underlying52 sz55 rfl o4.rd rfl g16.1 g16.2) rfl rfl rfl ?_
   refine ol_val (v := aggV [(sI ((ix t1 s8.2).At)), Seg.cell (.int .u64 ((ix t1 s8.2).Lasts)), Seg.cell (.bool ((ix t1 s8.2).Flushed)), Seg.cell (.int .u64 ((ix t1 s8.2).Sent)), Seg.cell (.int .u64 ((ix t1 s8.2).Stored))]) (xr_loadS (ss := [(sI ((ix t1 s8.2).At)), Seg.cell (.int .u64 ((ix t1 s8.2).Lasts)), Seg.cell (.bool ((ix t1 s8.2).Flushed)), Seg.cell (.int .u64 ((ix t1 s8.2).Sent)), Seg.cell (.int .u64 ((ix t1 s8.2).Stored))]) rfl ag55 sz55 rfl rfl (o4.rd.elem g16.1 g16.2)) rfl rfl rfl ?_
   obtain ⟨t17, k18, h⟩ := bs h
   refine ol_op (opv_call rfl cal51 (ac rfl an) (rickyardref06_Values.ok fu _ (ix t1 s8.2) _ k18)) rfl rfl rfl ?_
   rintro u19 w23 ⟨_, o20, rfl, q22⟩
   have o20 := Own.base o20 fB.size
   have b_0 := b_0.gr q22
   have o4 := o4.gr q22
   have fB := fB.gr q22
   refine ol_val (v := .int .i64 (List.length t17 : Int)) (xr_lenR rfl Try.underlying46 rfl o20.rd) rfl rfl rfl ?_
   refine ol_val (v := .int .i64 (IntKind.i64.wrap (s8.1 * (List.length t17 : Int)))) (xr_mul rfl rfl rfl) rfl rfl rfl ?_
   refine ol_val (v := .int .i64 (IntKind.i64.wrap (s8.1 * (List.length t17 : Int)))) (xr_assign rfl rfl) rfl rfl rfl ?_
   refine ol_nil ?_
   refine cw_seq ?_
   refine cw_region ?_
   refine ol_val (v := .int .i64 (IntKind.i64.wrap (s8.1 * (List.length t17 : Int)))) (xr_move rfl rfl) rfl rfl rfl ?_
   refine ol_val (v := .bool (decide ((IntKind.i64.wrap (s8.1 * (List.length t17 : Int))) > 1099511627776))) (xr_gtr rfl rfl rfl) rfl rfl rfl ?_
   refine ol_nil ?_
   obtain ⟨x24, j25, h26⟩ := bs h
   refine cw_mid (fun ρ' w' => ∃ o4 : Own k_api_Fate 55 w' w.heap.size u3 t1, ρ' 3 = u3 ∧ ρ' 4 = .int .i64 x24 ∧ ρ' 5 = .int .i64 s8.2 ∧ Blk w' G_0 65 [Seg.cell V0_0 R0_0.one, Seg.cell V0_1 R0_1.one, Seg.cell V0_2 R0_2.one, Seg.cell V0_3 R0_3.one, Seg.cell V0_4 R0_4.one, (sI a0.Since), (sI a0.Left), (sI a0.Steps)] ∧ Gr w w') ?_ ?_
   ·have h := j25
    rcases is h with ⟨c27, h⟩ | ⟨c27, h⟩
    ·refine cw_condT rfl c27 ?_
     refine cw_region ?_
     refine ol_val (v := .int .i64 1099511627776) (xr_assign rfl rfl) rfl rfl rfl ?_
     refine ol_nil ?_
     obtain rfl := Option.some.inj h
     refine thn_i ?_
     exact ⟨o4, e3, rfl, e5, b_0, fB⟩
    refine cw_condF rfl c27 ?_
    refine cw_skip ?_
    obtain rfl := Option.some.inj h
    refine thn_i ?_
    exact ⟨o4, e3, rfl, e5, b_0, fB⟩
   rintro ρ28 w29 ⟨o4, e3, e4, e5, b_0, fB⟩
   have h := h26
   refine blk_i ?_
   refine cw_region ?_
   refine ol_val (v := .int .i64 s8.2) (xr_move rfl e5) rfl rfl rfl ?_
   refine ol_val (v := .int .i64 (IntKind.i64.wrap (s8.2 + 1))) (xr_add rfl rfl rfl) rfl rfl rfl ?_
   refine ol_val (v := .int .i64 (IntKind.i64.wrap (s8.2 + 1))) (xr_assign rfl rfl) rfl rfl rfl ?_
   refine ol_nil ?_
   obtain rfl := Option.some.inj h
   refine lp_in ?_
   exact ⟨o4, e3, e4, rfl, b_0, fB⟩
  refine cw_condF rfl c15 ?_
  refine cw_exit ?_
  repeat (first | with_reducible refine thn_e ?_ | with_reducible refine blk_e rfl ?_)
  obtain rfl := Option.some.inj h
  refine lp_exit ?_
  rintro rfl
  refine thn_x ?_
  exact ⟨e4, b_0, fB⟩
 rintro ρ30 w31 ⟨e4, b_0, fB⟩
 have h := h11
 refine cw_seq ?_
 refine cw_region ?_
 refine ol_val (v := .int .i64 e9) (xr_move rfl e4) rfl rfl rfl ?_
 refine ol_val (v := .int .i64 e9) (xr_assign rfl rfl) rfl rfl rfl ?_
 refine ol_nil ?_
 refine cw_ret ?_
 repeat (first | with_reducible refine thn_r ?_ | with_reducible refine blk_r ?_)
 obtain rfl := Option.some.inj h
 refine fin_ret1 Try.results62 rfl ?_
 exact ⟨_, rfl, rfl, fB⟩
def rickyardref05_Device_Fates__n0.s0 (fu : Nat) : ((List S_api_Fate) × Int) → Option (Sum Unit ((List S_api_Fate) × Int)) := fun s4 => none
def rickyardref05_Device_Fates__n0.f (fu : Nat) : Option (List S_api_Fate) := ((loopM (rickyardref05_Device_Fates__n0.s0 fu) fu ([], 0)).bind fun e5 => some ([]))
theorem rickyardref05_Device_Fates__n0.ok (fu : Nat) (w : World)  (r : (List S_api_Fate)) (h : rickyardref05_Device_Fates__n0.f fu = some r) :
  Calls Try.prog 47 (([.pointer none] : List Value).toArray) w (fun e w' => ∃ v, e = .returned v ∧ ∃ u1 : Value, ∃ o2 : Own k_api_Fate 55 w' w.heap.size u1 r, v = u1 ∧ Gr w w') := by
 unfold rickyardref05_Device_Fates__n0.f at h
 have fB : Gr w w := Fr.refl _ _
 refine calls_cw Try.func47 rfl Try.ntmps47 rfl ?_
 refine cw_seq ?_
 refine cw_region ?_
 refine ol_val (v := .slice none 0 0) (xr_assign rfl rfl) rfl rfl rfl ?_
 refine ol_nil ?_
 refine cw_seq ?_
 refine cw_region ?_
 refine ol_val (v := .slice none 0 0) (xr_assign rfl rfl) rfl rfl rfl ?_
 refine ol_nil ?_
 refine cw_seq ?_
 refine cw_seq ?_
 refine cw_region ?_
 refine ol_val (v := .int .i64 0) (xr_assign rfl rfl) rfl rfl rfl ?_
 refine ol_nil ?_
 obtain ⟨e5, l6, h7⟩ := bs h
 refine cw_mid (fun ρ' w' => ρ' 3 = .slice none 0 0 ∧ Gr w w') ?_ ?_
 ·refine cw_block ?_
  refine cw_round (fun (s4 : (List S_api_Fate) × Int) ρ' w' => ∃ v8 : Value, ∃ o9 : Own k_api_Fate 55 w' w.heap.size v8 s4.1, ρ' 0 = .pointer none ∧ ρ' 3 = v8 ∧ ρ' 4 = .int .i64 s4.2 ∧ Gr w w') l6 ?_ ?_
  ·skip
   exact ⟨(.slice none 0 0), Own.nil _ _ _ _, rfl, rfl, rfl, fB⟩
  rintro s4 x13 ρ11 w12 ⟨v8, o9, e0, e3, e4, fB⟩ h
  unfold rickyardref05_Device_Fates__n0.s0 at h
  refine cw_seq ?_
  refine cw_seq ?_
  refine cw_region ?_
  refine ol_val (v := .int .i64 s4.2) (xr_move rfl e4) rfl rfl rfl ?_
  refine ol_val (v := .pointer none) (xr_move rfl e0) rfl rfl rfl ?_
  cases h
 rintro ρ14 w15 ⟨e3, fB⟩
 have h := h7
 refine cw_seq ?_
 refine cw_region ?_
 refine ol_val (v := .slice none 0 0) (xr_move rfl e3) rfl rfl rfl ?_
 refine ol_val (v := .slice none 0 0) (xr_assign rfl rfl) rfl rfl rfl ?_
 refine ol_nil ?_
 refine cw_ret ?_
 repeat (first | with_reducible refine thn_r ?_ | with_reducible refine blk_r ?_)
 obtain rfl := Option.some.inj h
 refine fin_ret1 Try.results47 rfl ?_
 exact ⟨_, rfl, (.slice none 0 0), Own.nil _ _ _ _, rfl, fB⟩
def rickyardref06_Count__n0.s0 (fu : Nat) (t1 : (List S_api_Fate)) : (Int × Int) → Option (Sum Int (Int × Int)) := fun s8 => (if (decide (s8.2 < (List.length t1 : Int))) = true then (if 0 ≤ s8.2 ∧ s8.2 < (List.length t1 : Int) then ((rickyardref06_Values.f fu (ix t1 s8.2)).bind fun t17 => (((if (decide ((IntKind.i64.wrap (s8.1 * (List.length t17 : Int))) > 1099511627776)) = true then some (1099511627776) else some ((IntKind.i64.wrap (s8.1 * (List.length t17 : Int))))) : Option Int).bind fun x24 => some (Sum.inr (x24, (IntKind.i64.wrap (s8.2 + 1)))))) else none) else some (Sum.inl (s8.1)))
def rickyardref06_Count__n0.f (fu : Nat) : Option Int := ((rickyardref05_Device_Fates__n0.f fu).bind fun t1 => ((loopM (rickyardref06_Count__n0.s0 fu t1) fu (1, 0)).bind fun e9 => some (e9)))
theorem rickyardref06_Count__n0.ok (fu : Nat) (w : World)  (r : Int) (h : rickyardref06_Count__n0.f fu = some r) :
  Calls Try.prog 62 (([.pointer none] : List Value).toArray) w (fun e w' => ∃ v, e = .returned v ∧ v = .int .i64 r ∧ Gr w w') := by
 unfold rickyardref06_Count__n0.f at h
 have fB : Gr w w := Fr.refl _ _
 refine calls_cw Try.func62 rfl Try.ntmps62 rfl ?_
 refine cw_seq ?_
 refine cw_region ?_
 refine ol_val (v := .int .i64 0) (xr_assign rfl rfl) rfl rfl rfl ?_
 refine ol_nil ?_
 refine cw_seq ?_
 refine cw_region ?_
 refine ol_val (v := .pointer none) (xr_move rfl rfl) rfl rfl rfl ?_
 obtain ⟨t1, k2, h⟩ := bs h
 refine ol_op (opv_call rfl cal47 (ac rfl an) (rickyardref05_Device_Fates__n0.ok fu _ _ k2)) rfl rfl rfl ?_
 rintro u3 w7 ⟨_, o4, rfl, q6⟩
 have o4 := Own.base o4 fB.size
 have fB := fB.gr q6
 refine ol_val (v := u3) (xr_assign rfl rfl) rfl rfl rfl ?_
 refine ol_nil ?_
 refine cw_seq ?_
 refine cw_region ?_
 refine ol_val (v := .int .i64 1) (xr_assign rfl rfl) rfl rfl rfl ?_
 refine ol_nil ?_
 refine cw_seq ?_
 refine cw_seq ?_
 refine cw_region ?_
 refine ol_val (v := .int .i64 0) (xr_assign rfl rfl) rfl rfl rfl ?_
 refine ol_nil ?_
 obtain ⟨e9, l10, h11⟩ := bs h
 refine cw_mid (fun ρ' w' => ρ' 4 = .int .i64 e9 ∧ Gr w w') ?_ ?_
 ·refine cw_block ?_
  refine cw_round (fun (s8 : Int × Int) ρ' w' => ∃ o4 : Own k_api_Fate 55 w' w.heap.size u3 t1, ρ' 3 = u3 ∧ ρ' 4 = .int .i64 s8.1 ∧ ρ' 5 = .int .i64 s8.2 ∧ Gr w w') l10 ?_ ?_
  ·skip
   exact ⟨o4, rfl, rfl, rfl, fB⟩
  rintro s8 x14 ρ12 w13 ⟨o4, e3, e4, e5, fB⟩ h
  unfold rickyardref06_Count__n0.s0 at h
  refine cw_seq ?_
  refine cw_seq ?_
  refine cw_region ?_
  refine ol_val (v := .int .i64 s8.2) (xr_move rfl e5) rfl rfl rfl ?_
  refine ol_val (v := u3) (xr_move rfl e3) rfl rfl rfl ?_
  refine ol_val (v := .int .i64 (List.length t1 : Int)) (xr_lenR rfl Try.underlying52 rfl o4.rd) rfl rfl rfl ?_
  refine ol_val (v := .bool (decide (s8.2 < (List.length t1 : Int)))) (xr_lss rfl rfl rfl) rfl rfl rfl ?_
  refine ol_nil ?_
  rcases is h with ⟨c15, h⟩ | ⟨c15, h⟩
  ·refine cw_condT rfl c15 ?_
   refine cw_skip ?_
   refine cw_seq ?_
   refine cw_block ?_
   refine cw_seq ?_
   refine cw_region ?_
   refine ol_val (v := .int .i64 s8.1) (xr_move rfl e4) rfl rfl rfl ?_
   refine ol_val (v := u3) (xr_move rfl e3) rfl rfl rfl ?_
   refine ol_val (v := .int .i64 s8.2) (xr_move rfl e5) rfl rfl rfl ?_
   obtain ⟨g16, h⟩ := gs h
   refine ol_val (v := (pt ((sb u3)) (so u3 + Int.toNat s8.2 * 5))) (xr_indexR (K := k_api_Fate) (v := u3) rfl Try.underlying52 sz55 rfl o4.rd rfl g16.1 g16.2) rfl rfl rfl ?_
   refine ol_val (v := aggV [(sI ((ix t1 s8.2).At)), Seg.cell (.int .u64 ((ix t1 s8.2).Lasts)), Seg.cell (.bool ((ix t1 s8.2).Flushed)), Seg.cell (.int .u64 ((ix t1 s8.2).Sent)), Seg.cell (.int .u64 ((ix t1 s8.2).Stored))]) (xr_loadS (ss := [(sI ((ix t1 s8.2).At)), Seg.cell (.int .u64 ((ix t1 s8.2).Lasts)), Seg.cell (.bool ((ix t1 s8.2).Flushed)), Seg.cell (.int .u64 ((ix t1 s8.2).Sent)), Seg.cell (.int .u64 ((ix t1 s8.2).Stored))]) rfl ag55 sz55 rfl rfl (o4.rd.elem g16.1 g16.2)) rfl rfl rfl ?_
   obtain ⟨t17, k18, h⟩ := bs h
   refine ol_op (opv_call rfl cal51 (ac rfl an) (rickyardref06_Values.ok fu _ (ix t1 s8.2) _ k18)) rfl rfl rfl ?_
   rintro u19 w23 ⟨_, o20, rfl, q22⟩
   have o20 := Own.base o20 fB.size
   have o4 := o4.gr q22
   have fB := fB.gr q22
   refine ol_val (v := .int .i64 (List.length t17 : Int)) (xr_lenR rfl Try.underlying46 rfl o20.rd) rfl rfl rfl ?_
   refine ol_val (v := .int .i64 (IntKind.i64.wrap (s8.1 * (List.length t17 : Int)))) (xr_mul rfl rfl rfl) rfl rfl rfl ?_
   refine ol_val (v := .int .i64 (IntKind.i64.wrap (s8.1 * (List.length t17 : Int)))) (xr_assign rfl rfl) rfl rfl rfl ?_
   refine ol_nil ?_
   refine cw_seq ?_
   refine cw_region ?_
   refine ol_val (v := .int .i64 (IntKind.i64.wrap (s8.1 * (List.length t17 : Int)))) (xr_move rfl rfl) rfl rfl rfl ?_
   refine ol_val (v := .bool (decide ((IntKind.i64.wrap (s8.1 * (List.length t17 : Int))) > 1099511627776))) (xr_gtr rfl rfl rfl) rfl rfl rfl ?_
   refine ol_nil ?_
   obtain ⟨x24, j25, h26⟩ := bs h
   refine cw_mid (fun ρ' w' => ∃ o4 : Own k_api_Fate 55 w' w.heap.size u3 t1, ρ' 3 = u3 ∧ ρ' 4 = .int .i64 x24 ∧ ρ' 5 = .int .i64 s8.2 ∧ Gr w w') ?_ ?_
   ·have h := j25
    rcases is h with ⟨c27, h⟩ | ⟨c27, h⟩
    ·refine cw_condT rfl c27 ?_
     refine cw_region ?_
     refine ol_val (v := .int .i64 1099511627776) (xr_assign rfl rfl) rfl rfl rfl ?_
     refine ol_nil ?_
     obtain rfl := Option.some.inj h
     refine thn_i ?_
     exact ⟨o4, e3, rfl, e5, fB⟩
    refine cw_condF rfl c27 ?_
    refine cw_skip ?_
    obtain rfl := Option.some.inj h
    refine thn_i ?_
    exact ⟨o4, e3, rfl, e5, fB⟩
   rintro ρ28 w29 ⟨o4, e3, e4, e5, fB⟩
   have h := h26
   refine blk_i ?_
   refine cw_region ?_
   refine ol_val (v := .int .i64 s8.2) (xr_move rfl e5) rfl rfl rfl ?_
   refine ol_val (v := .int .i64 (IntKind.i64.wrap (s8.2 + 1))) (xr_add rfl rfl rfl) rfl rfl rfl ?_
   refine ol_val (v := .int .i64 (IntKind.i64.wrap (s8.2 + 1))) (xr_assign rfl rfl) rfl rfl rfl ?_
   refine ol_nil ?_
   obtain rfl := Option.some.inj h
   refine lp_in ?_
   exact ⟨o4, e3, e4, rfl, fB⟩
  refine cw_condF rfl c15 ?_
  refine cw_exit ?_
  repeat (first | with_reducible refine thn_e ?_ | with_reducible refine blk_e rfl ?_)
  obtain rfl := Option.some.inj h
  refine lp_exit ?_
  rintro rfl
  refine thn_x ?_
  exact ⟨e4, fB⟩
 rintro ρ30 w31 ⟨e4, fB⟩
 have h := h11
 refine cw_seq ?_
 refine cw_region ?_
 refine ol_val (v := .int .i64 e9) (xr_move rfl e4) rfl rfl rfl ?_
 refine ol_val (v := .int .i64 e9) (xr_assign rfl rfl) rfl rfl rfl ?_
 refine ol_nil ?_
 refine cw_ret ?_
 repeat (first | with_reducible refine thn_r ?_ | with_reducible refine blk_r ?_)
 obtain rfl := Option.some.inj h
 refine fin_ret1 Try.results62 rfl ?_
 exact ⟨_, rfl, rfl, fB⟩
def slices_Clone_2.f (fu : Nat) (a0 : List Int) : Option (List Int) := (if List.length a0 ≤ LIM then some a0 else none)
theorem slices_Clone_2.ok (fu : Nat) (w : World) (a0 : List Int) (V0_0 : Value) (R0_0 : Rd (kI .u8) w V0_0 a0) (r : List Int) (h : slices_Clone_2.f fu a0 = some r) :
  Calls Try.prog 111 (([V0_0] : List Value).toArray) w (fun e w' => ∃ v, e = .returned v ∧ ∃ u1 : Value, ∃ o2 : Own (kI .u8) 5 w' w.heap.size u1 r, v = u1 ∧ Gr w w') := by
 unfold slices_Clone_2.f at h
 obtain ⟨g, h⟩ := gs h
 obtain rfl := Option.some.inj h
 have fB : Gr w w := Fr.refl _ _
 refine calls_cw Try.func111 rfl Try.ntmps111 rfl ?_
 refine cw_seq ?_
 refine cw_region ?_
 refine ol_val (v := .slice none 0 0) (xr_assign rfl rfl) rfl rfl rfl ?_
 refine ol_nil ?_
 refine cw_seq ?_
 refine cw_seq ?_
 refine cw_region ?_
 refine ol_val (v := V0_0) (xr_move rfl rfl) rfl rfl rfl ?_
 refine ol_val (v := .bool (isNilV V0_0)) (xr_eqNil rfl Try.underlying43 rfl rfl R0_0) rfl rfl rfl ?_
 refine ol_nil ?_
 rcases bt (isNilV V0_0) with c | c
 ·refine cw_condT rfl c ?_
  obtain rfl := R0_0.isNil c
  refine cw_seq ?_
  refine cw_region ?_
  refine ol_val (v := .slice none 0 0) (xr_assign rfl rfl) rfl rfl rfl ?_
  refine ol_nil ?_
  refine cw_ret ?_
  repeat (first | with_reducible refine thn_r ?_ | with_reducible refine blk_r ?_)
  refine fin_ret1 Try.results111 rfl ?_
  exact ⟨_, rfl, _, Own.nil _ _ _ _, rfl, fB⟩
 refine cw_condF rfl c ?_
 refine cw_skip ?_
 refine cw_seq ?_
 refine cw_region ?_
 refine ol_op (opv_buildSlice (K := (kI .u8)) (xs := ([] : List Int)) (vals := []) rfl Try.underlying43 el5 rfl rfl trivial rfl rfl rfl fB.size) rfl rfl rfl ?_
 rintro v1 w1 ⟨o1, q1, z1⟩
 refine ol_val (v := V0_0) (xr_move rfl rfl) rfl rfl rfl ?_
 refine ol_op (opv_append (K := (kI .u8)) rfl Try.underlying43 el5 rfl rfl rfl rfl rfl o1 (R0_0.gr q1) (by simpa using g) (fB.gr q1).size) rfl rfl rfl ?_
 rintro v2 w2 ⟨o2, q2, n2⟩
 refine ol_val (v := v2) (xr_assign rfl rfl) rfl rfl rfl ?_
 refine ol_nil ?_
 refine cw_ret ?_
 repeat (first | with_reducible refine thn_r ?_ | with_reducible refine blk_r ?_)
 refine fin_ret1 Try.results111 rfl ?_
 exact ⟨_, rfl, v2, o2, rfl, (fB.gr q1).wrO q2 o1.geO⟩
end Go.Proofs.Ytklhbaghbmndeaa
namespace Go.Xw
open Go
def OwnS {α : Type} (K : Kd α) (E e : TypeId) (w : World) (B H : Nat) (v : Value) (LL : List (List α)) : Prop :=
  ∃ vs : List V1, Own kV E w B v vs ∧ vs.length = LL.length ∧ ∀ j, j < LL.length → Own K e w 0 (vs.getD j default).1 (LL.getD j []) ∧ ∀ k, (vs.getD j default).1.ownBlock = some k → k < H
def OffI (w : World) (e : TypeId) (H : Nat) (S : Nat → Prop) : Prop := ∀ k, k < H → (∃ cur fz, w.heap[k]? = some (.cells cur e fz)) → ¬ S k
section
variable {P : Program} {ρ : Env} {w w' : World} {o : Oper} {x y : Operand} {T E e : TypeId} {α β : Type} {K : Kd α} {K2 : Kd β} {B B2 H H2 : Nat} {v u : Value} {LL : List (List α)} {l : List β}
theorem own_ty {L : List α} (h : Own K e w B v L) {k : Nat} (hk : v.ownBlock = some k) : ∃ cur fz, w.heap[k]? = some (.cells cur e fz) := by
  rcases h.2 with ⟨rfl, _⟩ | ⟨g, cap, cur, rfl, _, hg, _⟩
  · simp [Value.ownBlock] at hk
  · obtain rfl : g = k := by simpa [Value.ownBlock] using hk
    exact ⟨_, _, hg⟩
theorem OwnS.fr {S : Nat → Prop} (h : OwnS K E e w B H v LL) (hf : Fr S w w') (ho : ∀ k, v.ownBlock = some k → ¬ S k) (hi : OffI w e H S) : OwnS K E e w' B H v LL := by
  obtain ⟨vs, h1, h2, h3⟩ := h
  exact ⟨vs, h1.fr hf ho, h2, fun j hj => ⟨(h3 j hj).1.fr hf fun k hk => hi k ((h3 j hj).2 k hk) (own_ty (h3 j hj).1 hk), (h3 j hj).2⟩⟩
theorem OwnS.gr (h : OwnS K E e w B H v LL) (hf : Gr w w') : OwnS K E e w' B H v LL := h.fr hf (fun _ _ q => q) (fun _ _ _ q => q)
theorem OwnS.wr {g : Nat} (h : OwnS K E e w B H v LL) (hf : Fr (fun j => j = g) w w') (ho : Off v g ∧ OffI w e H (fun j => j = g)) : OwnS K E e w' B H v LL := h.fr hf (fun k hk q => ho.1 (by rw [hk, q])) ho.2
theorem OwnS.wrV (h : OwnS K E e w B H v LL) (hf : Fr (fun j => some j = u.ownBlock) w w') (ho : OffV v u ∧ OffI w e H (fun j => some j = u.ownBlock)) : OwnS K E e w' B H v LL := h.fr hf (fun k hk q => ho.1 k hk q) ho.2
theorem OwnS.bound (h : OwnS K E e w B H v LL) : OwnS K E e w B w.heap.size v LL := by
  obtain ⟨vs, h1, h2, h3⟩ := h
  exact ⟨vs, h1, h2, fun j hj => ⟨(h3 j hj).1, fun k hk => (h3 j hj).1.lt hk⟩⟩
noncomputable def OwnS.vs (h : OwnS K E e w B H v LL) : List V1 := Classical.choose h
theorem OwnS.ow (h : OwnS K E e w B H v LL) : Own kV E w B v h.vs := (Classical.choose_spec h).1
theorem OwnS.geO (h : OwnS K E e w B H v LL) : ∀ g, v.ownBlock = some g → B ≤ g := h.ow.geO
theorem OwnS.one (h : OwnS K E e w B H v LL) : v.oneCell' = true := h.ow.one
theorem OwnS.base (h : OwnS K E e w B H v LL) (hb : B2 ≤ B) : OwnS K E e w B2 H v LL := by
  obtain ⟨vs, h1, h2⟩ := h
  exact ⟨vs, h1.base hb, h2⟩
theorem OwnS.nil (K : Kd α) (E e : TypeId) (w : World) (B H : Nat) : OwnS K E e w B H (.slice none 0 0) [] := ⟨[], Own.nil _ _ _ _, rfl, fun j hj => by simp at hj⟩
theorem OwnS.rd (h : OwnS K E e w B H v LL) : Rds K w v LL := by
  obtain ⟨vs, h1, h2, h3⟩ := h
  exact ⟨vs, h1.rd, h2, fun j hj => (h3 j hj).1.rd⟩
theorem Rds.nil (K : Kd α) (w : World) : Rds K w (.slice none 0 0) [] := (OwnS.nil K 0 0 w 0 0).rd
theorem OwnS.offRV (h : OwnS K E e w B H v LL) {i : Int} (h0 : 0 ≤ i) (h1 : i < (LL.length : Int)) {E2 : TypeId} (h2 : Own K2 E2 w B2 u l) (hne : e ≠ E2) : OffRV (inner w v i) (ix LL i) u := by
  obtain ⟨vs, hv, hl, h3⟩ := h
  have hat := hv.rd.elem h0 (by rw [hl]; exact h1)
  have hc := hat 0 _ rfl
  rw [Nat.add_zero] at hc
  have he : inner w v i = (ix vs i).1 := by
    unfold inner
    have : w.cell? ⟨sb v, so v + i.toNat * 1, none⟩ = some (ix vs i).1 := hc
    rw [this]
    rfl
  rw [he]
  exact OffRV.own (h3 i.toNat (by omega)).1 (OffV.ty (h3 i.toNat (by omega)).1 h2 hne)
theorem offi_b {g : Nat} {T : TypeId} {ss : List Seg} (hb : Blk w g T ss) (hne : T ≠ e) : OffI w e H (fun j => j = g) := by
  intro k _ ⟨cur, fz, hk⟩ q
  subst q
  unfold Blk at hb
  rw [hb] at hk
  injection hk with hk
  injection hk with _ ht
  exact hne ht
theorem offi_v {E2 : TypeId} (h2 : Own K2 E2 w B2 u l) (hne : E2 ≠ e) : OffI w e H (fun j => some j = u.ownBlock) := by
  intro k _ ⟨cur, fz, hk⟩ q
  obtain ⟨cur2, fz2, hk2⟩ := own_ty h2 q.symm
  rw [hk2] at hk
  injection hk with hk
  injection hk with _ ht
  exact hne ht
theorem offi_ge (z : ∀ k, u.ownBlock = some k → H ≤ k) : OffI w e H (fun j => some j = u.ownBlock) := by
  intro k hk _ q
  have := z k q.symm
  omega
theorem opv_build1S {L : List α} {bs : Nat} {zv : Value} {B0 : Nat} (ho : o.op = .buildSlice T 1 #[(0, x)]) (hT : P.underlying T = some (.slice E)) (hE : elB P E = some (some zv, 1, bs)) (hz : zv.cells.size = 1)
    (hr : Own K e w B0 v L) (hx : evO ρ x = v) (hB : B ≤ w.heap.size) : OpV P o ρ w (fun u w' => OwnS K E e w' B w'.heap.size u [L] ∧ Gr w w' ∧ ∀ k, u.ownBlock = some k → w.heap.size ≤ k) := by
  have h := opv_buildSlice (P := P) (ρ := ρ) (w := w) (K := kV) (B := B) (xs := [(⟨v, hr.one⟩ : V1)]) (vals := [v]) ho hT hE rfl hz ⟨rfl, hx, trivial⟩ rfl rfl rfl hB
  refine h.mono ?_
  rintro u w' ⟨hown, hgr, hz⟩
  refine ⟨⟨[⟨v, hr.one⟩], hown, rfl, fun j hj => ?_⟩, hgr, hz⟩
  have : j = 0 := by simp at hj; exact hj
  subst this
  have h2 := (hr.gr hgr).base (Nat.zero_le _)
  exact ⟨h2, fun k hk => h2.lt hk⟩
theorem opv_appendS {bs : Nat} {zv : Value} {MM : List (List α)} (ho : o.op = .call ⟨.builtin .append, #[x, y], #[T, T]⟩) (hT : P.underlying T = some (.slice E)) (hE : elB P E = some (some zv, 1, bs)) (hz : zv.cells.size = 1)
    (hbs : Nat.ble bs 32768 = true) (hx : evO ρ x = v) (hy : evO ρ y = u) (h : OwnS K E e w B H v LL) (hr : OwnS K E e w B2 H2 u MM) (hne : e ≠ E) (hlim : LL.length + MM.length ≤ LIM) (hB : B ≤ w.heap.size) :
    OpV P o ρ w (fun v' w' => OwnS K E e w' B w'.heap.size v' (LL ++ MM) ∧ Fr (fun j => some j = v.ownBlock) w w' ∧ ∀ g, g < w.heap.size → Off v g → Off v' g) := by
  obtain ⟨vs, h1, h2, h3⟩ := h
  obtain ⟨us, r1, r2, r3⟩ := hr
  have ha := opv_append (P := P) (ρ := ρ) (w := w) (K := kV) (B := B) (L := vs) (M := us) ho hT hE hz rfl hbs hx hy h1 r1.rd (by rw [h2, r2]; exact hlim) hB
  refine ha.mono ?_
  rintro v' w' ⟨ho', hf, hon⟩
  refine ⟨⟨vs ++ us, ho', by simp [h2, r2], fun j hj => ?_⟩, hf, hon⟩
  have key : ∀ {z : Value} {L : List α}, Own K e w 0 z L → Own K e w' 0 z L ∧ ∀ k, z.ownBlock = some k → k < w'.heap.size := by
    intro z L hz
    have := hz.wrV hf (OffV.ty hz h1 hne)
    exact ⟨this, fun k hk => this.lt hk⟩
  by_cases hl : j < LL.length
  · have e1 : (vs ++ us).getD j default = vs.getD j default := by
      rw [List.getD_eq_getElem?_getD, List.getD_eq_getElem?_getD, List.getElem?_append_left (by omega)]
    have e2 : (LL ++ MM).getD j [] = LL.getD j [] := by
      rw [List.getD_eq_getElem?_getD, List.getD_eq_getElem?_getD, List.getElem?_append_left hl]
    rw [e1, e2]
    exact key (h3 j hl).1
  · have hj' : j - LL.length < MM.length := by
      rw [List.length_append] at hj
      omega
    have e1 : (vs ++ us).getD j default = us.getD (j - LL.length) default := by
      rw [List.getD_eq_getElem?_getD, List.getD_eq_getElem?_getD, List.getElem?_append_right (by omega), h2]
    have e2 : (LL ++ MM).getD j [] = MM.getD (j - LL.length) [] := by
      rw [List.getD_eq_getElem?_getD, List.getD_eq_getElem?_getD, List.getElem?_append_right (by omega)]
    rw [e1, e2]
    exact key (r3 _ hj').1
end
end Go.Xw
namespace Go.Proofs.Ytklhbaghbmndeaa
open Go Go.Xw
def fate_All.s6 (fu : Nat) (t27 : (List S_api_Fate)) (s36 : (List (List Int)) × Int) (s69 : (List (List Int)) × Int) (t93 : (List Int)) : ((List (List Int)) × Int) → Option (Sum (List (List Int)) ((List (List Int)) × Int)) := fun s103 => (if (decide (s103.2 < (List.length t93 : Int))) = true then (if 0 ≤ s103.2 ∧ s103.2 < (List.length t93 : Int) then ((slices_Clone_2.f fu (ix s36.1 s69.2)).bind fun t125 => (if 0 ≤ (IntKind.i64.wrap (((ix t27 s36.2).At) * 8)) ∧ (IntKind.i64.wrap (((ix t27 s36.2).At) * 8)) ≤ (List.length t125 : Int) then ((octet_Octets.f fu [(ix t93 s103.2)]).bind fun t144 => (if Int.toNat (IntKind.i64.wrap (((ix t27 s36.2).At) * 8)) ≤ List.length t125 ∧ List.length t125 ≤ List.length t125 then (if List.length s103.1 + List.length [(splL t125 (Int.toNat (IntKind.i64.wrap (((ix t27 s36.2).At) * 8))) (List.take (List.length t125 - Int.toNat (IntKind.i64.wrap (((ix t27 s36.2).At) * 8))) t144))] ≤ LIM then some (Sum.inr ((s103.1 ++ [(splL t125 (Int.toNat (IntKind.i64.wrap (((ix t27 s36.2).At) * 8))) (List.take (List.length t125 - Int.toNat (IntKind.i64.wrap (((ix t27 s36.2).At) * 8))) t144))]), (IntKind.i64.wrap (s103.2 + 1)))) else none) else none)) else none)) else none) else some (Sum.inl (s103.1)))
def fate_All.s5 (fu : Nat) (t27 : (List S_api_Fate)) (s36 : (List (List Int)) × Int) : ((List (List Int)) × Int) → Option (Sum (List (List Int)) ((List (List Int)) × Int)) := fun s69 => (if (decide (s69.2 < (List.length s36.1 : Int))) = true then (if 0 ≤ s69.2 ∧ s69.2 < (List.length s36.1 : Int) then ((fate_Values.f fu (ix t27 s36.2)).bind fun t93 => ((loopM (fate_All.s6 fu t27 s36 s69 t93) fu (s69.1, 0)).bind fun e104 => some (Sum.inr (e104, (IntKind.i64.wrap (s69.2 + 1)))))) else none) else some (Sum.inl (s69.1)))
def fate_All.s3 (fu : Nat) (t27 : (List S_api_Fate)) : ((List (List Int)) × Int) → Option (Sum (List (List Int)) ((List (List Int)) × Int)) := fun s36 => (if (decide (s36.2 < (List.length t27 : Int))) = true then (if 0 ≤ s36.2 ∧ s36.2 < (List.length t27 : Int) then ((loopM (fate_All.s5 fu t27 s36) fu ([], 0)).bind fun e70 => some (Sum.inr (e70, (IntKind.i64.wrap (s36.2 + 1))))) else none) else some (Sum.inl (s36.1)))
def fate_All.f (fu : Nat) (a0 : S_pmem_Device) (a1 : Int) : Option (List (List Int)) := ((fate_Count.f fu a0).bind fun t3 => (if (if (decide (t3 = 0)) = true then true else (decide (t3 > (mnI a1 64)))) = true then some ([]) else ((pmem_Device_Image.f fu a0).bind fun t10 => ((pmem_Device_Fates.f fu a0).bind fun t27 => ((loopM (fate_All.s3 fu t27) fu ([t10], 0)).bind fun e37 => some (e37))))))
theorem fate_All.ok (fu : Nat) (w : World) (a0 : S_pmem_Device) (G_0 : Nat) (V0_0 : Value) (R0_0 : Rd k_pmem_cell w V0_0 a0.cells) (V0_1 : Value) (R0_1 : Rd (kI .i64) w V0_1 a0.plan.list) (b_0 : Blk w G_0 139 [Seg.cell V0_0 R0_0.one, Seg.cell V0_1 R0_1.one, (sI a0.plan.at_), Seg.cell (.bool a0.off), Seg.cell (.bool a0.armed), (sI a0.left), (sI a0.steps)]) (a1 : Int) (r : (List (List Int))) (h : fate_All.f fu a0 a1 = some r) :
  Calls Try.prog 67 (([(pt G_0 0), .int .i64 a1] : List Value).toArray) w (fun e w' => ∃ v, e = .returned v ∧ ∃ u1 : Value, ∃ r2 : Rds (kI .u8) w' u1 r, v = u1 ∧ Gr w w') := by
 unfold fate_All.f at h
 have fB : Gr w w := Fr.refl _ _
 refine calls_cw Try.func67 rfl Try.ntmps67 rfl ?_
 refine cw_seq ?_
 refine cw_region ?_
 refine ol_val (v := .slice none 0 0) (xr_assign rfl rfl) rfl rfl rfl ?_
 refine ol_nil ?_
 refine cw_seq ?_
 refine cw_seq ?_
 refine cw_region ?_
 refine ol_val (v := (pt G_0 0)) (xr_move rfl rfl) rfl rfl rfl ?_
 obtain ⟨t3, k4, h⟩ := bs h
 refine ol_op (opv_call rfl cal61 (ac rfl an) (fate_Count.ok fu _ a0 G_0 V0_0 (R0_0) V0_1 (R0_1) b_0 _ k4)) rfl rfl rfl ?_
 rintro _ w6 ⟨rfl, q5⟩
 have b_0 := b_0.gr q5
 have R0_0 := R0_0.gr q5
 have R0_1 := R0_1.gr q5
 have fB := fB.gr q5
 refine ol_val (v := .int .i64 t3) (xr_assign rfl rfl) rfl rfl rfl ?_
 refine ol_nil ?_
 refine cw_seq ?_
 refine cw_mid (fun ρ' w' => ρ' 0 = (pt G_0 0) ∧ ρ' 24 = .bool (if (decide (t3 = 0)) = true then true else (decide (t3 > (mnI a1 64)))) ∧ w6 = w') ?_ ?_
 ·skip
  refine cw_region ?_
  refine ol_val (v := .int .i64 t3) (xr_move rfl rfl) rfl rfl rfl ?_
  refine ol_val (v := .bool (decide (t3 = 0))) (xr_eqI rfl Try.underlying3 rfl rfl rfl) rfl rfl rfl ?_
  refine ol_val (v := .bool (decide (t3 = 0))) (xr_move rfl rfl) rfl rfl rfl ?_
  rcases bt (decide (t3 = 0)) with c7 | c7
  ·skip
   refine ol_gskip rfl rfl rfl rfl rfl c7 ?_
   refine ol_gskip rfl rfl rfl rfl rfl c7 ?_
   refine ol_gskip rfl rfl rfl rfl rfl c7 ?_
   refine ol_gskip rfl rfl rfl rfl rfl c7 ?_
   refine ol_val (v := .bool true) (xr_pickT rfl rfl c7 rfl) rfl rfl rfl ?_
   refine ol_nil ?_
   refine thn_i ?_
   exact ⟨rfl, (rfl).trans (congrArg (fun z => (.bool z : Value)) (show true = (if (decide (t3 = 0)) = true then true else (decide (t3 > (mnI a1 64)))) from by rw [ite_t c7])), rfl⟩
  refine ol_gval (v := .int .i64 t3) (xr_move rfl rfl) rfl rfl rfl rfl rfl c7 ?_
  refine ol_gval (v := .int .i64 a1) (xr_move rfl rfl) rfl rfl rfl rfl rfl c7 ?_
  refine ol_gval (v := .int .i64 (mnI a1 64)) (xr_min2 rfl rfl rfl) rfl rfl rfl rfl rfl c7 ?_
  refine ol_gval (v := .bool (decide (t3 > (mnI a1 64)))) (xr_gtr rfl rfl rfl) rfl rfl rfl rfl rfl c7 ?_
  refine ol_val (v := .bool (decide (t3 > (mnI a1 64)))) (xr_pickF rfl rfl c7 rfl) rfl rfl rfl ?_
  refine ol_nil ?_
  refine thn_i ?_
  exact ⟨rfl, (rfl).trans (congrArg (fun z => (.bool z : Value)) (show (decide (t3 > (mnI a1 64))) = (if (decide (t3 = 0)) = true then true else (decide (t3 > (mnI a1 64)))) from by rw [ite_f c7])), rfl⟩
 rintro ρ8 _ ⟨e0, e24, rfl⟩
 rcases is h with ⟨c9, h⟩ | ⟨c9, h⟩
 ·refine cw_condT e24 c9 ?_
  refine cw_seq ?_
  refine cw_region ?_
  refine ol_val (v := .slice none 0 0) (xr_assign rfl rfl) rfl rfl rfl ?_
  refine ol_nil ?_
  refine cw_ret ?_
  repeat (first | with_reducible refine thn_r ?_ | with_reducible refine blk_r ?_)
  obtain rfl := Option.some.inj h
  refine fin_ret1 Try.results67 rfl ?_
  exact ⟨_, rfl, (.slice none 0 0), (Rds.nil (kI .u8) _), rfl, fB⟩
 refine cw_condF e24 c9 ?_
 refine cw_skip ?_
 refine cw_seq ?_
 refine cw_region ?_
 refine ol_val (v := (pt G_0 0)) (xr_move rfl e0) rfl rfl rfl ?_
 obtain ⟨t10, k11, h⟩ := bs h
 refine ol_op (opv_call rfl cal33 (ac rfl an) (pmem_Device_Image.ok fu _ a0 G_0 V0_0 (R0_0) V0_1 (R0_1) b_0 _ k11)) rfl rfl rfl ?_
 rintro u12 w16 ⟨_, o13, rfl, q15⟩
 have a17 := OffRV.call R0_0 o13 rfl
 have a18 := OffRV.call R0_1 o13 rfl
 have o13 := Own.base o13 fB.size
 have b_0 := b_0.gr q15
 have R0_0 := R0_0.gr q15
 have R0_1 := R0_1.gr q15
 have fB := fB.gr q15
 refine ol_op (opv_build1S rfl Try.underlying100 el43 rfl o13 rfl fB.size) rfl rfl rfl ?_
 rintro v19 w24 ⟨S21, q20, z22⟩
 have a25 := OffRV.new R0_0 z22 rfl
 have a26 := OffRV.new R0_1 z22 rfl
 have b_0 := b_0.gr q20
 have R0_0 := R0_0.gr q20
 have R0_1 := R0_1.gr q20
 have fB := fB.gr q20
 refine ol_val (v := v19) (xr_assign rfl rfl) rfl rfl rfl ?_
 refine ol_nil ?_
 refine cw_seq ?_
 refine cw_seq ?_
 refine cw_region ?_
 refine ol_val (v := (pt G_0 0)) (xr_move rfl e0) rfl rfl rfl ?_
 obtain ⟨t27, k28, h⟩ := bs h
 refine ol_op (opv_call rfl cal40 (ac rfl an) (pmem_Device_Fates.ok fu _ a0 G_0 V0_0 (R0_0) V0_1 (R0_1) b_0 _ k28)) rfl rfl rfl ?_
 rintro u29 w33 ⟨_, o30, rfl, q32⟩
 have a34 := OffRV.call R0_0 o30 rfl
 have a35 := OffRV.call R0_1 o30 rfl
 have o30 := Own.base o30 fB.size
 have b_0 := b_0.gr q32
 have S21 := S21.gr q32
 have R0_0 := R0_0.gr q32
 have R0_1 := R0_1.gr q32
 have fB := fB.gr q32
 refine ol_val (v := .int .i64 (List.length t27 : Int)) (xr_lenR rfl Try.underlying52 rfl o30.rd) rfl rfl rfl ?_
 refine ol_val (v := .int .i64 0) (xr_move rfl rfl) rfl rfl rfl ?_
 refine ol_nil ?_
 obtain ⟨e37, l38, h39⟩ := bs h
 refine cw_mid (fun ρ' w' => ∃ v40 : Value, ∃ o41 : OwnS (kI .u8) 43 5 w' w.heap.size w'.heap.size v40 e37, ∃ R0_0 : Rd k_pmem_cell w' V0_0 a0.cells, ∃ R0_1 : Rd (kI .i64) w' V0_1 a0.plan.list, OffRV V0_0 a0.cells v40 ∧ OffRV V0_1 a0.plan.list v40 ∧ ρ' 6 = v40 ∧ Blk w' G_0 139 [Seg.cell V0_0 R0_0.one, Seg.cell V0_1 R0_1.one, (sI a0.plan.at_), Seg.cell (.bool a0.off), Seg.cell (.bool a0.armed), (sI a0.left), (sI a0.steps)] ∧ Gr w w') ?_ ?_
 ·refine cw_block ?_
  refine cw_round (fun (s36 : (List (List Int)) × Int) ρ' w' => ∃ v45 : Value, ∃ o30 : Own k_api_Fate 55 w' w.heap.size u29 t27, ∃ o46 : OwnS (kI .u8) 43 5 w' w.heap.size w'.heap.size v45 s36.1, ∃ R0_0 : Rd k_pmem_cell w' V0_0 a0.cells, ∃ R0_1 : Rd (kI .i64) w' V0_1 a0.plan.list, OffRV V0_0 a0.cells v45 ∧ OffRV V0_1 a0.plan.list v45 ∧ ρ' 6 = v45 ∧ ρ' 29 = u29 ∧ ρ' 30 = .int .i64 (List.length t27 : Int) ∧ ρ' 31 = .int .i64 s36.2 ∧ Blk w' G_0 139 [Seg.cell V0_0 R0_0.one, Seg.cell V0_1 R0_1.one, (sI a0.plan.at_), Seg.cell (.bool a0.off), Seg.cell (.bool a0.armed), (sI a0.left), (sI a0.steps)] ∧ Gr w w') l38 ?_ ?_
  ·skip
   exact ⟨v19, o30, S21.bound, R0_0, R0_1, a25, a26, rfl, rfl, rfl, rfl, b_0, fB⟩
  rintro s36 x52 ρ50 w51 ⟨v45, o30, o46, R0_0, R0_1, a48, a49, e6, e29, e30, e31, b_0, fB⟩ h
  unfold fate_All.s3 at h
  refine cw_seq ?_
  refine cw_region ?_
  refine ol_val (v := .bool (decide (s36.2 < (List.length t27 : Int)))) (xr_lss rfl e31 e30) rfl rfl rfl ?_
  refine ol_nil ?_
  refine cw_seq ?_
  rcases is h with ⟨c53, h⟩ | ⟨c53, h⟩
  ·refine cw_condT rfl c53 ?_
   refine cw_skip ?_
   refine cw_seq ?_
   refine cw_block ?_
   refine cw_seq ?_
   refine cw_region ?_
   obtain ⟨g54, h⟩ := gs h
   refine ol_val (v := (pt ((sb u29)) (so u29 + Int.toNat s36.2 * 5))) (xr_indexR (K := k_api_Fate) (v := u29) rfl Try.underlying52 sz55 e29 o30.rd e31 g54.1 g54.2) rfl rfl rfl ?_
   refine ol_val (v := aggV [(sI ((ix t27 s36.2).At)), Seg.cell (.int .u64 ((ix t27 s36.2).Lasts)), Seg.cell (.bool ((ix t27 s36.2).Flushed)), Seg.cell (.int .u64 ((ix t27 s36.2).Sent)), Seg.cell (.int .u64 ((ix t27 s36.2).Stored))]) (xr_loadS (ss := [(sI ((ix t27 s36.2).At)), Seg.cell (.int .u64 ((ix t27 s36.2).Lasts)), Seg.cell (.bool ((ix t27 s36.2).Flushed)), Seg.cell (.int .u64 ((ix t27 s36.2).Sent)), Seg.cell (.int .u64 ((ix t27 s36.2).Stored))]) rfl ag55 sz55 rfl rfl (o30.rd.elem g54.1 g54.2)) rfl rfl rfl ?_
   refine ol_op (opv_alloc (ss := [(sI (0 : Int)), Seg.cell (.int .u64 (0 : Int)), Seg.cell (.bool false), Seg.cell (.int .u64 (0 : Int)), Seg.cell (.int .u64 (0 : Int))]) rfl ze55 rfl) rfl rfl rfl ?_
   rintro _ w60 ⟨G55, rfl, b56, q57, z58⟩
   have n61 := b_0.ne z58
   have a62 := Own.off_new o30 z58
   have a63 := OffR.new R0_0 z58 rfl
   have a64 := OffR.new R0_1 z58 rfl
   have z58 := Nat.le_trans fB.size z58
   have b_0 := b_0.gr q57
   have o30 := o30.gr q57
   have o46 := o46.gr q57
   have R0_0 := R0_0.gr q57
   have R0_1 := R0_1.gr q57
   have fB := fB.gr q57
   have f66 := a62
   have f67 := off_ty b56 o46.ow (by decide)
   have f67 := And.intro f67 (offi_b (e := 5) (H := w51.heap.size) b56 (by decide))
   refine ol_op0 (opv_store (ss' := [(sI ((ix t27 s36.2).At)), Seg.cell (.int .u64 ((ix t27 s36.2).Lasts)), Seg.cell (.bool ((ix t27 s36.2).Flushed)), Seg.cell (.int .u64 ((ix t27 s36.2).Sent)), Seg.cell (.int .u64 ((ix t27 s36.2).Stored))]) (xs := cellsOf [(sI ((ix t27 s36.2).At)), Seg.cell (.int .u64 ((ix t27 s36.2).Lasts)), Seg.cell (.bool ((ix t27 s36.2).Flushed)), Seg.cell (.int .u64 ((ix t27 s36.2).Sent)), Seg.cell (.int .u64 ((ix t27 s36.2).Stored))]) rfl sz55 rfl rfl rfl (len_cellsOf _) (one_cellsOf _) b56 (Spl.segs _ 0 5 [(sI ((ix t27 s36.2).At)), Seg.cell (.int .u64 ((ix t27 s36.2).Lasts)), Seg.cell (.bool ((ix t27 s36.2).Flushed)), Seg.cell (.int .u64 ((ix t27 s36.2).Sent)), Seg.cell (.int .u64 ((ix t27 s36.2).Stored))] rfl rfl)) rfl rfl ?_
   rintro _ w68 ⟨b56, q65⟩
   have b_0 := b_0.wr q65 n61
   have o30 := o30.wr q65 f66
   have o46 := o46.wr q65 f67
   have R0_0 := R0_0.wr q65 a63
   have R0_1 := R0_1.wr q65 a64
   have fB := fB.wr q65 z58
   refine ol_nil ?_
   refine cw_seq ?_
   refine cw_region ?_
   refine ol_val (v := .slice none 0 0) (xr_assign rfl rfl) rfl rfl rfl ?_
   refine ol_nil ?_
   refine cw_seq ?_
   refine cw_seq ?_
   refine cw_region ?_
   refine ol_val (v := v45) (xr_move rfl e6) rfl rfl rfl ?_
   refine ol_val (v := .int .i64 (List.length s36.1 : Int)) (xr_lenRs rfl Try.underlying100 rfl o46.rd) rfl rfl rfl ?_
   refine ol_val (v := .int .i64 0) (xr_move rfl rfl) rfl rfl rfl ?_
   refine ol_nil ?_
   obtain ⟨e70, l71, h72⟩ := bs h
   refine cw_mid (fun ρ' w' => ∃ v73 : Value, ∃ o30 : Own k_api_Fate 55 w' w.heap.size u29 t27, ∃ o74 : OwnS (kI .u8) 43 5 w' w.heap.size w'.heap.size v73 e70, ∃ R0_0 : Rd k_pmem_cell w' V0_0 a0.cells, ∃ R0_1 : Rd (kI .i64) w' V0_1 a0.plan.list, OffRV V0_0 a0.cells v73 ∧ OffRV V0_1 a0.plan.list v73 ∧ ρ' 9 = v73 ∧ ρ' 29 = u29 ∧ ρ' 30 = .int .i64 (List.length t27 : Int) ∧ ρ' 31 = .int .i64 s36.2 ∧ Blk w' G_0 139 [Seg.cell V0_0 R0_0.one, Seg.cell V0_1 R0_1.one, (sI a0.plan.at_), Seg.cell (.bool a0.off), Seg.cell (.bool a0.armed), (sI a0.left), (sI a0.steps)] ∧ Gr w w') ?_ ?_
   ·refine cw_block ?_
    refine cw_round (fun (s69 : (List (List Int)) × Int) ρ' w' => ∃ v78 : Value, ∃ o30 : Own k_api_Fate 55 w' w.heap.size u29 t27, ∃ o46 : OwnS (kI .u8) 43 5 w' w.heap.size w'.heap.size v45 s36.1, ∃ o79 : OwnS (kI .u8) 43 5 w' w.heap.size w'.heap.size v78 s69.1, ∃ R0_0 : Rd k_pmem_cell w' V0_0 a0.cells, ∃ R0_1 : Rd (kI .i64) w' V0_1 a0.plan.list, OffV v45 v78 ∧ OffRV V0_0 a0.cells v78 ∧ OffRV V0_1 a0.plan.list v78 ∧ ρ' 8 = (pt G55 0) ∧ ρ' 9 = v78 ∧ ρ' 29 = u29 ∧ ρ' 30 = .int .i64 (List.length t27 : Int) ∧ ρ' 31 = .int .i64 s36.2 ∧ ρ' 35 = v45 ∧ ρ' 36 = .int .i64 (List.length s36.1 : Int) ∧ ρ' 37 = .int .i64 s69.2 ∧ Blk w' G_0 139 [Seg.cell V0_0 R0_0.one, Seg.cell V0_1 R0_1.one, (sI a0.plan.at_), Seg.cell (.bool a0.off), Seg.cell (.bool a0.armed), (sI a0.left), (sI a0.steps)] ∧ Blk w' G55 55 [(sI ((ix t27 s36.2).At)), Seg.cell (.int .u64 ((ix t27 s36.2).Lasts)), Seg.cell (.bool ((ix t27 s36.2).Flushed)), Seg.cell (.int .u64 ((ix t27 s36.2).Sent)), Seg.cell (.int .u64 ((ix t27 s36.2).Stored))] ∧ Gr w w') l71 ?_ ?_
    ·skip
     exact ⟨(.slice none 0 0), o30, o46.bound, OwnS.nil _ _ _ _ _ _, R0_0, R0_1, (OffV.nil v45), (OffRV.nil _ _), (OffRV.nil _ _), rfl, rfl, e29, e30, e31, rfl, rfl, rfl, b_0, b56, fB⟩
    rintro s69 x86 ρ84 w85 ⟨v78, o30, o46, o79, R0_0, R0_1, a81, a82, a83, e8, e9, e29, e30, e31, e35, e36, e37, b_0, b56, fB⟩ h
    unfold fate_All.s5 at h
    refine cw_seq ?_
    refine cw_region ?_
    refine ol_val (v := .bool (decide (s69.2 < (List.length s36.1 : Int)))) (xr_lss rfl e37 e36) rfl rfl rfl ?_
    refine ol_nil ?_
    refine cw_seq ?_
    rcases is h with ⟨c87, h⟩ | ⟨c87, h⟩
    ·refine cw_condT rfl c87 ?_
     refine cw_skip ?_
     refine cw_seq ?_
     refine cw_block ?_
     refine cw_seq ?_
     refine cw_region ?_
     obtain ⟨g88, h⟩ := gs h
     refine ol_val (v := (pt ((sb v45)) (so v45 + Int.toNat s69.2 * 1))) (xr_indexRs (v := v45) rfl Try.underlying100 sz43 e35 o46.rd e37 g88.1 g88.2) rfl rfl rfl ?_
     refine ol_val (v := inner w85 v45 s69.2) (xr_load1 (v := inner w85 v45 s69.2) rfl ag43 rfl (o46.rd.elem g88.1 g88.2).1) rfl rfl rfl ?_
     have r89 : Rd (kI .u8) w85 (inner w85 v45 s69.2) (ix s36.1 s69.2) := (o46.rd.elem g88.1 g88.2).2
     have a90 := OwnS.offRV o46 g88.1 g88.2 o30 (by decide)
     have a91 := OwnS.offRV o46 g88.1 g88.2 o46.ow (by decide)
     have a92 := OwnS.offRV o46 g88.1 g88.2 o79.ow (by decide)
     refine ol_val (v := inner w85 v45 s69.2) (xr_assign rfl rfl) rfl rfl rfl ?_
     refine ol_nil ?_
     refine cw_seq ?_
     refine cw_region ?_
     refine ol_val (v := aggV [(sI ((ix t27 s36.2).At)), Seg.cell (.int .u64 ((ix t27 s36.2).Lasts)), Seg.cell (.bool ((ix t27 s36.2).Flushed)), Seg.cell (.int .u64 ((ix t27 s36.2).Sent)), Seg.cell (.int .u64 ((ix t27 s36.2).Stored))]) (xr_loadS (ss := [(sI ((ix t27 s36.2).At)), Seg.cell (.int .u64 ((ix t27 s36.2).Lasts)), Seg.cell (.bool ((ix t27 s36.2).Flushed)), Seg.cell (.int .u64 ((ix t27 s36.2).Sent)), Seg.cell (.int .u64 ((ix t27 s36.2).Stored))]) rfl ag55 sz55 rfl e8 (b56.segs 0 5 rfl)) rfl rfl rfl ?_
     obtain ⟨t93, k94, h⟩ := bs h
     refine ol_op (opv_call rfl cal50 (ac rfl an) (fate_Values.ok fu _ (ix t27 s36.2) _ k94)) rfl rfl rfl ?_
     rintro u95 w99 ⟨_, o96, rfl, q98⟩
     have a100 := OffRV.call R0_0 o96 rfl
     have a101 := OffRV.call R0_1 o96 rfl
     have a102 := OffRV.call r89 o96 rfl
     have o96 := Own.base o96 fB.size
     have b_0 := b_0.gr q98
     have b56 := b56.gr q98
     have o30 := o30.gr q98
     have o46 := o46.gr q98
     have o79 := o79.gr q98
     have R0_0 := R0_0.gr q98
     have R0_1 := R0_1.gr q98
     have r89 := r89.gr q98
     have fB := fB.gr q98
     refine ol_val (v := .int .i64 (List.length t93 : Int)) (xr_lenR rfl Try.underlying46 rfl o96.rd) rfl rfl rfl ?_
     refine ol_val (v := .int .i64 0) (xr_move rfl rfl) rfl rfl rfl ?_
     refine ol_nil ?_
     obtain ⟨e104, l105, h106⟩ := bs h
     refine cw_mid (fun ρ' w' => ∃ v107 : Value, ∃ o30 : Own k_api_Fate 55 w' w.heap.size u29 t27, ∃ o46 : OwnS (kI .u8) 43 5 w' w.heap.size w'.heap.size v45 s36.1, ∃ o108 : OwnS (kI .u8) 43 5 w' w.heap.size w'.heap.size v107 e104, ∃ R0_0 : Rd k_pmem_cell w' V0_0 a0.cells, ∃ R0_1 : Rd (kI .i64) w' V0_1 a0.plan.list, OffV v45 v107 ∧ OffRV V0_0 a0.cells v107 ∧ OffRV V0_1 a0.plan.list v107 ∧ ρ' 8 = (pt G55 0) ∧ ρ' 9 = v107 ∧ ρ' 29 = u29 ∧ ρ' 30 = .int .i64 (List.length t27 : Int) ∧ ρ' 31 = .int .i64 s36.2 ∧ ρ' 35 = v45 ∧ ρ' 36 = .int .i64 (List.length s36.1 : Int) ∧ ρ' 37 = .int .i64 s69.2 ∧ Blk w' G_0 139 [Seg.cell V0_0 R0_0.one, Seg.cell V0_1 R0_1.one, (sI a0.plan.at_), Seg.cell (.bool a0.off), Seg.cell (.bool a0.armed), (sI a0.left), (sI a0.steps)] ∧ Blk w' G55 55 [(sI ((ix t27 s36.2).At)), Seg.cell (.int .u64 ((ix t27 s36.2).Lasts)), Seg.cell (.bool ((ix t27 s36.2).Flushed)), Seg.cell (.int .u64 ((ix t27 s36.2).Sent)), Seg.cell (.int .u64 ((ix t27 s36.2).Stored))] ∧ Gr w w') ?_ ?_
     ·refine cw_block ?_
      refine cw_round (fun (s103 : (List (List Int)) × Int) ρ' w' => ∃ v113 : Value, ∃ o30 : Own k_api_Fate 55 w' w.heap.size u29 t27, ∃ o46 : OwnS (kI .u8) 43 5 w' w.heap.size w'.heap.size v45 s36.1, ∃ o96 : Own (kI .u64) 22 w' w.heap.size u95 t93, ∃ o114 : OwnS (kI .u8) 43 5 w' w.heap.size w'.heap.size v113 s103.1, ∃ R0_0 : Rd k_pmem_cell w' V0_0 a0.cells, ∃ R0_1 : Rd (kI .i64) w' V0_1 a0.plan.list, ∃ r89 : Rd (kI .u8) w' (inner w85 v45 s69.2) (ix s36.1 s69.2), OffV v45 v113 ∧ OffRV V0_0 a0.cells v113 ∧ OffRV V0_1 a0.plan.list v113 ∧ OffRV (inner w85 v45 s69.2) (ix s36.1 s69.2) v113 ∧ ρ' 8 = (pt G55 0) ∧ ρ' 9 = v113 ∧ ρ' 11 = inner w85 v45 s69.2 ∧ ρ' 29 = u29 ∧ ρ' 30 = .int .i64 (List.length t27 : Int) ∧ ρ' 31 = .int .i64 s36.2 ∧ ρ' 35 = v45 ∧ ρ' 36 = .int .i64 (List.length s36.1 : Int) ∧ ρ' 37 = .int .i64 s69.2 ∧ ρ' 42 = u95 ∧ ρ' 43 = .int .i64 (List.length t93 : Int) ∧ ρ' 44 = .int .i64 s103.2 ∧ Blk w' G_0 139 [Seg.cell V0_0 R0_0.one, Seg.cell V0_1 R0_1.one, (sI a0.plan.at_), Seg.cell (.bool a0.off), Seg.cell (.bool a0.armed), (sI a0.left), (sI a0.steps)] ∧ Blk w' G55 55 [(sI ((ix t27 s36.2).At)), Seg.cell (.int .u64 ((ix t27 s36.2).Lasts)), Seg.cell (.bool ((ix t27 s36.2).Flushed)), Seg.cell (.int .u64 ((ix t27 s36.2).Sent)), Seg.cell (.int .u64 ((ix t27 s36.2).Stored))] ∧ Gr w w') l105 ?_ ?_
      ·skip
       exact ⟨v78, o30, o46.bound, o96, o79.bound, R0_0, R0_1, r89, a81, a82, a83, a92, e8, e9, rfl, e29, e30, e31, e35, e36, e37, rfl, rfl, rfl, b_0, b56, fB⟩
      rintro s103 x122 ρ120 w121 ⟨v113, o30, o46, o96, o114, R0_0, R0_1, r89, a116, a117, a118, a119, e8, e9, e11, e29, e30, e31, e35, e36, e37, e42, e43, e44, b_0, b56, fB⟩ h
      unfold fate_All.s6 at h
      refine cw_seq ?_
      refine cw_region ?_
      refine ol_val (v := .bool (decide (s103.2 < (List.length t93 : Int)))) (xr_lss rfl e44 e43) rfl rfl rfl ?_
      refine ol_nil ?_
      refine cw_seq ?_
      rcases is h with ⟨c123, h⟩ | ⟨c123, h⟩
      ·refine cw_condT rfl c123 ?_
       refine cw_skip ?_
       refine cw_seq ?_
       refine cw_block ?_
       refine cw_seq ?_
       refine cw_region ?_
       obtain ⟨g124, h⟩ := gs h
       refine ol_val (v := (pt ((sb u95)) (so u95 + Int.toNat s103.2 * 1))) (xr_indexR (K := (kI .u64)) (v := u95) rfl Try.underlying46 sz22 e42 o96.rd e44 g124.1 g124.2) rfl rfl rfl ?_
       refine ol_val (v := .int .u64 (ix t93 s103.2)) (xr_load1 (v := .int .u64 (ix t93 s103.2)) rfl ag22 rfl (o96.rd.elem g124.1 g124.2)) rfl rfl rfl ?_
       refine ol_val (v := .int .u64 (ix t93 s103.2)) (xr_assign rfl rfl) rfl rfl rfl ?_
       refine ol_nil ?_
       refine cw_seq ?_
       refine cw_region ?_
       refine ol_val (v := inner w85 v45 s69.2) (xr_move rfl e11) rfl rfl rfl ?_
       obtain ⟨t125, k126, h⟩ := bs h
       refine ol_op (opv_call rfl cal111 (ac rfl an) (slices_Clone_2.ok fu _ (ix s36.1 s69.2) (inner w85 v45 s69.2) (r89) _ k126)) rfl rfl rfl ?_
       rintro u127 w131 ⟨_, o128, rfl, q130⟩
       have a132 := o128.geO
       have a133 := o128.geO
       have a134 := OffRV.call R0_0 o128 rfl
       have a135 := OffRV.call R0_1 o128 rfl
       have a136 := OffRV.call r89 o128 rfl
       have o128 := Own.base o128 fB.size
       have b_0 := b_0.gr q130
       have b56 := b56.gr q130
       have o30 := o30.gr q130
       have o46 := o46.gr q130
       have o96 := o96.gr q130
       have o114 := o114.gr q130
       have R0_0 := R0_0.gr q130
       have R0_1 := R0_1.gr q130
       have r89 := r89.gr q130
       have fB := fB.gr q130
       refine ol_val (v := u127) (xr_assign rfl rfl) rfl rfl rfl ?_
       refine ol_nil ?_
       refine cw_seq ?_
       obtain ⟨g138, h⟩ := gs h
       obtain ⟨t144, k145, h⟩ := bs h
       refine cw_drawL 8 [fun vz wz => vz = (u127 : Value), fun vz wz => vz = ((pt G55 0) : Value), fun vz wz => vz = (.int .i64 ((ix t27 s36.2).At) : Value), fun vz wz => vz = (.int .i64 (IntKind.i64.wrap (((ix t27 s36.2).At) * 8)) : Value), fun vz wz => ∃ r137 : Rd (kI .u8) wz (subv 1 u127 (Int.toNat (IntKind.i64.wrap (((ix t27 s36.2).At) * 8))) (List.length t125)) (cut t125 (IntKind.i64.wrap (((ix t27 s36.2).At) * 8)) (List.length t125 : Int)), vz = (subv 1 u127 (Int.toNat (IntKind.i64.wrap (((ix t27 s36.2).At) * 8))) (List.length t125) : Value), fun vz wz => vz = (.int .u64 (ix t93 s103.2) : Value), fun vz wz => ∃ v139 : Value, ∃ o141 : Own (kI .u64) 22 wz w.heap.size v139 [(ix t93 s103.2)], vz = (v139 : Value), fun vz wz => ∃ u146 : Value, ∃ o147 : Own (kI .u8) 5 wz w.heap.size u146 t144, vz = (u146 : Value)] mo rfl ⟨fun _ _ _ h _ => h, fun _ _ _ h _ => h, fun _ _ _ h _ => h, fun _ _ _ h _ => h, fun _ _ _ ⟨r137, h⟩ q => ⟨r137.gr q, h⟩, fun _ _ _ h _ => h, fun _ _ _ ⟨v139, o141, h⟩ q => ⟨v139, o141.gr q, h⟩, fun _ _ _ ⟨u146, o147, h⟩ q => ⟨u146, o147.gr q, h⟩, trivial⟩ ?_ ?_
       ·refine ⟨?_, ?_, ?_, ?_, ?_, ?_, ?_, ?_, trivial⟩
        ·intro ρz wz hz hk hd
         exact sk_val (v := u127) (xr_move rfl ((hk 14 rfl).trans rfl)) rfl rfl
        ·intro ρz wz hz hk hd
         exact sk_val (v := (pt G55 0)) (xr_fieldAddr (p := 0) (q := 0) rfl fl55_0 ((hk 8 rfl).trans e8)) rfl rfl
        ·intro ρz wz hz hk hd
         exact sk_val (v := .int .i64 ((ix t27 s36.2).At)) (xr_load1 (v := .int .i64 ((ix t27 s36.2).At)) rfl ag3 (hd 1 rfl 51 rfl) ((b56.gr hz).seg 0 rfl rfl)) rfl rfl
        ·intro ρz wz hz hk hd
         exact sk_val (v := .int .i64 (IntKind.i64.wrap (((ix t27 s36.2).At) * 8))) (xr_mul rfl (hd 2 rfl 52 rfl) rfl) rfl rfl
        ·intro ρz wz hz hk hd
         exact sk_val (xr_slice_l (K := (kI .u8)) (v := u127) rfl Try.underlying43 sz5 (hd 0 rfl 50 rfl) (o128.gr hz).rd (hd 3 rfl 53 rfl) g138.1 g138.2) rfl ⟨(o128.gr hz).rd.cut (lo := (IntKind.i64.wrap (((ix t27 s36.2).At) * 8))) (hi := (List.length t125 : Int)) g138.1 g138.2 (Int.le_refl _), rfl⟩
        ·intro ρz wz hz hk hd
         exact sk_val (v := .int .u64 (ix t93 s103.2)) (xr_move rfl ((hk 13 rfl).trans rfl)) rfl rfl
        ·intro ρz wz hz hk hd
         refine sk_op (opv_buildSlice (K := (kI .u64)) (xs := [(ix t93 s103.2)]) (vals := [.int .u64 (ix t93 s103.2)]) rfl Try.underlying46 el22 rfl rfl ⟨rfl, (hd 5 rfl 55 rfl), trivial⟩ rfl rfl rfl (Nat.le_trans fB.size hz.size)) rfl ?_
         rintro v139 wy ⟨o141, q140, z142⟩
         exact ⟨⟨v139, o141, rfl⟩, q140⟩
        intro ρz wz hz hk hd
        obtain ⟨v139, o141, d56⟩ := hd 6 rfl 56 rfl
        refine sk_op (opv_call rfl cal104 (ac d56 an) (octet_Octets.ok fu _ [(ix t93 s103.2)] v139 (o141.rd) _ k145)) rfl ?_
        rintro u146 wy ⟨_, o147, rfl, q149⟩
        exact ⟨⟨u146, Own.base o147 ((Nat.le_trans fB.size hz.size)), rfl⟩, q149⟩
       intro ρ150 w151 q152 hk hd
       have e8 := (hk 8 rfl).trans e8
       have e9 := (hk 9 rfl).trans e9
       have e11 := (hk 11 rfl).trans e11
       have e14 := (hk 14 rfl).trans rfl
       have e29 := (hk 29 rfl).trans e29
       have e30 := (hk 30 rfl).trans e30
       have e31 := (hk 31 rfl).trans e31
       have e35 := (hk 35 rfl).trans e35
       have e36 := (hk 36 rfl).trans e36
       have e37 := (hk 37 rfl).trans e37
       have e42 := (hk 42 rfl).trans e42
       have e43 := (hk 43 rfl).trans e43
       have e44 := (hk 44 rfl).trans e44
       obtain ⟨r153, e54⟩ := hd 4 rfl 54 rfl
       obtain ⟨u154, o155, e57⟩ := hd 7 rfl 57 rfl
       have b_0 := b_0.gr q152
       have b56 := b56.gr q152
       have o30 := o30.gr q152
       have o46 := o46.gr q152
       have o96 := o96.gr q152
       have o114 := o114.gr q152
       have o128 := o128.gr q152
       have R0_0 := R0_0.gr q152
       have R0_1 := R0_1.gr q152
       have r89 := r89.gr q152
       have fB := fB.gr q152
       obtain ⟨g158, h⟩ := gs h
       have f159 := off_ty b_0 o128 (by decide)
       have f160 := off_ty b56 o128 (by decide)
       have f161 := OffV.ty o30 o128 (by decide)
       have f162 := OffV.ty o46.ow o128 (by decide)
       have f162 := And.intro f162 (offi_ge (w := w151) (e := 5) a132)
       have f163 := OffV.ty o96 o128 (by decide)
       have f164 := OffV.ty o114.ow o128 (by decide)
       have f164 := And.intro f164 (offi_ge (w := w151) (e := 5) a133)
       have f165 := o128.geO
       refine ol_op (opv_copyCut rfl Try.underlying43 sz5 rfl e54 rfl e57 o128 g158.1 g158.2 o155.rd) rfl rfl rfl ?_
       rintro _ w166 ⟨rfl, o128, q157⟩
       have b_0 := b_0.wrO q157 f159
       have b56 := b56.wrO q157 f160
       have o30 := o30.wrV q157 f161
       have o46 := o46.wrV q157 f162
       have o96 := o96.wrV q157 f163
       have o114 := o114.wrV q157 f164
       have fB := fB.wrO q157 f165
       have R0_0 := R0_0.wrV q157 a134
       have R0_1 := R0_1.wrV q157 a135
       have r89 := r89.wrV q157 a136
       refine ol_nil ?_
       refine cw_region ?_
       refine ol_val (v := v113) (xr_move rfl e9) rfl rfl rfl ?_
       refine ol_val (v := u127) (xr_move rfl e14) rfl rfl rfl ?_
       refine ol_op (opv_build1S rfl Try.underlying100 el43 rfl o128 rfl fB.size) rfl rfl rfl ?_
       rintro v167 w172 ⟨S169, q168, z170⟩
       have a173 := OffV.new o46.ow z170
       have a174 := OffV.new o114.ow z170
       have a175 := OffRV.new R0_0 z170 rfl
       have a176 := OffRV.new R0_1 z170 rfl
       have a177 := OffRV.new r89 z170 rfl
       have b_0 := b_0.gr q168
       have b56 := b56.gr q168
       have o30 := o30.gr q168
       have o46 := o46.gr q168
       have o96 := o96.gr q168
       have o114 := o114.gr q168
       have R0_0 := R0_0.gr q168
       have R0_1 := R0_1.gr q168
       have r89 := r89.gr q168
       have fB := fB.gr q168
       obtain ⟨g182, h⟩ := gs h
       have f185 := off_ty b_0 o114.ow (by decide)
       have f186 := off_ty b56 o114.ow (by decide)
       have f187 := OffV.ty o30 o114.ow (by decide)
       have f188 := a116
       have f188 := And.intro f188 (offi_v (e := 5) (H := w121.heap.size) o114.ow (by decide))
       have f189 := OffV.ty o96 o114.ow (by decide)
       have f190 := o114.geO
       refine ol_op (opv_appendS rfl Try.underlying100 el43 rfl rfl rfl rfl o114 S169 (by decide) g182 fB.size) rfl rfl rfl ?_
       rintro v178 w191 ⟨S183, q180, n181⟩
       have a192 := OffV.app o46.ow f188.1 n181
       have a193 := OffRV.app R0_0 a117 n181 rfl
       have a194 := OffRV.app R0_1 a118 n181 rfl
       have a195 := OffRV.app r89 a119 n181 rfl
       have b_0 := b_0.wrO q180 f185
       have b56 := b56.wrO q180 f186
       have o30 := o30.wrV q180 f187
       have o46 := o46.wrV q180 f188
       have o96 := o96.wrV q180 f189
       have fB := fB.wrO q180 f190
       have R0_0 := R0_0.wrV q180 a117
       have R0_1 := R0_1.wrV q180 a118
       have r89 := r89.wrV q180 a119
       refine ol_val (v := v178) (xr_assign rfl rfl) rfl rfl rfl ?_
       refine ol_nil ?_
       refine blk_i ?_
       refine cw_region ?_
       refine ol_val (v := .int .i64 (IntKind.i64.wrap (s103.2 + 1))) (xr_add rfl e44 rfl) rfl rfl rfl ?_
       refine ol_val (v := .int .i64 (IntKind.i64.wrap (s103.2 + 1))) (xr_move rfl rfl) rfl rfl rfl ?_
       refine ol_nil ?_
       obtain rfl := Option.some.inj h
       refine lp_in ?_
       exact ⟨v178, o30, o46.bound, o96, S183.bound, R0_0, R0_1, r89, a192, a193, a194, a195, e8, rfl, e11, e29, e30, e31, e35, e36, e37, e42, e43, rfl, b_0, b56, fB⟩
      refine cw_condF rfl c123 ?_
      refine cw_exit ?_
      repeat (first | with_reducible refine thn_e ?_ | with_reducible refine blk_e rfl ?_)
      obtain rfl := Option.some.inj h
      refine lp_exit ?_
      rintro rfl
      refine thn_x ?_
      exact ⟨v113, o30, o46.bound, o114.bound, R0_0, R0_1, a116, a117, a118, e8, e9, e29, e30, e31, e35, e36, e37, b_0, b56, fB⟩
     rintro ρ196 w197 ⟨v107, o30, o46, o108, R0_0, R0_1, a110, a111, a112, e8, e9, e29, e30, e31, e35, e36, e37, b_0, b56, fB⟩
     have h := h106
     refine blk_i ?_
     refine cw_region ?_
     refine ol_val (v := .int .i64 (IntKind.i64.wrap (s69.2 + 1))) (xr_add rfl e37 rfl) rfl rfl rfl ?_
     refine ol_val (v := .int .i64 (IntKind.i64.wrap (s69.2 + 1))) (xr_move rfl rfl) rfl rfl rfl ?_
     refine ol_nil ?_
     obtain rfl := Option.some.inj h
     refine lp_in ?_
     exact ⟨v107, o30, o46.bound, o108.bound, R0_0, R0_1, a110, a111, a112, e8, e9, e29, e30, e31, e35, e36, rfl, b_0, b56, fB⟩
    refine cw_condF rfl c87 ?_
    refine cw_exit ?_
    repeat (first | with_reducible refine thn_e ?_ | with_reducible refine blk_e rfl ?_)
    obtain rfl := Option.some.inj h
    refine lp_exit ?_
    rintro rfl
    refine thn_x ?_
    exact ⟨v78, o30, o79.bound, R0_0, R0_1, a82, a83, e9, e29, e30, e31, b_0, fB⟩
   rintro ρ198 w199 ⟨v73, o30, o74, R0_0, R0_1, a76, a77, e9, e29, e30, e31, b_0, fB⟩
   have h := h72
   refine cw_region ?_
   refine ol_val (v := v73) (xr_move rfl e9) rfl rfl rfl ?_
   refine ol_val (v := v73) (xr_assign rfl rfl) rfl rfl rfl ?_
   refine ol_nil ?_
   refine blk_i ?_
   refine cw_region ?_
   refine ol_val (v := .int .i64 (IntKind.i64.wrap (s36.2 + 1))) (xr_add rfl e31 rfl) rfl rfl rfl ?_
   refine ol_val (v := .int .i64 (IntKind.i64.wrap (s36.2 + 1))) (xr_move rfl rfl) rfl rfl rfl ?_
   refine ol_nil ?_
   obtain rfl := Option.some.inj h
   refine lp_in ?_
   exact ⟨v73, o30, o74.bound, R0_0, R0_1, a76, a77, rfl, e29, e30, rfl, b_0, fB⟩
  refine cw_condF rfl c53 ?_
  refine cw_exit ?_
  repeat (first | with_reducible refine thn_e ?_ | with_reducible refine blk_e rfl ?_)
  obtain rfl := Option.some.inj h
  refine lp_exit ?_
  rintro rfl
  refine thn_x ?_
  exact ⟨v45, o46.bound, R0_0, R0_1, a48, a49, e6, b_0, fB⟩
 rintro ρ200 w201 ⟨v40, o41, R0_0, R0_1, a43, a44, e6, b_0, fB⟩
 have h := h39
 refine cw_seq ?_
 refine cw_region ?_
 refine ol_val (v := v40) (xr_move rfl e6) rfl rfl rfl ?_
 refine ol_val (v := v40) (xr_assign rfl rfl) rfl rfl rfl ?_
 refine ol_nil ?_
 refine cw_ret ?_
 repeat (first | with_reducible refine thn_r ?_ | with_reducible refine blk_r ?_)
 obtain rfl := Option.some.inj h
 refine fin_ret1 Try.results67 rfl ?_
 exact ⟨_, rfl, v40, o41.rd, rfl, fB⟩
def rickyardref05_Text.s2 (fu : Nat) (a0 : List Int) (s1 : (List Int) × Int) : ((List Int) × Int) → Option (Sum (List Int) ((List Int) × Int)) := fun s15 => (if (decide (s15.2 < 8)) = true then (if 0 ≤ s1.2 ∧ s1.2 < (List.length a0 : Int) then (if 0 ≤ (IntKind.i64.wrap (8 * s15.2)) then (if List.length s15.1 + List.length [(IntKind.u8.wrap (shR .u64 (ix a0 s1.2) (IntKind.i64.wrap (8 * s15.2))))] ≤ LIM then some (Sum.inr ((s15.1 ++ [(IntKind.u8.wrap (shR .u64 (ix a0 s1.2) (IntKind.i64.wrap (8 * s15.2))))]), (IntKind.i64.wrap (s15.2 + 1)))) else none) else none) else none) else some (Sum.inl (s15.1)))
def rickyardref05_Text.s1 (fu : Nat) (a0 : List Int) : ((List Int) × Int) → Option (Sum (List Int) ((List Int) × Int)) := fun s1 => (if (decide (s1.2 < (List.length a0 : Int))) = true then ((loopM (rickyardref05_Text.s2 fu a0 s1) fu (s1.1, 0)).bind fun e16 => some (Sum.inr (e16, (IntKind.i64.wrap (s1.2 + 1))))) else some (Sum.inl (s1.1)))
def rickyardref05_Text.f (fu : Nat) (a0 : List Int) : Option (List UInt8) := ((loopM (rickyardref05_Text.s1 fu a0) fu ([], 0)).bind fun e2 => some ((List.map toB e2)))
theorem rickyardref05_Text.ok (fu : Nat) (w : World) (a0 : List Int) (V0_0 : Value) (R0_0 : Rd (kI .u64) w V0_0 a0) (r : (List UInt8)) (h : rickyardref05_Text.f fu a0 = some r) :
  Calls Try.prog 34 (([V0_0] : List Value).toArray) w (fun e w' => ∃ v, e = .returned v ∧ v = sv r ∧ Gr w w') := by
 unfold rickyardref05_Text.f at h
 have fB : Gr w w := Fr.refl _ _
 refine calls_cw Try.func34 rfl Try.ntmps34 rfl ?_
 refine cw_seq ?_
 refine cw_region ?_
 refine ol_val (v := sv []) (xr_assign rfl rfl) rfl rfl rfl ?_
 refine ol_nil ?_
 refine cw_seq ?_
 refine cw_region ?_
 refine ol_val (v := .slice none 0 0) (xr_assign rfl rfl) rfl rfl rfl ?_
 refine ol_nil ?_
 refine cw_seq ?_
 refine cw_seq ?_
 refine cw_region ?_
 refine ol_val (v := .int .i64 0) (xr_assign rfl rfl) rfl rfl rfl ?_
 refine ol_nil ?_
 obtain ⟨e2, l3, h4⟩ := bs h
 refine cw_mid (fun ρ' w' => ∃ v5 : Value, ∃ o6 : Own (kI .u8) 5 w' w.heap.size v5 e2, ρ' 3 = v5 ∧ Gr w w') ?_ ?_
 ·refine cw_block ?_
  refine cw_round (fun (s1 : (List Int) × Int) ρ' w' => ∃ v8 : Value, ∃ o9 : Own (kI .u8) 5 w' w.heap.size v8 s1.1, ρ' 0 = V0_0 ∧ ρ' 3 = v8 ∧ ρ' 4 = .int .i64 s1.2 ∧ Gr w w') l3 ?_ ?_
  ·skip
   exact ⟨(.slice none 0 0), Own.nil _ _ _ _, rfl, rfl, rfl, fB⟩
  rintro s1 x13 ρ11 w12 ⟨v8, o9, e0, e3, e4, fB⟩ h
  unfold rickyardref05_Text.s1 at h
  refine cw_seq ?_
  refine cw_seq ?_
  refine cw_region ?_
  refine ol_val (v := .int .i64 s1.2) (xr_move rfl e4) rfl rfl rfl ?_
  refine ol_val (v := V0_0) (xr_move rfl e0) rfl rfl rfl ?_
  refine ol_val (v := .int .i64 (List.length a0 : Int)) (xr_lenR rfl Try.underlying46 rfl (R0_0.gr fB)) rfl rfl rfl ?_
  refine ol_val (v := .bool (decide (s1.2 < (List.length a0 : Int)))) (xr_lss rfl rfl rfl) rfl rfl rfl ?_
  refine ol_nil ?_
  rcases is h with ⟨c14, h⟩ | ⟨c14, h⟩
  ·refine cw_condT rfl c14 ?_
   refine cw_skip ?_
   refine cw_seq ?_
   refine cw_block ?_
   refine cw_seq ?_
   refine cw_region ?_
   refine ol_val (v := .int .i64 0) (xr_assign rfl rfl) rfl rfl rfl ?_
   refine ol_nil ?_
   obtain ⟨e16, l17, h18⟩ := bs h
   refine cw_mid (fun ρ' w' => ∃ v19 : Value, ∃ o20 : Own (kI .u8) 5 w' w.heap.size v19 e16, ρ' 0 = V0_0 ∧ ρ' 3 = v19 ∧ ρ' 4 = .int .i64 s1.2 ∧ Gr w w') ?_ ?_
   ·refine cw_block ?_
    refine cw_round (fun (s15 : (List Int) × Int) ρ' w' => ∃ v22 : Value, ∃ o23 : Own (kI .u8) 5 w' w.heap.size v22 s15.1, ρ' 0 = V0_0 ∧ ρ' 3 = v22 ∧ ρ' 4 = .int .i64 s1.2 ∧ ρ' 5 = .int .i64 s15.2 ∧ Gr w w') l17 ?_ ?_
    ·skip
     exact ⟨v8, o9, e0, e3, e4, rfl, fB⟩
    rintro s15 x27 ρ25 w26 ⟨v22, o23, e0, e3, e4, e5, fB⟩ h
    unfold rickyardref05_Text.s2 at h
    refine cw_seq ?_
    refine cw_seq ?_
    refine cw_region ?_
    refine ol_val (v := .int .i64 s15.2) (xr_move rfl e5) rfl rfl rfl ?_
    refine ol_val (v := .bool (decide (s15.2 < 8))) (xr_lss rfl rfl rfl) rfl rfl rfl ?_
    refine ol_nil ?_
    rcases is h with ⟨c28, h⟩ | ⟨c28, h⟩
    ·refine cw_condT rfl c28 ?_
     refine cw_skip ?_
     refine cw_seq ?_
     refine cw_block ?_
     refine cw_region ?_
     refine ol_val (v := v22) (xr_move rfl e3) rfl rfl rfl ?_
     refine ol_val (v := V0_0) (xr_move rfl e0) rfl rfl rfl ?_
     refine ol_val (v := .int .i64 s1.2) (xr_move rfl e4) rfl rfl rfl ?_
     obtain ⟨g29, h⟩ := gs h
     refine ol_val (v := (pt ((sb V0_0)) (so V0_0 + Int.toNat s1.2 * 1))) (xr_indexR (K := (kI .u64)) (v := V0_0) rfl Try.underlying46 sz22 rfl (R0_0.gr fB) rfl g29.1 g29.2) rfl rfl rfl ?_
     refine ol_val (v := .int .u64 (ix a0 s1.2)) (xr_load1 (v := .int .u64 (ix a0 s1.2)) rfl ag22 rfl ((R0_0.gr fB).elem g29.1 g29.2)) rfl rfl rfl ?_
     refine ol_val (v := .int .i64 s15.2) (xr_move rfl e5) rfl rfl rfl ?_
     refine ol_val (v := .int .i64 (IntKind.i64.wrap (8 * s15.2))) (xr_mul rfl rfl rfl) rfl rfl rfl ?_
     obtain ⟨g30, h⟩ := gs h
     refine ol_val (v := .int .u64 (shR .u64 (ix a0 s1.2) (IntKind.i64.wrap (8 * s15.2)))) (xr_shr rfl rfl rfl g30) rfl rfl rfl ?_
     refine ol_val (v := .int .u8 (IntKind.u8.wrap (shR .u64 (ix a0 s1.2) (IntKind.i64.wrap (8 * s15.2))))) (xr_conv rfl Try.underlying22 Try.underlying5 rfl) rfl rfl rfl ?_
     refine ol_op (opv_buildSlice (K := (kI .u8)) (xs := [(IntKind.u8.wrap (shR .u64 (ix a0 s1.2) (IntKind.i64.wrap (8 * s15.2))))]) (vals := [.int .u8 (IntKind.u8.wrap (shR .u64 (ix a0 s1.2) (IntKind.i64.wrap (8 * s15.2))))]) rfl Try.underlying43 el5 rfl rfl ⟨rfl, rfl, trivial⟩ rfl rfl rfl fB.size) rfl rfl rfl ?_
     rintro v31 w36 ⟨o33, q32, z34⟩
     have a37 := OffV.new o23 z34
     have o23 := o23.gr q32
     have fB := fB.gr q32
     obtain ⟨g42, h⟩ := gs h
     have f44 := o23.geO
     refine ol_op (opv_append (K := (kI .u8)) rfl Try.underlying43 el5 rfl rfl rfl rfl rfl o23 o33.rd g42 fB.size) rfl rfl rfl ?_
     rintro v38 w45 ⟨o39, q40, n41⟩
     have fB := fB.wrO q40 f44
     refine ol_val (v := v38) (xr_assign rfl rfl) rfl rfl rfl ?_
     refine ol_nil ?_
     refine blk_i ?_
     refine cw_region ?_
     refine ol_val (v := .int .i64 s15.2) (xr_move rfl e5) rfl rfl rfl ?_
     refine ol_val (v := .int .i64 (IntKind.i64.wrap (s15.2 + 1))) (xr_add rfl rfl rfl) rfl rfl rfl ?_
     refine ol_val (v := .int .i64 (IntKind.i64.wrap (s15.2 + 1))) (xr_assign rfl rfl) rfl rfl rfl ?_
     refine ol_nil ?_
     obtain rfl := Option.some.inj h
     refine lp_in ?_
     exact ⟨v38, o39, e0, rfl, e4, rfl, fB⟩
    refine cw_condF rfl c28 ?_
    refine cw_exit ?_
    repeat (first | with_reducible refine thn_e ?_ | with_reducible refine blk_e rfl ?_)
    obtain rfl := Option.some.inj h
    refine lp_exit ?_
    rintro rfl
    refine thn_x ?_
    exact ⟨v22, o23, e0, e3, e4, fB⟩
   rintro ρ46 w47 ⟨v19, o20, e0, e3, e4, fB⟩
   have h := h18
   refine blk_i ?_
   refine cw_region ?_
   refine ol_val (v := .int .i64 s1.2) (xr_move rfl e4) rfl rfl rfl ?_
   refine ol_val (v := .int .i64 (IntKind.i64.wrap (s1.2 + 1))) (xr_add rfl rfl rfl) rfl rfl rfl ?_
   refine ol_val (v := .int .i64 (IntKind.i64.wrap (s1.2 + 1))) (xr_assign rfl rfl) rfl rfl rfl ?_
   refine ol_nil ?_
   obtain rfl := Option.some.inj h
   refine lp_in ?_
   exact ⟨v19, o20, e0, e3, rfl, fB⟩
  refine cw_condF rfl c14 ?_
  refine cw_exit ?_
  repeat (first | with_reducible refine thn_e ?_ | with_reducible refine blk_e rfl ?_)
  obtain rfl := Option.some.inj h
  refine lp_exit ?_
  rintro rfl
  refine thn_x ?_
  exact ⟨v8, o9, e3, fB⟩
 rintro ρ48 w49 ⟨v5, o6, e3, fB⟩
 have h := h4
 refine cw_seq ?_
 refine cw_region ?_
 refine ol_val (v := v5) (xr_move rfl e3) rfl rfl rfl ?_
 refine ol_val (v := sv (List.map toB e2)) (xr_toStr rfl Try.underlying43 Try.underlying5 Try.underlying9 rfl o6.rd) rfl rfl rfl ?_
 refine ol_val (v := sv (List.map toB e2)) (xr_assign rfl rfl) rfl rfl rfl ?_
 refine ol_nil ?_
 refine cw_ret ?_
 repeat (first | with_reducible refine thn_r ?_ | with_reducible refine blk_r ?_)
 obtain rfl := Option.some.inj h
 refine fin_ret1 Try.results34 rfl ?_
 exact ⟨_, rfl, rfl, fB⟩
def rickyardref06_Image.s0 (fu : Nat) (t16 : (List S_api_Fate)) : (Int × Int × (List Int)) → Option (Sum (List Int) (Int × Int × (List Int))) := fun s23 => (if (decide (s23.2.1 ≥ 0)) = true then (if 0 ≤ s23.2.1 ∧ s23.2.1 < (List.length t16 : Int) then ((rickyardref06_Values.f fu (ix t16 s23.2.1)).bind fun t32 => (if 0 ≤ s23.2.1 ∧ s23.2.1 < (List.length t16 : Int) then (if (List.length t32 : Int) ≠ 0 then (if 0 ≤ (Int.tmod s23.1 (List.length t32 : Int)) ∧ (Int.tmod s23.1 (List.length t32 : Int)) < (List.length t32 : Int) then (if 0 ≤ (ix t16 s23.2.1).At ∧ (ix t16 s23.2.1).At < (List.length s23.2.2 : Int) then (if (List.length t32 : Int) ≠ 0 then some (Sum.inr ((IntKind.i64.wrap (Int.tdiv s23.1 (List.length t32 : Int))), (IntKind.i64.wrap (s23.2.1 - 1)), (List.set s23.2.2 (Int.toNat ((ix t16 s23.2.1).At)) (ix t32 (Int.tmod s23.1 (List.length t32 : Int)))))) else none) else none) else none) else none) else none)) else none) else some (Sum.inl (s23.2.2)))
def rickyardref06_Image.f (fu : Nat) (a0 : S_rickyardref05_Device) (a1 : Int) : Option (List UInt8) := (if List.length ([] : List Int) + List.length a0.Lasts ≤ LIM then ((rickyardref05_Device_Fates.f fu a0).bind fun t16 => ((loopM (rickyardref06_Image.s0 fu t16) fu (a1, (IntKind.i64.wrap ((List.length t16 : Int) - 1)), (([] : List Int) ++ a0.Lasts))).bind fun e24 => ((rickyardref05_Text.f fu e24).bind fun t56 => some (t56)))) else none)
theorem rickyardref06_Image.ok (fu : Nat) (w : World) (a0 : S_rickyardref05_Device) (G_0 : Nat) (V0_0 : Value) (R0_0 : Rd (kI .u64) w V0_0 a0.Lasts) (V0_1 : Value) (R0_1 : Rd (kI .u64) w V0_1 a0.Stored) (V0_2 : Value) (R0_2 : Rd (kI .u64) w V0_2 a0.Sent) (V0_3 : Value) (R0_3 : Rd kB w V0_3 a0.Flushed) (V0_4 : Value) (R0_4 : Rd (kI .i64) w V0_4 a0.Plan) (b_0 : Blk w G_0 65 [Seg.cell V0_0 R0_0.one, Seg.cell V0_1 R0_1.one, Seg.cell V0_2 R0_2.one, Seg.cell V0_3 R0_3.one, Seg.cell V0_4 R0_4.one, (sI a0.Since), (sI a0.Left), (sI a0.Steps)]) (a1 : Int) (r : (List UInt8)) (h : rickyardref06_Image.f fu a0 a1 = some r) :
  Calls Try.prog 68 (([(pt G_0 0), .int .i64 a1] : List Value).toArray) w (fun e w' => ∃ v, e = .returned v ∧ v = sv r ∧ Gr w w') := by
 unfold rickyardref06_Image.f at h
 have fB : Gr w w := Fr.refl _ _
 refine calls_cw Try.func68 rfl Try.ntmps68 rfl ?_
 refine cw_seq ?_
 refine cw_region ?_
 refine ol_val (v := sv []) (xr_assign rfl rfl) rfl rfl rfl ?_
 refine ol_nil ?_
 refine cw_seq ?_
 refine cw_region ?_
 refine ol_op (opv_buildSlice (K := (kI .u64)) (xs := ([] : List Int)) (vals := []) rfl Try.underlying46 el22 rfl rfl trivial rfl rfl rfl fB.size) rfl rfl rfl ?_
 rintro v1 w6 ⟨o3, q2, z4⟩
 have b_0 := b_0.gr q2
 have fB := fB.gr q2
 refine ol_val (v := (pt G_0 0)) (xr_move rfl rfl) rfl rfl rfl ?_
 refine ol_val (v := (pt G_0 0)) (xr_nilCheck rfl rfl) rfl rfl rfl ?_
 refine ol_val (v := (pt G_0 0)) (xr_fieldAddr (p := 0) (q := 0) rfl fl65_0 rfl) rfl rfl rfl ?_
 refine ol_val (v := V0_0) (xr_load1 (v := V0_0) rfl ag46 rfl (b_0.seg 0 rfl rfl)) rfl rfl rfl ?_
 obtain ⟨g11, h⟩ := gs h
 have f13 := off_ty b_0 o3 (by decide)
 have f14 := o3.geO
 refine ol_op (opv_append (K := (kI .u64)) rfl Try.underlying46 el22 rfl rfl rfl rfl rfl o3 (R0_0.gr fB) g11 fB.size) rfl rfl rfl ?_
 rintro v7 w15 ⟨o8, q9, n10⟩
 have b_0 := b_0.wrO q9 f13
 have fB := fB.wrO q9 f14
 refine ol_val (v := v7) (xr_assign rfl rfl) rfl rfl rfl ?_
 refine ol_nil ?_
 refine cw_seq ?_
 refine cw_region ?_
 refine ol_val (v := (pt G_0 0)) (xr_move rfl rfl) rfl rfl rfl ?_
 obtain ⟨t16, k17, h⟩ := bs h
 refine ol_op (opv_call rfl cal47 (ac rfl an) (rickyardref05_Device_Fates.ok fu _ a0 G_0 V0_0 (R0_0.gr fB) V0_1 (R0_1.gr fB) V0_2 (R0_2.gr fB) V0_3 (R0_3.gr fB) V0_4 (R0_4.gr fB) b_0 _ k17)) rfl rfl rfl ?_
 rintro u18 w22 ⟨_, o19, rfl, q21⟩
 have o19 := Own.base o19 fB.size
 have b_0 := b_0.gr q21
 have o8 := o8.gr q21
 have fB := fB.gr q21
 refine ol_val (v := u18) (xr_assign rfl rfl) rfl rfl rfl ?_
 refine ol_nil ?_
 refine cw_seq ?_
 refine cw_seq ?_
 refine cw_region ?_
 refine ol_val (v := u18) (xr_move rfl rfl) rfl rfl rfl ?_
 refine ol_val (v := .int .i64 (List.length t16 : Int)) (xr_lenR rfl Try.underlying52 rfl o19.rd) rfl rfl rfl ?_
 refine ol_val (v := .int .i64 (IntKind.i64.wrap ((List.length t16 : Int) - 1))) (xr_sub rfl rfl rfl) rfl rfl rfl ?_
 refine ol_val (v := .int .i64 (IntKind.i64.wrap ((List.length t16 : Int) - 1))) (xr_assign rfl rfl) rfl rfl rfl ?_
 refine ol_nil ?_
 obtain ⟨e24, l25, h26⟩ := bs h
 refine cw_mid (fun ρ' w' => ∃ o8 : Own (kI .u64) 22 w' w.heap.size v7 e24, ρ' 5 = v7 ∧ Blk w' G_0 65 [Seg.cell V0_0 R0_0.one, Seg.cell V0_1 R0_1.one, Seg.cell V0_2 R0_2.one, Seg.cell V0_3 R0_3.one, Seg.cell V0_4 R0_4.one, (sI a0.Since), (sI a0.Left), (sI a0.Steps)] ∧ Gr w w') ?_ ?_
 ·refine cw_block ?_
  refine cw_round (fun (s23 : Int × Int × (List Int)) ρ' w' => ∃ o8 : Own (kI .u64) 22 w' w.heap.size v7 s23.2.2, ∃ o19 : Own k_api_Fate 55 w' w.heap.size u18 t16, ρ' 1 = .int .i64 s23.1 ∧ ρ' 5 = v7 ∧ ρ' 6 = u18 ∧ ρ' 7 = .int .i64 s23.2.1 ∧ Blk w' G_0 65 [Seg.cell V0_0 R0_0.one, Seg.cell V0_1 R0_1.one, Seg.cell V0_2 R0_2.one, Seg.cell V0_3 R0_3.one, Seg.cell V0_4 R0_4.one, (sI a0.Since), (sI a0.Left), (sI a0.Steps)] ∧ Gr w w') l25 ?_ ?_
  ·skip
   exact ⟨o8, o19, rfl, rfl, rfl, rfl, b_0, fB⟩
  rintro s23 x29 ρ27 w28 ⟨o8, o19, e1, e5, e6, e7, b_0, fB⟩ h
  unfold rickyardref06_Image.s0 at h
  refine cw_seq ?_
  refine cw_seq ?_
  refine cw_region ?_
  refine ol_val (v := .int .i64 s23.2.1) (xr_move rfl e7) rfl rfl rfl ?_
  refine ol_val (v := .bool (decide (s23.2.1 ≥ 0))) (xr_geq rfl rfl rfl) rfl rfl rfl ?_
  refine ol_nil ?_
  rcases is h with ⟨c30, h⟩ | ⟨c30, h⟩
  ·refine cw_condT rfl c30 ?_
   refine cw_skip ?_
   refine cw_seq ?_
   refine cw_block ?_
   refine cw_seq ?_
   refine cw_region ?_
   refine ol_val (v := u18) (xr_move rfl e6) rfl rfl rfl ?_
   refine ol_val (v := .int .i64 s23.2.1) (xr_move rfl e7) rfl rfl rfl ?_
   obtain ⟨g31, h⟩ := gs h
   refine ol_val (v := (pt ((sb u18)) (so u18 + Int.toNat s23.2.1 * 5))) (xr_indexR (K := k_api_Fate) (v := u18) rfl Try.underlying52 sz55 rfl o19.rd rfl g31.1 g31.2) rfl rfl rfl ?_
   refine ol_val (v := aggV [(sI ((ix t16 s23.2.1).At)), Seg.cell (.int .u64 ((ix t16 s23.2.1).Lasts)), Seg.cell (.bool ((ix t16 s23.2.1).Flushed)), Seg.cell (.int .u64 ((ix t16 s23.2.1).Sent)), Seg.cell (.int .u64 ((ix t16 s23.2.1).Stored))]) (xr_loadS (ss := [(sI ((ix t16 s23.2.1).At)), Seg.cell (.int .u64 ((ix t16 s23.2.1).Lasts)), Seg.cell (.bool ((ix t16 s23.2.1).Flushed)), Seg.cell (.int .u64 ((ix t16 s23.2.1).Sent)), Seg.cell (.int .u64 ((ix t16 s23.2.1).Stored))]) rfl ag55 sz55 rfl rfl (o19.rd.elem g31.1 g31.2)) rfl rfl rfl ?_
   obtain ⟨t32, k33, h⟩ := bs h
   refine ol_op (opv_call rfl cal51 (ac rfl an) (rickyardref06_Values.ok fu _ (ix t16 s23.2.1) _ k33)) rfl rfl rfl ?_
   rintro u34 w38 ⟨_, o35, rfl, q37⟩
   have a39 := OffV.call o8 o35
   have o35 := Own.base o35 fB.size
   have b_0 := b_0.gr q37
   have o8 := o8.gr q37
   have o19 := o19.gr q37
   have fB := fB.gr q37
   refine ol_val (v := u34) (xr_assign rfl rfl) rfl rfl rfl ?_
   refine ol_nil ?_
   refine cw_seq ?_
   obtain ⟨g40, h⟩ := gs h
   obtain ⟨g41, h⟩ := gs h
   obtain ⟨g42, h⟩ := gs h
   refine cw_drawL 13 [fun vz wz => vz = (v7 : Value), fun vz wz => vz = (u18 : Value), fun vz wz => vz = (.int .i64 s23.2.1 : Value), fun vz wz => vz = ((pt ((sb u18)) (so u18 + Int.toNat s23.2.1 * 5)) : Value), fun vz wz => vz = ((pt ((sb u18)) (so u18 + Int.toNat s23.2.1 * 5 + 0)) : Value), fun vz wz => vz = (.int .i64 ((ix t16 s23.2.1).At) : Value), fun vz wz => vz = (u34 : Value), fun vz wz => vz = (.int .i64 s23.1 : Value), fun vz wz => vz = (u34 : Value), fun vz wz => vz = (.int .i64 (List.length t32 : Int) : Value), fun vz wz => vz = (.int .i64 (Int.tmod s23.1 (List.length t32 : Int)) : Value), fun vz wz => vz = ((pt ((sb u34)) (so u34 + Int.toNat (Int.tmod s23.1 (List.length t32 : Int)) * 1)) : Value), fun vz wz => vz = (.int .u64 (ix t32 (Int.tmod s23.1 (List.length t32 : Int))) : Value)] mo rfl ⟨fun _ _ _ h _ => h, fun _ _ _ h _ => h, fun _ _ _ h _ => h, fun _ _ _ h _ => h, fun _ _ _ h _ => h, fun _ _ _ h _ => h, fun _ _ _ h _ => h, fun _ _ _ h _ => h, fun _ _ _ h _ => h, fun _ _ _ h _ => h, fun _ _ _ h _ => h, fun _ _ _ h _ => h, fun _ _ _ h _ => h, trivial⟩ ?_ ?_
   ·refine ⟨?_, ?_, ?_, ?_, ?_, ?_, ?_, ?_, ?_, ?_, ?_, ?_, ?_, trivial⟩
    ·intro ρz wz hz hk hd
     exact sk_val (v := v7) (xr_move rfl ((hk 5 rfl).trans e5)) rfl rfl
    ·intro ρz wz hz hk hd
     exact sk_val (v := u18) (xr_move rfl ((hk 6 rfl).trans e6)) rfl rfl
    ·intro ρz wz hz hk hd
     exact sk_val (v := .int .i64 s23.2.1) (xr_move rfl ((hk 7 rfl).trans e7)) rfl rfl
    ·intro ρz wz hz hk hd
     exact sk_val (xr_indexR (K := k_api_Fate) (v := u18) rfl Try.underlying52 sz55 (hd 1 rfl 30 rfl) (o19.gr hz).rd (hd 2 rfl 31 rfl) g40.1 g40.2) rfl rfl
    ·intro ρz wz hz hk hd
     exact sk_val (xr_fieldAddr (p := so u18 + Int.toNat s23.2.1 * 5) (q := 0) rfl fl55_0 (hd 3 rfl 32 rfl)) rfl rfl
    ·intro ρz wz hz hk hd
     exact sk_val (v := .int .i64 ((ix t16 s23.2.1).At)) (xr_load1 (v := .int .i64 ((ix t16 s23.2.1).At)) rfl ag3 (hd 4 rfl 33 rfl) (At.segs (ss := segs_api_Fate (ix t16 s23.2.1)) ((o19.gr hz).rd.elem g40.1 g40.2) 0 1 rfl)) rfl rfl
    ·intro ρz wz hz hk hd
     exact sk_val (v := u34) (xr_move rfl ((hk 8 rfl).trans rfl)) rfl rfl
    ·intro ρz wz hz hk hd
     exact sk_val (v := .int .i64 s23.1) (xr_move rfl ((hk 1 rfl).trans e1)) rfl rfl
    ·intro ρz wz hz hk hd
     exact sk_val (v := u34) (xr_move rfl ((hk 8 rfl).trans rfl)) rfl rfl
    ·intro ρz wz hz hk hd
     exact sk_val (v := .int .i64 (List.length t32 : Int)) (xr_lenR rfl Try.underlying46 (hd 8 rfl 37 rfl) (o35.gr hz).rd) rfl rfl
    ·intro ρz wz hz hk hd
     exact sk_val (v := .int .i64 (Int.tmod s23.1 (List.length t32 : Int))) (xr_rem rfl (hd 7 rfl 36 rfl) (hd 9 rfl 38 rfl) g41) rfl rfl
    ·intro ρz wz hz hk hd
     exact sk_val (xr_indexR (K := (kI .u64)) (v := u34) rfl Try.underlying46 sz22 (hd 6 rfl 35 rfl) (o35.gr hz).rd (hd 10 rfl 39 rfl) g42.1 g42.2) rfl rfl
    intro ρz wz hz hk hd
    exact sk_val (v := .int .u64 (ix t32 (Int.tmod s23.1 (List.length t32 : Int)))) (xr_load1 (v := .int .u64 (ix t32 (Int.tmod s23.1 (List.length t32 : Int)))) rfl ag22 (hd 11 rfl 40 rfl) ((o35.gr hz).rd.elem g42.1 g42.2)) rfl rfl
   intro ρ43 w44 q45 hk hd
   have e1 := (hk 1 rfl).trans e1
   have e5 := (hk 5 rfl).trans e5
   have e6 := (hk 6 rfl).trans e6
   have e7 := (hk 7 rfl).trans e7
   have e8 := (hk 8 rfl).trans rfl
   have e29 := hd 0 rfl 29 rfl
   have e34 := hd 5 rfl 34 rfl
   have e41 := hd 12 rfl 41 rfl
   have b_0 := b_0.gr q45
   have o8 := o8.gr q45
   have o19 := o19.gr q45
   have o35 := o35.gr q45
   have fB := fB.gr q45
   obtain ⟨g46, h⟩ := gs h
   refine ol_val (v := (pt ((sb v7)) (so v7 + Int.toNat ((ix t16 s23.2.1).At) * 1))) (xr_indexR (K := (kI .u64)) (v := v7) rfl Try.underlying46 sz22 e29 o8.rd e34 g46.1 g46.2) rfl rfl rfl ?_
   have f48 := off_ty b_0 o8 (by decide)
   have f49 := OffV.ty o19 o8 (by decide)
   have f50 := a39.symm
   have f51 := o8.geO
   refine ol_op0 (opv_storeRow (z := (ix t32 (Int.tmod s23.1 (List.length t32 : Int)))) (xs := cellsOf [Seg.cell (.int .u64 (ix t32 (Int.tmod s23.1 (List.length t32 : Int))))]) rfl sz22 rfl e41 rfl (len_cellsOf _) (one_cellsOf _) o8 g46.1 g46.2 (Spl.whole ((Kd.len _ _).trans (Kd.len _ _).symm)) rfl) rfl rfl ?_
   rintro _ w52 ⟨o8, q47⟩
   have b_0 := b_0.wrO q47 f48
   have o19 := o19.wrV q47 f49
   have o35 := o35.wrV q47 f50
   have fB := fB.wrO q47 f51
   refine ol_nil ?_
   refine cw_region ?_
   refine ol_val (v := .int .i64 s23.1) (xr_move rfl e1) rfl rfl rfl ?_
   refine ol_val (v := u34) (xr_move rfl e8) rfl rfl rfl ?_
   refine ol_val (v := .int .i64 (List.length t32 : Int)) (xr_lenR rfl Try.underlying46 rfl o35.rd) rfl rfl rfl ?_
   obtain ⟨g53, h⟩ := gs h
   refine ol_val (v := .int .i64 (IntKind.i64.wrap (Int.tdiv s23.1 (List.length t32 : Int)))) (xr_quo rfl rfl rfl g53) rfl rfl rfl ?_
   refine ol_val (v := .int .i64 (IntKind.i64.wrap (Int.tdiv s23.1 (List.length t32 : Int)))) (xr_assign rfl rfl) rfl rfl rfl ?_
   refine ol_nil ?_
   refine blk_i ?_
   refine cw_region ?_
   refine ol_val (v := .int .i64 s23.2.1) (xr_move rfl e7) rfl rfl rfl ?_
   refine ol_val (v := .int .i64 (IntKind.i64.wrap (s23.2.1 - 1))) (xr_sub rfl rfl rfl) rfl rfl rfl ?_
   refine ol_val (v := .int .i64 (IntKind.i64.wrap (s23.2.1 - 1))) (xr_assign rfl rfl) rfl rfl rfl ?_
   refine ol_nil ?_
   obtain rfl := Option.some.inj h
   refine lp_in ?_
   exact ⟨o8, o19, rfl, e5, e6, rfl, b_0, fB⟩
  refine cw_condF rfl c30 ?_
  refine cw_exit ?_
  repeat (first | with_reducible refine thn_e ?_ | with_reducible refine blk_e rfl ?_)
  obtain rfl := Option.some.inj h
  refine lp_exit ?_
  rintro rfl
  refine thn_x ?_
  exact ⟨o8, e5, b_0, fB⟩
 rintro ρ54 w55 ⟨o8, e5, b_0, fB⟩
 have h := h26
 refine cw_seq ?_
 refine cw_region ?_
 refine ol_val (v := v7) (xr_move rfl e5) rfl rfl rfl ?_
 obtain ⟨t56, k57, h⟩ := bs h
 refine ol_op (opv_call rfl cal34 (ac rfl an) (rickyardref05_Text.ok fu _ e24 v7 (o8.rd) _ k57)) rfl rfl rfl ?_
 rintro _ w59 ⟨rfl, q58⟩
 have b_0 := b_0.gr q58
 have fB := fB.gr q58
 refine ol_val (v := sv t56) (xr_assign rfl rfl) rfl rfl rfl ?_
 refine ol_nil ?_
 refine cw_ret ?_
 repeat (first | with_reducible refine thn_r ?_ | with_reducible refine blk_r ?_)
 obtain rfl := Option.some.inj h
 refine fin_ret1 Try.results68 rfl ?_
 exact ⟨_, rfl, rfl, fB⟩
def rickyardref06_Image__n0.f (fu : Nat) (a1 : Int) : Option (List UInt8) := none
theorem rickyardref06_Image__n0.ok (fu : Nat) (w : World) (a1 : Int) (r : (List UInt8)) (h : rickyardref06_Image__n0.f fu a1 = some r) :
  Calls Try.prog 68 (([.pointer none, .int .i64 a1] : List Value).toArray) w (fun e w' => ∃ v, e = .returned v ∧ v = sv r ∧ Gr w w') := by
 unfold rickyardref06_Image__n0.f at h
 have fB : Gr w w := Fr.refl _ _
 refine calls_cw Try.func68 rfl Try.ntmps68 rfl ?_
 refine cw_seq ?_
 refine cw_region ?_
 refine ol_val (v := sv []) (xr_assign rfl rfl) rfl rfl rfl ?_
 refine ol_nil ?_
 refine cw_seq ?_
 refine cw_region ?_
 refine ol_op (opv_buildSlice (K := (kI .u64)) (xs := ([] : List Int)) (vals := []) rfl Try.underlying46 el22 rfl rfl trivial rfl rfl rfl fB.size) rfl rfl rfl ?_
 rintro v1 w6 ⟨o3, q2, z4⟩
 have fB := fB.gr q2
 refine ol_val (v := .pointer none) (xr_move rfl rfl) rfl rfl rfl ?_
 cases h
def rickyardlaw06_FateAll.s0 (fu : Nat) (t68 : (List (List Int))) (t74 : Int) : Int → Option (Sum (Sum Bool Unit) Int) := fun s82 => (if (decide (s82 < t74)) = true then (if 0 ≤ s82 ∧ s82 < (List.length t68 : Int) then ((rickyardref06_Image__n0.f fu s82).bind fun t94 => (if (!decide ((List.map toB (ix t68 s82)) = t94)) = true then some (Sum.inl (Sum.inl (false))) else some (Sum.inr ((IntKind.i64.wrap (s82 + 1)))))) else none) else some (Sum.inl (Sum.inr ())))
def rickyardlaw06_FateAll.s1 (fu : Nat) (m51 : S_rickyardref05_Device) (t158 : (List (List Int))) (t164 : Int) : Int → Option (Sum (Sum Bool Unit) Int) := fun s172 => (if (decide (s172 < t164)) = true then (if 0 ≤ s172 ∧ s172 < (List.length t158 : Int) then ((rickyardref06_Image.f fu m51 s172).bind fun t184 => (if (!decide ((List.map toB (ix t158 s172)) = t184)) = true then some (Sum.inl (Sum.inl (false))) else some (Sum.inr ((IntKind.i64.wrap (s172 + 1)))))) else none) else some (Sum.inl (Sum.inr ())))
def rickyardlaw06_FateAll.f (fu : Nat) (a0 : Int) (a1 : List S_rickyardlaw05_Act) (a2 : Int) : Option Bool := ((rickyardlaw06_awake.f fu).bind fun t1 => (if (!t1) = true then some (false) else ((rickyardlaw06_made.f fu a0 a1).bind fun t6 => (Option.elim t6.1 (Option.elim t6.2 (some (true)) (fun m17 => some (true))) (fun m15 => (Option.elim t6.2 ((pmem_Device_Image.f fu m15).bind fun t52 => ((pmem_Device_View.f fu m15).bind fun t58 => (if List.length (List.map toB t52) + List.length (List.map toB t58) ≤ LIM then ((fate_All.f fu m15 a2).bind fun t68 => ((rickyardref06_Count__n0.f fu).bind fun t74 => (if (if (decide (t74 > a2)) = true then true else (decide (t74 > 64))) = true then some ((decide ((List.length t68 : Int) = 0))) else (if (!decide ((List.length t68 : Int) = t74)) = true then some (false) else ((loopM (rickyardlaw06_FateAll.s0 fu t68 t74) fu (0)).bind fun e83 => match e83 with | Sum.inl p => some p | Sum.inr x86 => ((pmem_Device_Image.f fu m15).bind fun t103 => ((pmem_Device_View.f fu m15).bind fun t109 => (if List.length (List.map toB t103) + List.length (List.map toB t109) ≤ LIM then some ((decide (((List.map toB t103) ++ (List.map toB t109)) = ((List.map toB t52) ++ (List.map toB t58))))) else none)))))))) else none))) (fun m51 => ((pmem_Device_Image.f fu m15).bind fun t142 => ((pmem_Device_View.f fu m15).bind fun t148 => (if List.length (List.map toB t142) + List.length (List.map toB t148) ≤ LIM then ((fate_All.f fu m15 a2).bind fun t158 => ((rickyardref06_Count.f fu m51).bind fun t164 => (if (if (decide (t164 > a2)) = true then true else (decide (t164 > 64))) = true then some ((decide ((List.length t158 : Int) = 0))) else (if (!decide ((List.length t158 : Int) = t164)) = true then some (false) else ((loopM (rickyardlaw06_FateAll.s1 fu m51 t158 t164) fu (0)).bind fun e173 => match e173 with | Sum.inl p => some p | Sum.inr x176 => ((pmem_Device_Image.f fu m15).bind fun t193 => ((pmem_Device_View.f fu m15).bind fun t199 => (if List.length (List.map toB t193) + List.length (List.map toB t199) ≤ LIM then some ((decide (((List.map toB t193) ++ (List.map toB t199)) = ((List.map toB t142) ++ (List.map toB t148))))) else none)))))))) else none))))))))))
theorem rickyardlaw06_FateAll.ok (fu : Nat) (w : World) (a0 : Int) (a1 : List S_rickyardlaw05_Act) (V1_0 : Value) (R1_0 : RdN 4 D_rickyardlaw05_Act w V1_0 a1) (a2 : Int) (r : Bool) (h : rickyardlaw06_FateAll.f fu a0 a1 a2 = some r) :
  Calls Try.prog 16 (([.int .u8 a0, V1_0, .int .i64 a2] : List Value).toArray) w (fun e w' => ∃ v, e = .returned v ∧ v = .bool r ∧ Gr w w') := by
 unfold rickyardlaw06_FateAll.f at h
 have fB : Gr w w := Fr.refl _ _
 refine calls_cw Try.func16 rfl Try.ntmps16 rfl ?_
 refine cw_seq ?_
 refine cw_region ?_
 refine ol_val (v := .bool false) (xr_assign rfl rfl) rfl rfl rfl ?_
 refine ol_nil ?_
 refine cw_seq ?_
 refine cw_seq ?_
 refine cw_region ?_
 obtain ⟨t1, k2, h⟩ := bs h
 refine ol_op (opv_call rfl cal49 an (rickyardlaw06_awake.ok fu _ _ k2)) rfl rfl rfl ?_
 rintro _ w4 ⟨rfl, q3⟩
 have fB := fB.gr q3
 refine ol_val (v := .bool (!t1)) (xr_not rfl rfl) rfl rfl rfl ?_
 refine ol_nil ?_
 rcases is h with ⟨c5, h⟩ | ⟨c5, h⟩
 ·refine cw_condT rfl c5 ?_
  refine cw_seq ?_
  refine cw_region ?_
  refine ol_val (v := .bool false) (xr_assign rfl rfl) rfl rfl rfl ?_
  refine ol_nil ?_
  refine cw_ret ?_
  repeat (first | with_reducible refine thn_r ?_ | with_reducible refine blk_r ?_)
  obtain rfl := Option.some.inj h
  refine fin_ret1 Try.results16 rfl ?_
  exact ⟨_, rfl, rfl, fB⟩
 refine cw_condF rfl c5 ?_
 refine cw_skip ?_
 refine cw_seq ?_
 refine cw_region ?_
 refine ol_val (v := .int .u8 a0) (xr_move rfl rfl) rfl rfl rfl ?_
 refine ol_val (v := V1_0) (xr_move rfl rfl) rfl rfl rfl ?_
 obtain ⟨t6, k7, h⟩ := bs h
 refine ol_op (opv_call rfl cal60 (ac rfl (ac rfl an)) (rickyardlaw06_made.ok fu _ a0 a1 V1_0 (RdN.gr R1_0 D_rickyardlaw05_Act.gr fB) _ k7)) rfl rfl rfl ?_
 rintro _ w13 ⟨u8, u10, p9, p11, rfl, q12⟩
 rcases en h with ⟨e14, h⟩ | ⟨m15, e14, h⟩
 ·obtain rfl := p9.1 e14
  rcases en h with ⟨e16, h⟩ | ⟨m17, e16, h⟩
  ·obtain rfl := p11.1 e16
   have fB := fB.gr q12
   refine ol_val (v := .tuple #[.pointer none, .pointer none]) (xr_move rfl rfl) rfl rfl rfl ?_
   refine ol_val (v := .pointer none) (xr_extract rfl rfl rfl) rfl rfl rfl ?_
   refine ol_val (v := .pointer none) (xr_extract rfl rfl rfl) rfl rfl rfl ?_
   refine ol_val (v := .pointer none) (xr_assign rfl rfl) rfl rfl rfl ?_
   refine ol_val (v := .pointer none) (xr_assign rfl rfl) rfl rfl rfl ?_
   refine ol_nil ?_
   refine cw_seq ?_
   refine cw_seq ?_
   refine cw_region ?_
   refine ol_val (v := .pointer none) (xr_move rfl rfl) rfl rfl rfl ?_
   refine ol_val (v := .bool true) (xr_eqP (b := true) rfl Try.underlying30 rfl rfl (by simp) (by simp)) rfl rfl rfl ?_
   refine ol_nil ?_
   refine cw_condT rfl rfl ?_
   refine cw_seq ?_
   refine cw_region ?_
   refine ol_val (v := .bool true) (xr_assign rfl rfl) rfl rfl rfl ?_
   refine ol_nil ?_
   refine cw_ret ?_
   repeat (first | with_reducible refine thn_r ?_ | with_reducible refine blk_r ?_)
   obtain rfl := Option.some.inj h
   refine fin_ret1 Try.results16 rfl ?_
   exact ⟨_, rfl, rfl, fB⟩
  obtain ⟨G18, u22, u25, u28, u31, u34, o23, o26, o29, o32, o35, a37, a38, a39, rfl, z19, b20⟩ := p11.2 _ e16
  have o23 := Own.base o23 fB.size
  have o26 := Own.base o26 fB.size
  have o29 := Own.base o29 fB.size
  have o32 := Own.base o32 fB.size
  have o35 := Own.base o35 fB.size
  have z19 := Nat.le_trans fB.size z19
  have fB := fB.gr q12
  refine ol_val (v := .tuple #[.pointer none, (pt G18 0)]) (xr_move rfl rfl) rfl rfl rfl ?_
  refine ol_val (v := .pointer none) (xr_extract rfl rfl rfl) rfl rfl rfl ?_
  refine ol_val (v := (pt G18 0)) (xr_extract rfl rfl rfl) rfl rfl rfl ?_
  refine ol_val (v := .pointer none) (xr_assign rfl rfl) rfl rfl rfl ?_
  refine ol_val (v := (pt G18 0)) (xr_assign rfl rfl) rfl rfl rfl ?_
  refine ol_nil ?_
  refine cw_seq ?_
  refine cw_seq ?_
  refine cw_region ?_
  refine ol_val (v := .pointer none) (xr_move rfl rfl) rfl rfl rfl ?_
  refine ol_val (v := .bool true) (xr_eqP (b := true) rfl Try.underlying30 rfl rfl (by simp) (by simp)) rfl rfl rfl ?_
  refine ol_nil ?_
  refine cw_condT rfl rfl ?_
  refine cw_seq ?_
  refine cw_region ?_
  refine ol_val (v := .bool true) (xr_assign rfl rfl) rfl rfl rfl ?_
  refine ol_nil ?_
  refine cw_ret ?_
  repeat (first | with_reducible refine thn_r ?_ | with_reducible refine blk_r ?_)
  obtain rfl := Option.some.inj h
  refine fin_ret1 Try.results16 rfl ?_
  exact ⟨_, rfl, rfl, fB⟩
 obtain ⟨G40, u44, u47, o45, o48, rfl, z41, b42⟩ := p9.2 _ e14
 rcases en h with ⟨e50, h⟩ | ⟨m51, e50, h⟩
 ·obtain rfl := p11.1 e50
  have o45 := Own.base o45 fB.size
  have o48 := Own.base o48 fB.size
  have z41 := Nat.le_trans fB.size z41
  have fB := fB.gr q12
  refine ol_val (v := .tuple #[(pt G40 0), .pointer none]) (xr_move rfl rfl) rfl rfl rfl ?_
  refine ol_val (v := (pt G40 0)) (xr_extract rfl rfl rfl) rfl rfl rfl ?_
  refine ol_val (v := .pointer none) (xr_extract rfl rfl rfl) rfl rfl rfl ?_
  refine ol_val (v := (pt G40 0)) (xr_assign rfl rfl) rfl rfl rfl ?_
  refine ol_val (v := .pointer none) (xr_assign rfl rfl) rfl rfl rfl ?_
  refine ol_nil ?_
  refine cw_seq ?_
  refine cw_seq ?_
  refine cw_region ?_
  refine ol_val (v := (pt G40 0)) (xr_move rfl rfl) rfl rfl rfl ?_
  refine ol_val (v := .bool false) (xr_eqP (b := false) rfl Try.underlying30 rfl rfl (by simp) (by simp)) rfl rfl rfl ?_
  refine ol_nil ?_
  refine cw_condF rfl rfl ?_
  refine cw_skip ?_
  refine cw_seq ?_
  obtain ⟨t52, k53, h⟩ := bs h
  obtain ⟨t58, k59, h⟩ := bs h
  refine cw_drawL 6 [fun vz wz => vz = ((pt G40 0) : Value), fun vz wz => ∃ u54 : Value, ∃ o55 : Own (kI .u8) 5 wz w.heap.size u54 t52, vz = (u54 : Value), fun vz wz => vz = (sv (List.map toB t52) : Value), fun vz wz => vz = ((pt G40 0) : Value), fun vz wz => ∃ u60 : Value, ∃ o61 : Own (kI .u8) 5 wz w.heap.size u60 t58, vz = (u60 : Value), fun vz wz => vz = (sv (List.map toB t58) : Value)] mo rfl ⟨fun _ _ _ h _ => h, fun _ _ _ ⟨u54, o55, h⟩ q => ⟨u54, o55.gr q, h⟩, fun _ _ _ h _ => h, fun _ _ _ h _ => h, fun _ _ _ ⟨u60, o61, h⟩ q => ⟨u60, o61.gr q, h⟩, fun _ _ _ h _ => h, trivial⟩ ?_ ?_
  ·refine ⟨?_, ?_, ?_, ?_, ?_, ?_, trivial⟩
   ·intro ρz wz hz hk hd
    exact sk_val (v := (pt G40 0)) (xr_move rfl ((hk 7 rfl).trans rfl)) rfl rfl
   ·intro ρz wz hz hk hd
    refine sk_op (opv_call rfl cal33 (ac (hd 0 rfl 23 rfl) an) (pmem_Device_Image.ok fu _ m15 G40 u44 (o45.gr hz).rd u47 (o48.gr hz).rd (b42.gr hz) _ k53)) rfl ?_
    rintro u54 wy ⟨_, o55, rfl, q57⟩
    exact ⟨⟨u54, Own.base o55 ((Nat.le_trans fB.size hz.size)), rfl⟩, q57⟩
   ·intro ρz wz hz hk hd
    obtain ⟨u54, o55, d24⟩ := hd 1 rfl 24 rfl
    exact sk_val (v := sv (List.map toB t52)) (xr_toStr rfl Try.underlying43 Try.underlying5 Try.underlying9 d24 o55.rd) rfl rfl
   ·intro ρz wz hz hk hd
    exact sk_val (v := (pt G40 0)) (xr_move rfl ((hk 7 rfl).trans rfl)) rfl rfl
   ·intro ρz wz hz hk hd
    refine sk_op (opv_call rfl cal36 (ac (hd 3 rfl 26 rfl) an) (pmem_Device_View.ok fu _ m15 G40 u44 (o45.gr hz).rd u47 (o48.gr hz).rd (b42.gr hz) _ k59)) rfl ?_
    rintro u60 wy ⟨_, o61, rfl, q63⟩
    exact ⟨⟨u60, Own.base o61 ((Nat.le_trans fB.size hz.size)), rfl⟩, q63⟩
   intro ρz wz hz hk hd
   obtain ⟨u60, o61, d27⟩ := hd 4 rfl 27 rfl
   exact sk_val (v := sv (List.map toB t58)) (xr_toStr rfl Try.underlying43 Try.underlying5 Try.underlying9 d27 o61.rd) rfl rfl
  intro ρ64 w65 q66 hk hd
  have e2 := (hk 2 rfl).trans rfl
  have e7 := (hk 7 rfl).trans rfl
  have e8 := (hk 8 rfl).trans rfl
  have e25 := hd 2 rfl 25 rfl
  have e28 := hd 5 rfl 28 rfl
  have b42 := b42.gr q66
  have o45 := o45.gr q66
  have o48 := o48.gr q66
  have fB := fB.gr q66
  obtain ⟨g67, h⟩ := gs h
  refine ol_val (v := sv ((List.map toB t52) ++ (List.map toB t58))) (xr_addStr rfl e25 e28 g67) rfl rfl rfl ?_
  refine ol_val (v := sv ((List.map toB t52) ++ (List.map toB t58))) (xr_assign rfl rfl) rfl rfl rfl ?_
  refine ol_nil ?_
  refine cw_seq ?_
  refine cw_region ?_
  refine ol_val (v := (pt G40 0)) (xr_move rfl e7) rfl rfl rfl ?_
  refine ol_val (v := .int .i64 a2) (xr_move rfl e2) rfl rfl rfl ?_
  obtain ⟨t68, k69, h⟩ := bs h
  refine ol_op (opv_call rfl cal67 (ac rfl (ac rfl an)) (fate_All.ok fu _ m15 G40 u44 (o45.rd) u47 (o48.rd) b42 a2 _ k69)) rfl rfl rfl ?_
  rintro u70 w73 ⟨_, r71, rfl, q72⟩
  have b42 := b42.gr q72
  have o45 := o45.gr q72
  have o48 := o48.gr q72
  have fB := fB.gr q72
  refine ol_val (v := u70) (xr_assign rfl rfl) rfl rfl rfl ?_
  refine ol_nil ?_
  refine cw_seq ?_
  refine cw_region ?_
  refine ol_val (v := .pointer none) (xr_move rfl e8) rfl rfl rfl ?_
  obtain ⟨t74, k75, h⟩ := bs h
  refine ol_op (opv_call rfl cal62 (ac rfl an) (rickyardref06_Count__n0.ok fu _ _ k75)) rfl rfl rfl ?_
  rintro _ w77 ⟨rfl, q76⟩
  have b42 := b42.gr q76
  have o45 := o45.gr q76
  have o48 := o48.gr q76
  have r71 := r71.gr q76
  have fB := fB.gr q76
  refine ol_val (v := .int .i64 t74) (xr_assign rfl rfl) rfl rfl rfl ?_
  refine ol_nil ?_
  refine cw_seq ?_
  refine cw_seq ?_
  refine cw_mid (fun ρ' w' => ρ' 7 = (pt G40 0) ∧ ρ' 8 = .pointer none ∧ ρ' 9 = sv ((List.map toB t52) ++ (List.map toB t58)) ∧ ρ' 10 = u70 ∧ ρ' 11 = .int .i64 t74 ∧ ρ' 41 = .bool (if (decide (t74 > a2)) = true then true else (decide (t74 > 64))) ∧ w77 = w') ?_ ?_
  ·skip
   refine cw_region ?_
   refine ol_val (v := .int .i64 t74) (xr_move rfl rfl) rfl rfl rfl ?_
   refine ol_val (v := .int .i64 a2) (xr_move rfl e2) rfl rfl rfl ?_
   refine ol_val (v := .bool (decide (t74 > a2))) (xr_gtr rfl rfl rfl) rfl rfl rfl ?_
   refine ol_val (v := .bool (decide (t74 > a2))) (xr_move rfl rfl) rfl rfl rfl ?_
   rcases bt (decide (t74 > a2)) with c78 | c78
   ·skip
    refine ol_gskip rfl rfl rfl rfl rfl c78 ?_
    refine ol_gskip rfl rfl rfl rfl rfl c78 ?_
    refine ol_val (v := .bool true) (xr_pickT rfl rfl c78 rfl) rfl rfl rfl ?_
    refine ol_nil ?_
    refine thn_i ?_
    exact ⟨e7, e8, rfl, rfl, rfl, (rfl).trans (congrArg (fun z => (.bool z : Value)) (show true = (if (decide (t74 > a2)) = true then true else (decide (t74 > 64))) from by rw [ite_t c78])), rfl⟩
   refine ol_gval (v := .int .i64 t74) (xr_move rfl rfl) rfl rfl rfl rfl rfl c78 ?_
   refine ol_gval (v := .bool (decide (t74 > 64))) (xr_gtr rfl rfl rfl) rfl rfl rfl rfl rfl c78 ?_
   refine ol_val (v := .bool (decide (t74 > 64))) (xr_pickF rfl rfl c78 rfl) rfl rfl rfl ?_
   refine ol_nil ?_
   refine thn_i ?_
   exact ⟨e7, e8, rfl, rfl, rfl, (rfl).trans (congrArg (fun z => (.bool z : Value)) (show (decide (t74 > 64)) = (if (decide (t74 > a2)) = true then true else (decide (t74 > 64))) from by rw [ite_f c78])), rfl⟩
  rintro ρ79 _ ⟨e7, e8, e9, e10, e11, e41, rfl⟩
  rcases is h with ⟨c80, h⟩ | ⟨c80, h⟩
  ·refine cw_condT e41 c80 ?_
   refine cw_seq ?_
   refine cw_region ?_
   refine ol_val (v := u70) (xr_move rfl e10) rfl rfl rfl ?_
   refine ol_val (v := .int .i64 (List.length t68 : Int)) (xr_lenRs rfl Try.underlying100 rfl r71) rfl rfl rfl ?_
   refine ol_val (v := .bool (decide ((List.length t68 : Int) = 0))) (xr_eqI rfl Try.underlying3 rfl rfl rfl) rfl rfl rfl ?_
   refine ol_val (v := .bool (decide ((List.length t68 : Int) = 0))) (xr_assign rfl rfl) rfl rfl rfl ?_
   refine ol_nil ?_
   refine cw_ret ?_
   repeat (first | with_reducible refine thn_r ?_ | with_reducible refine blk_r ?_)
   obtain rfl := Option.some.inj h
   refine fin_ret1 Try.results16 rfl ?_
   exact ⟨_, rfl, rfl, fB⟩
  refine cw_condF e41 c80 ?_
  refine cw_skip ?_
  refine cw_seq ?_
  refine cw_seq ?_
  refine cw_region ?_
  refine ol_val (v := u70) (xr_move rfl e10) rfl rfl rfl ?_
  refine ol_val (v := .int .i64 (List.length t68 : Int)) (xr_lenRs rfl Try.underlying100 rfl r71) rfl rfl rfl ?_
  refine ol_val (v := .int .i64 t74) (xr_move rfl e11) rfl rfl rfl ?_
  refine ol_val (v := .bool (!decide ((List.length t68 : Int) = t74))) (xr_neI rfl Try.underlying3 rfl rfl rfl) rfl rfl rfl ?_
  refine ol_nil ?_
  rcases is h with ⟨c81, h⟩ | ⟨c81, h⟩
  ·refine cw_condT rfl c81 ?_
   refine cw_seq ?_
   refine cw_region ?_
   refine ol_val (v := .bool false) (xr_assign rfl rfl) rfl rfl rfl ?_
   refine ol_nil ?_
   refine cw_ret ?_
   repeat (first | with_reducible refine thn_r ?_ | with_reducible refine blk_r ?_)
   obtain rfl := Option.some.inj h
   refine fin_ret1 Try.results16 rfl ?_
   exact ⟨_, rfl, rfl, fB⟩
  refine cw_condF rfl c81 ?_
  refine cw_skip ?_
  refine cw_seq ?_
  refine cw_seq ?_
  refine cw_region ?_
  refine ol_val (v := .int .i64 0) (xr_assign rfl rfl) rfl rfl rfl ?_
  refine ol_nil ?_
  obtain ⟨e83, l84, h85⟩ := bs h
  refine cw_mid (fun ρ' w' => ∃ x86, e83 = Sum.inr x86 ∧ ∃ o45 : Own k_pmem_cell 142 w' w.heap.size u44 m15.cells, ∃ o48 : Own (kI .i64) 3 w' w.heap.size u47 m15.plan.list, ρ' 7 = (pt G40 0) ∧ ρ' 9 = sv ((List.map toB t52) ++ (List.map toB t58)) ∧ Blk w' G40 139 [Seg.cell u44 o45.one, Seg.cell u47 o48.one, (sI m15.plan.at_), Seg.cell (.bool m15.off), Seg.cell (.bool m15.armed), (sI m15.left), (sI m15.steps)] ∧ Gr w w') ?_ ?_
  ·refine cw_block ?_
   refine cw_round (fun (s82 : Int) ρ' w' => ∃ o45 : Own k_pmem_cell 142 w' w.heap.size u44 m15.cells, ∃ o48 : Own (kI .i64) 3 w' w.heap.size u47 m15.plan.list, ∃ r71 : Rds (kI .u8) w' u70 t68, ρ' 7 = (pt G40 0) ∧ ρ' 8 = .pointer none ∧ ρ' 9 = sv ((List.map toB t52) ++ (List.map toB t58)) ∧ ρ' 10 = u70 ∧ ρ' 11 = .int .i64 t74 ∧ ρ' 12 = .int .i64 s82 ∧ Blk w' G40 139 [Seg.cell u44 o45.one, Seg.cell u47 o48.one, (sI m15.plan.at_), Seg.cell (.bool m15.off), Seg.cell (.bool m15.armed), (sI m15.left), (sI m15.steps)] ∧ Gr w w') l84 ?_ ?_
   ·skip
    exact ⟨o45, o48, r71, e7, e8, e9, e10, e11, rfl, b42, fB⟩
   rintro s82 x89 ρ87 w88 ⟨o45, o48, r71, e7, e8, e9, e10, e11, e12, b42, fB⟩ h
   unfold rickyardlaw06_FateAll.s0 at h
   refine cw_seq ?_
   refine cw_seq ?_
   refine cw_region ?_
   refine ol_val (v := .int .i64 s82) (xr_move rfl e12) rfl rfl rfl ?_
   refine ol_val (v := .int .i64 t74) (xr_move rfl e11) rfl rfl rfl ?_
   refine ol_val (v := .bool (decide (s82 < t74))) (xr_lss rfl rfl rfl) rfl rfl rfl ?_
   refine ol_nil ?_
   rcases is h with ⟨c90, h⟩ | ⟨c90, h⟩
   ·refine cw_condT rfl c90 ?_
    refine cw_skip ?_
    refine cw_seq ?_
    refine cw_block ?_
    refine cw_seq ?_
    obtain ⟨g91, h⟩ := gs h
    obtain ⟨t94, k95, h⟩ := bs h
    refine cw_drawL 8 [fun vz wz => vz = (u70 : Value), fun vz wz => vz = (.int .i64 s82 : Value), fun vz wz => vz = ((pt ((sb u70)) (so u70 + Int.toNat s82 * 1)) : Value), fun vz wz => ∃ u93 : Value, ∃ r92 : Rd (kI .u8) wz u93 (ix t68 s82), vz = (u93 : Value), fun vz wz => vz = (sv (List.map toB (ix t68 s82)) : Value), fun vz wz => vz = (.pointer none : Value), fun vz wz => vz = (.int .i64 s82 : Value), fun vz wz => vz = (sv t94 : Value)] mo rfl ⟨fun _ _ _ h _ => h, fun _ _ _ h _ => h, fun _ _ _ h _ => h, fun _ _ _ ⟨u93, r92, h⟩ q => ⟨u93, r92.gr q, h⟩, fun _ _ _ h _ => h, fun _ _ _ h _ => h, fun _ _ _ h _ => h, fun _ _ _ h _ => h, trivial⟩ ?_ ?_
    ·refine ⟨?_, ?_, ?_, ?_, ?_, ?_, ?_, ?_, trivial⟩
     ·intro ρz wz hz hk hd
      exact sk_val (v := u70) (xr_move rfl ((hk 10 rfl).trans e10)) rfl rfl
     ·intro ρz wz hz hk hd
      exact sk_val (v := .int .i64 s82) (xr_move rfl ((hk 12 rfl).trans e12)) rfl rfl
     ·intro ρz wz hz hk hd
      exact sk_val (xr_indexRs (v := u70) rfl Try.underlying100 sz43 (hd 0 rfl 54 rfl) (r71.gr hz) (hd 1 rfl 55 rfl) g91.1 g91.2) rfl rfl
     ·intro ρz wz hz hk hd
      exact sk_val (xr_load1 (v := inner wz u70 s82) rfl ag43 (hd 2 rfl 56 rfl) ((r71.gr hz).elem g91.1 g91.2).1) rfl ⟨_, ((r71.gr hz).elem g91.1 g91.2).2, rfl⟩
     ·intro ρz wz hz hk hd
      obtain ⟨u93, r92, d57⟩ := hd 3 rfl 57 rfl
      exact sk_val (v := sv (List.map toB (ix t68 s82))) (xr_toStr rfl Try.underlying43 Try.underlying5 Try.underlying9 d57 r92) rfl rfl
     ·intro ρz wz hz hk hd
      exact sk_val (v := .pointer none) (xr_move rfl ((hk 8 rfl).trans e8)) rfl rfl
     ·intro ρz wz hz hk hd
      exact sk_val (v := .int .i64 s82) (xr_move rfl ((hk 12 rfl).trans e12)) rfl rfl
     intro ρz wz hz hk hd
     refine sk_op (opv_call rfl cal68 (ac (hd 5 rfl 59 rfl) (ac (hd 6 rfl 60 rfl) an)) (rickyardref06_Image__n0.ok fu _ s82 _ k95)) rfl ?_
     rintro _ wy ⟨rfl, q96⟩
     exact ⟨rfl, q96⟩
    intro ρ97 w98 q99 hk hd
    have e7 := (hk 7 rfl).trans e7
    have e8 := (hk 8 rfl).trans e8
    have e9 := (hk 9 rfl).trans e9
    have e10 := (hk 10 rfl).trans e10
    have e11 := (hk 11 rfl).trans e11
    have e12 := (hk 12 rfl).trans e12
    have e58 := hd 4 rfl 58 rfl
    have e61 := hd 7 rfl 61 rfl
    have b42 := b42.gr q99
    have o45 := o45.gr q99
    have o48 := o48.gr q99
    have r71 := r71.gr q99
    have fB := fB.gr q99
    refine ol_val (v := .bool (!decide ((List.map toB (ix t68 s82)) = t94))) (xr_neStr rfl Try.underlying9 e58 e61) rfl rfl rfl ?_
    refine ol_nil ?_
    rcases is h with ⟨c100, h⟩ | ⟨c100, h⟩
    ·refine cw_condT rfl c100 ?_
     refine cw_seq ?_
     refine cw_region ?_
     refine ol_val (v := .bool false) (xr_assign rfl rfl) rfl rfl rfl ?_
     refine ol_nil ?_
     refine cw_ret ?_
     repeat (first | with_reducible refine thn_r ?_ | with_reducible refine blk_r ?_)
     obtain rfl := Option.some.inj h
     refine lp_ret ?_
     rintro rfl
     repeat (first | with_reducible refine thn_r ?_ | with_reducible refine blk_r ?_)
     have h := h85
     obtain rfl := Option.some.inj h
     refine fin_ret1 Try.results16 rfl ?_
     exact ⟨_, rfl, rfl, fB⟩
    refine cw_condF rfl c100 ?_
    refine cw_skip ?_
    refine blk_i ?_
    refine cw_region ?_
    refine ol_val (v := .int .i64 s82) (xr_move rfl e12) rfl rfl rfl ?_
    refine ol_val (v := .int .i64 (IntKind.i64.wrap (s82 + 1))) (xr_add rfl rfl rfl) rfl rfl rfl ?_
    refine ol_val (v := .int .i64 (IntKind.i64.wrap (s82 + 1))) (xr_assign rfl rfl) rfl rfl rfl ?_
    refine ol_nil ?_
    obtain rfl := Option.some.inj h
    refine lp_in ?_
    exact ⟨o45, o48, r71, e7, e8, e9, e10, e11, rfl, b42, fB⟩
   refine cw_condF rfl c90 ?_
   refine cw_exit ?_
   repeat (first | with_reducible refine thn_e ?_ | with_reducible refine blk_e rfl ?_)
   obtain rfl := Option.some.inj h
   refine lp_exit ?_
   rintro rfl
   refine thn_x ?_
   exact ⟨_, rfl, o45, o48, e7, e9, b42, fB⟩
  rintro ρ101 w102 ⟨x86, rfl, o45, o48, e7, e9, b42, fB⟩
  have h := h85
  refine cw_seq ?_
  obtain ⟨t103, k104, h⟩ := bs h
  obtain ⟨t109, k110, h⟩ := bs h
  obtain ⟨g115, h⟩ := gs h
  refine cw_drawL 8 [fun vz wz => vz = ((pt G40 0) : Value), fun vz wz => ∃ u105 : Value, ∃ o106 : Own (kI .u8) 5 wz w.heap.size u105 t103, vz = (u105 : Value), fun vz wz => vz = (sv (List.map toB t103) : Value), fun vz wz => vz = ((pt G40 0) : Value), fun vz wz => ∃ u111 : Value, ∃ o112 : Own (kI .u8) 5 wz w.heap.size u111 t109, vz = (u111 : Value), fun vz wz => vz = (sv (List.map toB t109) : Value), fun vz wz => vz = (sv ((List.map toB t103) ++ (List.map toB t109)) : Value), fun vz wz => vz = (sv ((List.map toB t52) ++ (List.map toB t58)) : Value)] mo rfl ⟨fun _ _ _ h _ => h, fun _ _ _ ⟨u105, o106, h⟩ q => ⟨u105, o106.gr q, h⟩, fun _ _ _ h _ => h, fun _ _ _ h _ => h, fun _ _ _ ⟨u111, o112, h⟩ q => ⟨u111, o112.gr q, h⟩, fun _ _ _ h _ => h, fun _ _ _ h _ => h, fun _ _ _ h _ => h, trivial⟩ ?_ ?_
  ·refine ⟨?_, ?_, ?_, ?_, ?_, ?_, ?_, ?_, trivial⟩
   ·intro ρz wz hz hk hd
    exact sk_val (v := (pt G40 0)) (xr_move rfl ((hk 7 rfl).trans e7)) rfl rfl
   ·intro ρz wz hz hk hd
    refine sk_op (opv_call rfl cal33 (ac (hd 0 rfl 63 rfl) an) (pmem_Device_Image.ok fu _ m15 G40 u44 (o45.gr hz).rd u47 (o48.gr hz).rd (b42.gr hz) _ k104)) rfl ?_
    rintro u105 wy ⟨_, o106, rfl, q108⟩
    exact ⟨⟨u105, Own.base o106 ((Nat.le_trans fB.size hz.size)), rfl⟩, q108⟩
   ·intro ρz wz hz hk hd
    obtain ⟨u105, o106, d64⟩ := hd 1 rfl 64 rfl
    exact sk_val (v := sv (List.map toB t103)) (xr_toStr rfl Try.underlying43 Try.underlying5 Try.underlying9 d64 o106.rd) rfl rfl
   ·intro ρz wz hz hk hd
    exact sk_val (v := (pt G40 0)) (xr_move rfl ((hk 7 rfl).trans e7)) rfl rfl
   ·intro ρz wz hz hk hd
    refine sk_op (opv_call rfl cal36 (ac (hd 3 rfl 66 rfl) an) (pmem_Device_View.ok fu _ m15 G40 u44 (o45.gr hz).rd u47 (o48.gr hz).rd (b42.gr hz) _ k110)) rfl ?_
    rintro u111 wy ⟨_, o112, rfl, q114⟩
    exact ⟨⟨u111, Own.base o112 ((Nat.le_trans fB.size hz.size)), rfl⟩, q114⟩
   ·intro ρz wz hz hk hd
    obtain ⟨u111, o112, d67⟩ := hd 4 rfl 67 rfl
    exact sk_val (v := sv (List.map toB t109)) (xr_toStr rfl Try.underlying43 Try.underlying5 Try.underlying9 d67 o112.rd) rfl rfl
   ·intro ρz wz hz hk hd
    exact sk_val (v := sv ((List.map toB t103) ++ (List.map toB t109))) (xr_addStr rfl (hd 2 rfl 65 rfl) (hd 5 rfl 68 rfl) g115) rfl rfl
   intro ρz wz hz hk hd
   exact sk_val (v := sv ((List.map toB t52) ++ (List.map toB t58))) (xr_move rfl ((hk 9 rfl).trans e9)) rfl rfl
  intro ρ116 w117 q118 hk hd
  have e69 := hd 6 rfl 69 rfl
  have e70 := hd 7 rfl 70 rfl
  have fB := fB.gr q118
  refine ol_val (v := .bool (decide (((List.map toB t103) ++ (List.map toB t109)) = ((List.map toB t52) ++ (List.map toB t58))))) (xr_eqStr rfl Try.underlying9 e69 e70) rfl rfl rfl ?_
  refine ol_val (v := .bool (decide (((List.map toB t103) ++ (List.map toB t109)) = ((List.map toB t52) ++ (List.map toB t58))))) (xr_assign rfl rfl) rfl rfl rfl ?_
  refine ol_nil ?_
  refine cw_ret ?_
  repeat (first | with_reducible refine thn_r ?_ | with_reducible refine blk_r ?_)
  obtain rfl := Option.some.inj h
  refine fin_ret1 Try.results16 rfl ?_
  exact ⟨_, rfl, rfl, fB⟩
 obtain ⟨G119, u123, u126, u129, u132, u135, o124, o127, o130, o133, o136, a138, a139, a140, rfl, z120, b121⟩ := p11.2 _ e50
 have o45 := Own.base o45 fB.size
 have o48 := Own.base o48 fB.size
 have o124 := Own.base o124 fB.size
 have o127 := Own.base o127 fB.size
 have o130 := Own.base o130 fB.size
 have o133 := Own.base o133 fB.size
 have o136 := Own.base o136 fB.size
 have z41 := Nat.le_trans fB.size z41
 have z120 := Nat.le_trans fB.size z120
 have fB := fB.gr q12
 have n141 := Blk.neT b42 b121 (by decide)
 refine ol_val (v := .tuple #[(pt G40 0), (pt G119 0)]) (xr_move rfl rfl) rfl rfl rfl ?_
 refine ol_val (v := (pt G40 0)) (xr_extract rfl rfl rfl) rfl rfl rfl ?_
 refine ol_val (v := (pt G119 0)) (xr_extract rfl rfl rfl) rfl rfl rfl ?_
 refine ol_val (v := (pt G40 0)) (xr_assign rfl rfl) rfl rfl rfl ?_
 refine ol_val (v := (pt G119 0)) (xr_assign rfl rfl) rfl rfl rfl ?_
 refine ol_nil ?_
 refine cw_seq ?_
 refine cw_seq ?_
 refine cw_region ?_
 refine ol_val (v := (pt G40 0)) (xr_move rfl rfl) rfl rfl rfl ?_
 refine ol_val (v := .bool false) (xr_eqP (b := false) rfl Try.underlying30 rfl rfl (by simp) (by simp)) rfl rfl rfl ?_
 refine ol_nil ?_
 refine cw_condF rfl rfl ?_
 refine cw_skip ?_
 refine cw_seq ?_
 obtain ⟨t142, k143, h⟩ := bs h
 obtain ⟨t148, k149, h⟩ := bs h
 refine cw_drawL 6 [fun vz wz => vz = ((pt G40 0) : Value), fun vz wz => ∃ u144 : Value, ∃ o145 : Own (kI .u8) 5 wz w.heap.size u144 t142, vz = (u144 : Value), fun vz wz => vz = (sv (List.map toB t142) : Value), fun vz wz => vz = ((pt G40 0) : Value), fun vz wz => ∃ u150 : Value, ∃ o151 : Own (kI .u8) 5 wz w.heap.size u150 t148, vz = (u150 : Value), fun vz wz => vz = (sv (List.map toB t148) : Value)] mo rfl ⟨fun _ _ _ h _ => h, fun _ _ _ ⟨u144, o145, h⟩ q => ⟨u144, o145.gr q, h⟩, fun _ _ _ h _ => h, fun _ _ _ h _ => h, fun _ _ _ ⟨u150, o151, h⟩ q => ⟨u150, o151.gr q, h⟩, fun _ _ _ h _ => h, trivial⟩ ?_ ?_
 ·refine ⟨?_, ?_, ?_, ?_, ?_, ?_, trivial⟩
  ·intro ρz wz hz hk hd
   exact sk_val (v := (pt G40 0)) (xr_move rfl ((hk 7 rfl).trans rfl)) rfl rfl
  ·intro ρz wz hz hk hd
   refine sk_op (opv_call rfl cal33 (ac (hd 0 rfl 23 rfl) an) (pmem_Device_Image.ok fu _ m15 G40 u44 (o45.gr hz).rd u47 (o48.gr hz).rd (b42.gr hz) _ k143)) rfl ?_
   rintro u144 wy ⟨_, o145, rfl, q147⟩
   exact ⟨⟨u144, Own.base o145 ((Nat.le_trans fB.size hz.size)), rfl⟩, q147⟩
  ·intro ρz wz hz hk hd
   obtain ⟨u144, o145, d24⟩ := hd 1 rfl 24 rfl
   exact sk_val (v := sv (List.map toB t142)) (xr_toStr rfl Try.underlying43 Try.underlying5 Try.underlying9 d24 o145.rd) rfl rfl
  ·intro ρz wz hz hk hd
   exact sk_val (v := (pt G40 0)) (xr_move rfl ((hk 7 rfl).trans rfl)) rfl rfl
  ·intro ρz wz hz hk hd
   refine sk_op (opv_call rfl cal36 (ac (hd 3 rfl 26 rfl) an) (pmem_Device_View.ok fu _ m15 G40 u44 (o45.gr hz).rd u47 (o48.gr hz).rd (b42.gr hz) _ k149)) rfl ?_
   rintro u150 wy ⟨_, o151, rfl, q153⟩
   exact ⟨⟨u150, Own.base o151 ((Nat.le_trans fB.size hz.size)), rfl⟩, q153⟩
  intro ρz wz hz hk hd
  obtain ⟨u150, o151, d27⟩ := hd 4 rfl 27 rfl
  exact sk_val (v := sv (List.map toB t148)) (xr_toStr rfl Try.underlying43 Try.underlying5 Try.underlying9 d27 o151.rd) rfl rfl
 intro ρ154 w155 q156 hk hd
 have e2 := (hk 2 rfl).trans rfl
 have e7 := (hk 7 rfl).trans rfl
 have e8 := (hk 8 rfl).trans rfl
 have e25 := hd 2 rfl 25 rfl
 have e28 := hd 5 rfl 28 rfl
 have b42 := b42.gr q156
 have b121 := b121.gr q156
 have o45 := o45.gr q156
 have o48 := o48.gr q156
 have o124 := o124.gr q156
 have o127 := o127.gr q156
 have o130 := o130.gr q156
 have o133 := o133.gr q156
 have o136 := o136.gr q156
 have fB := fB.gr q156
 obtain ⟨g157, h⟩ := gs h
 refine ol_val (v := sv ((List.map toB t142) ++ (List.map toB t148))) (xr_addStr rfl e25 e28 g157) rfl rfl rfl ?_
 refine ol_val (v := sv ((List.map toB t142) ++ (List.map toB t148))) (xr_assign rfl rfl) rfl rfl rfl ?_
 refine ol_nil ?_
 refine cw_seq ?_
 refine cw_region ?_
 refine ol_val (v := (pt G40 0)) (xr_move rfl e7) rfl rfl rfl ?_
 refine ol_val (v := .int .i64 a2) (xr_move rfl e2) rfl rfl rfl ?_
 obtain ⟨t158, k159, h⟩ := bs h
 refine ol_op (opv_call rfl cal67 (ac rfl (ac rfl an)) (fate_All.ok fu _ m15 G40 u44 (o45.rd) u47 (o48.rd) b42 a2 _ k159)) rfl rfl rfl ?_
 rintro u160 w163 ⟨_, r161, rfl, q162⟩
 have b42 := b42.gr q162
 have b121 := b121.gr q162
 have o45 := o45.gr q162
 have o48 := o48.gr q162
 have o124 := o124.gr q162
 have o127 := o127.gr q162
 have o130 := o130.gr q162
 have o133 := o133.gr q162
 have o136 := o136.gr q162
 have fB := fB.gr q162
 refine ol_val (v := u160) (xr_assign rfl rfl) rfl rfl rfl ?_
 refine ol_nil ?_
 refine cw_seq ?_
 refine cw_region ?_
 refine ol_val (v := (pt G119 0)) (xr_move rfl e8) rfl rfl rfl ?_
 obtain ⟨t164, k165, h⟩ := bs h
 refine ol_op (opv_call rfl cal62 (ac rfl an) (rickyardref06_Count.ok fu _ m51 G119 u123 (o124.rd) u126 (o127.rd) u129 (o130.rd) u132 (o133.rd) u135 (o136.rd) b121 _ k165)) rfl rfl rfl ?_
 rintro _ w167 ⟨rfl, q166⟩
 have b42 := b42.gr q166
 have b121 := b121.gr q166
 have o45 := o45.gr q166
 have o48 := o48.gr q166
 have o124 := o124.gr q166
 have o127 := o127.gr q166
 have o130 := o130.gr q166
 have o133 := o133.gr q166
 have o136 := o136.gr q166
 have r161 := r161.gr q166
 have fB := fB.gr q166
 refine ol_val (v := .int .i64 t164) (xr_assign rfl rfl) rfl rfl rfl ?_
 refine ol_nil ?_
 refine cw_seq ?_
 refine cw_seq ?_
 refine cw_mid (fun ρ' w' => ρ' 7 = (pt G40 0) ∧ ρ' 8 = (pt G119 0) ∧ ρ' 9 = sv ((List.map toB t142) ++ (List.map toB t148)) ∧ ρ' 10 = u160 ∧ ρ' 11 = .int .i64 t164 ∧ ρ' 41 = .bool (if (decide (t164 > a2)) = true then true else (decide (t164 > 64))) ∧ w167 = w') ?_ ?_
 ·skip
  refine cw_region ?_
  refine ol_val (v := .int .i64 t164) (xr_move rfl rfl) rfl rfl rfl ?_
  refine ol_val (v := .int .i64 a2) (xr_move rfl e2) rfl rfl rfl ?_
  refine ol_val (v := .bool (decide (t164 > a2))) (xr_gtr rfl rfl rfl) rfl rfl rfl ?_
  refine ol_val (v := .bool (decide (t164 > a2))) (xr_move rfl rfl) rfl rfl rfl ?_
  rcases bt (decide (t164 > a2)) with c168 | c168
  ·skip
   refine ol_gskip rfl rfl rfl rfl rfl c168 ?_
   refine ol_gskip rfl rfl rfl rfl rfl c168 ?_
   refine ol_val (v := .bool true) (xr_pickT rfl rfl c168 rfl) rfl rfl rfl ?_
   refine ol_nil ?_
   refine thn_i ?_
   exact ⟨e7, e8, rfl, rfl, rfl, (rfl).trans (congrArg (fun z => (.bool z : Value)) (show true = (if (decide (t164 > a2)) = true then true else (decide (t164 > 64))) from by rw [ite_t c168])), rfl⟩
  refine ol_gval (v := .int .i64 t164) (xr_move rfl rfl) rfl rfl rfl rfl rfl c168 ?_
  refine ol_gval (v := .bool (decide (t164 > 64))) (xr_gtr rfl rfl rfl) rfl rfl rfl rfl rfl c168 ?_
  refine ol_val (v := .bool (decide (t164 > 64))) (xr_pickF rfl rfl c168 rfl) rfl rfl rfl ?_
  refine ol_nil ?_
  refine thn_i ?_
  exact ⟨e7, e8, rfl, rfl, rfl, (rfl).trans (congrArg (fun z => (.bool z : Value)) (show (decide (t164 > 64)) = (if (decide (t164 > a2)) = true then true else (decide (t164 > 64))) from by rw [ite_f c168])), rfl⟩
 rintro ρ169 _ ⟨e7, e8, e9, e10, e11, e41, rfl⟩
 rcases is h with ⟨c170, h⟩ | ⟨c170, h⟩
 ·refine cw_condT e41 c170 ?_
  refine cw_seq ?_
  refine cw_region ?_
  refine ol_val (v := u160) (xr_move rfl e10) rfl rfl rfl ?_
  refine ol_val (v := .int .i64 (List.length t158 : Int)) (xr_lenRs rfl Try.underlying100 rfl r161) rfl rfl rfl ?_
  refine ol_val (v := .bool (decide ((List.length t158 : Int) = 0))) (xr_eqI rfl Try.underlying3 rfl rfl rfl) rfl rfl rfl ?_
  refine ol_val (v := .bool (decide ((List.length t158 : Int) = 0))) (xr_assign rfl rfl) rfl rfl rfl ?_
  refine ol_nil ?_
  refine cw_ret ?_
  repeat (first | with_reducible refine thn_r ?_ | with_reducible refine blk_r ?_)
  obtain rfl := Option.some.inj h
  refine fin_ret1 Try.results16 rfl ?_
  exact ⟨_, rfl, rfl, fB⟩
 refine cw_condF e41 c170 ?_
 refine cw_skip ?_
 refine cw_seq ?_
 refine cw_seq ?_
 refine cw_region ?_
 refine ol_val (v := u160) (xr_move rfl e10) rfl rfl rfl ?_
 refine ol_val (v := .int .i64 (List.length t158 : Int)) (xr_lenRs rfl Try.underlying100 rfl r161) rfl rfl rfl ?_
 refine ol_val (v := .int .i64 t164) (xr_move rfl e11) rfl rfl rfl ?_
 refine ol_val (v := .bool (!decide ((List.length t158 : Int) = t164))) (xr_neI rfl Try.underlying3 rfl rfl rfl) rfl rfl rfl ?_
 refine ol_nil ?_
 rcases is h with ⟨c171, h⟩ | ⟨c171, h⟩
 ·refine cw_condT rfl c171 ?_
  refine cw_seq ?_
  refine cw_region ?_
  refine ol_val (v := .bool false) (xr_assign rfl rfl) rfl rfl rfl ?_
  refine ol_nil ?_
  refine cw_ret ?_
  repeat (first | with_reducible refine thn_r ?_ | with_reducible refine blk_r ?_)
  obtain rfl := Option.some.inj h
  refine fin_ret1 Try.results16 rfl ?_
  exact ⟨_, rfl, rfl, fB⟩
 refine cw_condF rfl c171 ?_
 refine cw_skip ?_
 refine cw_seq ?_
 refine cw_seq ?_
 refine cw_region ?_
 refine ol_val (v := .int .i64 0) (xr_assign rfl rfl) rfl rfl rfl ?_
 refine ol_nil ?_
 obtain ⟨e173, l174, h175⟩ := bs h
 refine cw_mid (fun ρ' w' => ∃ x176, e173 = Sum.inr x176 ∧ ∃ o45 : Own k_pmem_cell 142 w' w.heap.size u44 m15.cells, ∃ o48 : Own (kI .i64) 3 w' w.heap.size u47 m15.plan.list, ρ' 7 = (pt G40 0) ∧ ρ' 9 = sv ((List.map toB t142) ++ (List.map toB t148)) ∧ Blk w' G40 139 [Seg.cell u44 o45.one, Seg.cell u47 o48.one, (sI m15.plan.at_), Seg.cell (.bool m15.off), Seg.cell (.bool m15.armed), (sI m15.left), (sI m15.steps)] ∧ Gr w w') ?_ ?_
 ·refine cw_block ?_
  refine cw_round (fun (s172 : Int) ρ' w' => ∃ o45 : Own k_pmem_cell 142 w' w.heap.size u44 m15.cells, ∃ o48 : Own (kI .i64) 3 w' w.heap.size u47 m15.plan.list, ∃ o124 : Own (kI .u64) 22 w' w.heap.size u123 m51.Lasts, ∃ o127 : Own (kI .u64) 22 w' w.heap.size u126 m51.Stored, ∃ o130 : Own (kI .u64) 22 w' w.heap.size u129 m51.Sent, ∃ o133 : Own kB 4 w' w.heap.size u132 m51.Flushed, ∃ o136 : Own (kI .i64) 3 w' w.heap.size u135 m51.Plan, ∃ r161 : Rds (kI .u8) w' u160 t158, ρ' 7 = (pt G40 0) ∧ ρ' 8 = (pt G119 0) ∧ ρ' 9 = sv ((List.map toB t142) ++ (List.map toB t148)) ∧ ρ' 10 = u160 ∧ ρ' 11 = .int .i64 t164 ∧ ρ' 12 = .int .i64 s172 ∧ Blk w' G40 139 [Seg.cell u44 o45.one, Seg.cell u47 o48.one, (sI m15.plan.at_), Seg.cell (.bool m15.off), Seg.cell (.bool m15.armed), (sI m15.left), (sI m15.steps)] ∧ Blk w' G119 65 [Seg.cell u123 o124.one, Seg.cell u126 o127.one, Seg.cell u129 o130.one, Seg.cell u132 o133.one, Seg.cell u135 o136.one, (sI m51.Since), (sI m51.Left), (sI m51.Steps)] ∧ Gr w w') l174 ?_ ?_
  ·skip
   exact ⟨o45, o48, o124, o127, o130, o133, o136, r161, e7, e8, e9, e10, e11, rfl, b42, b121, fB⟩
  rintro s172 x179 ρ177 w178 ⟨o45, o48, o124, o127, o130, o133, o136, r161, e7, e8, e9, e10, e11, e12, b42, b121, fB⟩ h
  unfold rickyardlaw06_FateAll.s1 at h
  refine cw_seq ?_
  refine cw_seq ?_
  refine cw_region ?_
  refine ol_val (v := .int .i64 s172) (xr_move rfl e12) rfl rfl rfl ?_
  refine ol_val (v := .int .i64 t164) (xr_move rfl e11) rfl rfl rfl ?_
  refine ol_val (v := .bool (decide (s172 < t164))) (xr_lss rfl rfl rfl) rfl rfl rfl ?_
  refine ol_nil ?_
  rcases is h with ⟨c180, h⟩ | ⟨c180, h⟩
  ·refine cw_condT rfl c180 ?_
   refine cw_skip ?_
   refine cw_seq ?_
   refine cw_block ?_
   refine cw_seq ?_
   obtain ⟨g181, h⟩ := gs h
   obtain ⟨t184, k185, h⟩ := bs h
   refine cw_drawL 8 [fun vz wz => vz = (u160 : Value), fun vz wz => vz = (.int .i64 s172 : Value), fun vz wz => vz = ((pt ((sb u160)) (so u160 + Int.toNat s172 * 1)) : Value), fun vz wz => ∃ u183 : Value, ∃ r182 : Rd (kI .u8) wz u183 (ix t158 s172), vz = (u183 : Value), fun vz wz => vz = (sv (List.map toB (ix t158 s172)) : Value), fun vz wz => vz = ((pt G119 0) : Value), fun vz wz => vz = (.int .i64 s172 : Value), fun vz wz => vz = (sv t184 : Value)] mo rfl ⟨fun _ _ _ h _ => h, fun _ _ _ h _ => h, fun _ _ _ h _ => h, fun _ _ _ ⟨u183, r182, h⟩ q => ⟨u183, r182.gr q, h⟩, fun _ _ _ h _ => h, fun _ _ _ h _ => h, fun _ _ _ h _ => h, fun _ _ _ h _ => h, trivial⟩ ?_ ?_
   ·refine ⟨?_, ?_, ?_, ?_, ?_, ?_, ?_, ?_, trivial⟩
    ·intro ρz wz hz hk hd
     exact sk_val (v := u160) (xr_move rfl ((hk 10 rfl).trans e10)) rfl rfl
    ·intro ρz wz hz hk hd
     exact sk_val (v := .int .i64 s172) (xr_move rfl ((hk 12 rfl).trans e12)) rfl rfl
    ·intro ρz wz hz hk hd
     exact sk_val (xr_indexRs (v := u160) rfl Try.underlying100 sz43 (hd 0 rfl 54 rfl) (r161.gr hz) (hd 1 rfl 55 rfl) g181.1 g181.2) rfl rfl
    ·intro ρz wz hz hk hd
     exact sk_val (xr_load1 (v := inner wz u160 s172) rfl ag43 (hd 2 rfl 56 rfl) ((r161.gr hz).elem g181.1 g181.2).1) rfl ⟨_, ((r161.gr hz).elem g181.1 g181.2).2, rfl⟩
    ·intro ρz wz hz hk hd
     obtain ⟨u183, r182, d57⟩ := hd 3 rfl 57 rfl
     exact sk_val (v := sv (List.map toB (ix t158 s172))) (xr_toStr rfl Try.underlying43 Try.underlying5 Try.underlying9 d57 r182) rfl rfl
    ·intro ρz wz hz hk hd
     exact sk_val (v := (pt G119 0)) (xr_move rfl ((hk 8 rfl).trans e8)) rfl rfl
    ·intro ρz wz hz hk hd
     exact sk_val (v := .int .i64 s172) (xr_move rfl ((hk 12 rfl).trans e12)) rfl rfl
    intro ρz wz hz hk hd
    refine sk_op (opv_call rfl cal68 (ac (hd 5 rfl 59 rfl) (ac (hd 6 rfl 60 rfl) an)) (rickyardref06_Image.ok fu _ m51 G119 u123 (o124.gr hz).rd u126 (o127.gr hz).rd u129 (o130.gr hz).rd u132 (o133.gr hz).rd u135 (o136.gr hz).rd (b121.gr hz) s172 _ k185)) rfl ?_
    rintro _ wy ⟨rfl, q186⟩
    exact ⟨rfl, q186⟩
   intro ρ187 w188 q189 hk hd
   have e7 := (hk 7 rfl).trans e7
   have e8 := (hk 8 rfl).trans e8
   have e9 := (hk 9 rfl).trans e9
   have e10 := (hk 10 rfl).trans e10
   have e11 := (hk 11 rfl).trans e11
   have e12 := (hk 12 rfl).trans e12
   have e58 := hd 4 rfl 58 rfl
   have e61 := hd 7 rfl 61 rfl
   have b42 := b42.gr q189
   have b121 := b121.gr q189
   have o45 := o45.gr q189
   have o48 := o48.gr q189
   have o124 := o124.gr q189
   have o127 := o127.gr q189
   have o130 := o130.gr q189
   have o133 := o133.gr q189
   have o136 := o136.gr q189
   have r161 := r161.gr q189
   have fB := fB.gr q189
   refine ol_val (v := .bool (!decide ((List.map toB (ix t158 s172)) = t184))) (xr_neStr rfl Try.underlying9 e58 e61) rfl rfl rfl ?_
   refine ol_nil ?_
   rcases is h with ⟨c190, h⟩ | ⟨c190, h⟩
   ·refine cw_condT rfl c190 ?_
    refine cw_seq ?_
    refine cw_region ?_
    refine ol_val (v := .bool false) (xr_assign rfl rfl) rfl rfl rfl ?_
    refine ol_nil ?_
    refine cw_ret ?_
    repeat (first | with_reducible refine thn_r ?_ | with_reducible refine blk_r ?_)
    obtain rfl := Option.some.inj h
    refine lp_ret ?_
    rintro rfl
    repeat (first | with_reducible refine thn_r ?_ | with_reducible refine blk_r ?_)
    have h := h175
    obtain rfl := Option.some.inj h
    refine fin_ret1 Try.results16 rfl ?_
    exact ⟨_, rfl, rfl, fB⟩
   refine cw_condF rfl c190 ?_
   refine cw_skip ?_
   refine blk_i ?_
   refine cw_region ?_
   refine ol_val (v := .int .i64 s172) (xr_move rfl e12) rfl rfl rfl ?_
   refine ol_val (v := .int .i64 (IntKind.i64.wrap (s172 + 1))) (xr_add rfl rfl rfl) rfl rfl rfl ?_
   refine ol_val (v := .int .i64 (IntKind.i64.wrap (s172 + 1))) (xr_assign rfl rfl) rfl rfl rfl ?_
   refine ol_nil ?_
   obtain rfl := Option.some.inj h
   refine lp_in ?_
   exact ⟨o45, o48, o124, o127, o130, o133, o136, r161, e7, e8, e9, e10, e11, rfl, b42, b121, fB⟩
  refine cw_condF rfl c180 ?_
  refine cw_exit ?_
  repeat (first | with_reducible refine thn_e ?_ | with_reducible refine blk_e rfl ?_)
  obtain rfl := Option.some.inj h
  refine lp_exit ?_
  rintro rfl
  refine thn_x ?_
  exact ⟨_, rfl, o45, o48, e7, e9, b42, fB⟩
 rintro ρ191 w192 ⟨x176, rfl, o45, o48, e7, e9, b42, fB⟩
 have h := h175
 refine cw_seq ?_
 obtain ⟨t193, k194, h⟩ := bs h
 obtain ⟨t199, k200, h⟩ := bs h
 obtain ⟨g205, h⟩ := gs h
 refine cw_drawL 8 [fun vz wz => vz = ((pt G40 0) : Value), fun vz wz => ∃ u195 : Value, ∃ o196 : Own (kI .u8) 5 wz w.heap.size u195 t193, vz = (u195 : Value), fun vz wz => vz = (sv (List.map toB t193) : Value), fun vz wz => vz = ((pt G40 0) : Value), fun vz wz => ∃ u201 : Value, ∃ o202 : Own (kI .u8) 5 wz w.heap.size u201 t199, vz = (u201 : Value), fun vz wz => vz = (sv (List.map toB t199) : Value), fun vz wz => vz = (sv ((List.map toB t193) ++ (List.map toB t199)) : Value), fun vz wz => vz = (sv ((List.map toB t142) ++ (List.map toB t148)) : Value)] mo rfl ⟨fun _ _ _ h _ => h, fun _ _ _ ⟨u195, o196, h⟩ q => ⟨u195, o196.gr q, h⟩, fun _ _ _ h _ => h, fun _ _ _ h _ => h, fun _ _ _ ⟨u201, o202, h⟩ q => ⟨u201, o202.gr q, h⟩, fun _ _ _ h _ => h, fun _ _ _ h _ => h, fun _ _ _ h _ => h, trivial⟩ ?_ ?_
 ·refine ⟨?_, ?_, ?_, ?_, ?_, ?_, ?_, ?_, trivial⟩
  ·intro ρz wz hz hk hd
   exact sk_val (v := (pt G40 0)) (xr_move rfl ((hk 7 rfl).trans e7)) rfl rfl
  ·intro ρz wz hz hk hd
   refine sk_op (opv_call rfl cal33 (ac (hd 0 rfl 63 rfl) an) (pmem_Device_Image.ok fu _ m15 G40 u44 (o45.gr hz).rd u47 (o48.gr hz).rd (b42.gr hz) _ k194)) rfl ?_
   rintro u195 wy ⟨_, o196, rfl, q198⟩
   exact ⟨⟨u195, Own.base o196 ((Nat.le_trans fB.size hz.size)), rfl⟩, q198⟩
  ·intro ρz wz hz hk hd
   obtain ⟨u195, o196, d64⟩ := hd 1 rfl 64 rfl
   exact sk_val (v := sv (List.map toB t193)) (xr_toStr rfl Try.underlying43 Try.underlying5 Try.underlying9 d64 o196.rd) rfl rfl
  ·intro ρz wz hz hk hd
   exact sk_val (v := (pt G40 0)) (xr_move rfl ((hk 7 rfl).trans e7)) rfl rfl
  ·intro ρz wz hz hk hd
   refine sk_op (opv_call rfl cal36 (ac (hd 3 rfl 66 rfl) an) (pmem_Device_View.ok fu _ m15 G40 u44 (o45.gr hz).rd u47 (o48.gr hz).rd (b42.gr hz) _ k200)) rfl ?_
   rintro u201 wy ⟨_, o202, rfl, q204⟩
   exact ⟨⟨u201, Own.base o202 ((Nat.le_trans fB.size hz.size)), rfl⟩, q204⟩
  ·intro ρz wz hz hk hd
   obtain ⟨u201, o202, d67⟩ := hd 4 rfl 67 rfl
   exact sk_val (v := sv (List.map toB t199)) (xr_toStr rfl Try.underlying43 Try.underlying5 Try.underlying9 d67 o202.rd) rfl rfl
  ·intro ρz wz hz hk hd
   exact sk_val (v := sv ((List.map toB t193) ++ (List.map toB t199))) (xr_addStr rfl (hd 2 rfl 65 rfl) (hd 5 rfl 68 rfl) g205) rfl rfl
  intro ρz wz hz hk hd
  exact sk_val (v := sv ((List.map toB t142) ++ (List.map toB t148))) (xr_move rfl ((hk 9 rfl).trans e9)) rfl rfl
 intro ρ206 w207 q208 hk hd
 have e69 := hd 6 rfl 69 rfl
 have e70 := hd 7 rfl 70 rfl
 have fB := fB.gr q208
 refine ol_val (v := .bool (decide (((List.map toB t193) ++ (List.map toB t199)) = ((List.map toB t142) ++ (List.map toB t148))))) (xr_eqStr rfl Try.underlying9 e69 e70) rfl rfl rfl ?_
 refine ol_val (v := .bool (decide (((List.map toB t193) ++ (List.map toB t199)) = ((List.map toB t142) ++ (List.map toB t148))))) (xr_assign rfl rfl) rfl rfl rfl ?_
 refine ol_nil ?_
 refine cw_ret ?_
 repeat (first | with_reducible refine thn_r ?_ | with_reducible refine blk_r ?_)
 obtain rfl := Option.some.inj h
 refine fin_ret1 Try.results16 rfl ?_
 exact ⟨_, rfl, rfl, fB⟩
end Go.Proofs.Ytklhbaghbmndeaa
namespace Go.Xw
open Go
variable {P : Program} {w : World}
def Opn {α : Type} (P : Program) (w : World) (T : TypeId) (K : Kd α) (ok : α → Prop) : Prop :=
  ∀ {H : Type} (enc : TypeId × Value → H) (base : Nat) (sp : Nat → Bool) (held : Bool) (fuel : Nat) (cs : List Value) (x : DataW H × List MemPlace), DataW.trod enc P w base sp held fuel T cs = some x → ∃ a : α, cs = K.enc a ∧ ok a
theorem opn_int {T : TypeId} {k : IntKind} (ht : P.underlying T = some (.int k)) : Opn P w T (kI k) (fun n => (Lit.int k n).wf = true) := by
  intro H enc base sp held fuel cs x h
  obtain ⟨n, rfl, _, hw⟩ := DataW.trod_int ht h
  exact ⟨n, rfl, hw⟩
theorem ms_len {α β : Type} {f : α → Option β} : ∀ {l : List α} {ys : List β}, l.mapM f = some ys → ys.length = l.length
  | [], ys, h => by simp at h; subst h; rfl
  | a :: l, ys, h => by
    rw [List.mapM_cons] at h
    obtain ⟨b, _, h⟩ := Option.bind_eq_some_iff.1 h
    obtain ⟨bs, hb, h⟩ := Option.bind_eq_some_iff.1 h
    simp at h
    subst h
    simp [ms_len hb]
theorem ms_get {α β : Type} {f : α → Option β} : ∀ {l : List α} {ys : List β}, l.mapM f = some ys → ∀ (i : Nat) (a : α), l[i]? = some a → ∃ y, ys[i]? = some y ∧ f a = some y
  | [], ys, h, i, a, ha => by simp at ha
  | b :: l, ys, h, i, a, ha => by
    rw [List.mapM_cons] at h
    obtain ⟨c, hc, h⟩ := Option.bind_eq_some_iff.1 h
    obtain ⟨bs, hb, h⟩ := Option.bind_eq_some_iff.1 h
    simp at h
    subst h
    cases i with
    | zero =>
      simp at ha
      subst ha
      exact ⟨c, rfl, hc⟩
    | succ i =>
      simp at ha
      obtain ⟨y, h1, h2⟩ := ms_get hb i a ha
      exact ⟨y, by simpa using h1, h2⟩
theorem fld_cons {cs : List Value} {o n : Nat} {c r : List Value} (h : (cs.drop o).take n = c) (hr : cs.drop (o + n) = r) : cs.drop o = c ++ r := by
  rw [← h, ← hr, ← List.drop_drop, List.take_append_drop]
theorem trod_st {H : Type} {enc : TypeId × Value → H} {base : Nat} {sp : Nat → Bool} {held : Bool} {fuel : Nat} {T : TypeId} {fs : Array Field} {cs : List Value} {x : DataW H × List MemPlace} (ht : P.underlying T = some (.struct fs)) (h : DataW.trod enc P w base sp held fuel T cs = some x) :
    cs.length = P.cellsOf T ∧ ∃ m, ∀ (i : Nat) (f : Field), fs[i]? = some f → ∃ y, DataW.trod enc P w base sp held m f.type ((cs.drop f.offset).take (P.cellsOf f.type)) = some y := by
  obtain ⟨xs, m, _, _, hl, hn, hf⟩ := DataW.trod_struct ht h
  refine ⟨hl, m, fun i f hi => ?_⟩
  have hx : i < xs.length := by rw [hn]; exact (Array.getElem?_eq_some_iff.1 hi).1
  exact ⟨xs[i], by rw [hf i f hi, List.getElem?_eq_getElem hx]⟩
def OpnS {α : Type} (P : Program) (w : World) (T : TypeId) (K : Kd α) (ok : α → Prop) : Prop :=
  ∀ {H : Type} (enc : TypeId × Value → H) (base : Nat) (sp : Nat → Bool) (held : Bool) (fuel : Nat) (cs : List Value) (x : DataW H × List MemPlace), DataW.trod enc P w base sp held fuel T cs = some x → ∃ (l : List α) (V : Value), cs = [V] ∧ Rd K w V l ∧ (∀ a ∈ l, ok a) ∧ l.length ≤ maxLen ∧ (sb V < w.heap.size ∨ l = [])
theorem cells_get {base : Nat} {a : Addr} {n : Nat} {cs : List Value} (h : w.cells? base a n = some cs) : cs.length = n ∧ ∀ j, j < n → w.cell? (a.add j) = cs[j]? := by
  unfold World.cells? at h
  split at h
  · refine ⟨by simpa using ms_len h, fun j hj => ?_⟩
    obtain ⟨y, h1, h2⟩ := ms_get h j j (by simp [hj])
    rw [h1, h2]
  · cases h
theorem opn_slice {α : Type} {K : Kd α} {ok : α → Prop} {T e : TypeId} (ht : P.underlying T = some (.slice e)) (he : P.cellsOf e = K.size) (hk : 0 < K.size) (ho : Opn P w e K ok) : OpnS P w T K ok := by
  intro H enc base sp held fuel cs x h
  rcases DataW.trod_slice ht h with ⟨rfl, _⟩ | ⟨a, len, cap, elems, rest, n, rfl, rfl, _, _, hl, hm, hlen, hel, _, _⟩
  · exact ⟨[], _, rfl, Rd.nil K w, by simp, by simp, .inr rfl⟩
  · have hex : ∀ i, i < len → ∃ b, (∀ j z, (K.enc b)[j]? = some z → w.cell? (a.add (i * K.size + j)) = some z) ∧ ok b := by
      intro i hi
      have h1 := hel i hi
      rw [List.getElem?_eq_getElem (by omega)] at h1
      obtain ⟨cs, h2, h3⟩ := Option.bind_eq_some_iff.1 h1
      obtain ⟨b, rfl, hb⟩ := ho enc base sp held n cs _ h3
      obtain ⟨h4, h5⟩ := cells_get h2
      rw [he] at h4 h5
      refine ⟨b, fun j z hz => ?_, hb⟩
      have hj : j < K.size := by rw [← h4]; exact (List.getElem?_eq_some_iff.1 hz).1
      have := h5 j hj
      rw [hz] at this
      rw [← this]
      congr 1
      unfold Addr.add
      by_cases hi0 : i * K.size = 0
      · by_cases hj0 : j = 0
        · simp [hi0, hj0]
        · simp [hi0, hj0]
      · by_cases hj0 : j = 0
        · simp [hi0, hj0]
        · have : i * K.size + j ≠ 0 := by omega
          simp [hi0, hj0, this, Nat.add_assoc]
    have hlist : ∀ m, m ≤ len → ∃ l : List α, l.length = m ∧ (∀ b ∈ l, ok b) ∧ ∀ j z, (l.flatMap K.enc)[j]? = some z → w.cell? (a.add j) = some z := by
      intro m
      induction m with
      | zero => intro _; exact ⟨[], rfl, by simp, by simp⟩
      | succ m ih =>
        intro hm
        obtain ⟨l, h1, h2, h3⟩ := ih (by omega)
        obtain ⟨b, h4, h5⟩ := hex m (by omega)
        refine ⟨l ++ [b], by simp [h1], ?_, ?_⟩
        · intro c hc
          rcases List.mem_append.1 hc with hc | hc
          · exact h2 c hc
          · obtain rfl := List.mem_singleton.1 hc
            exact h5
        · intro j z hz
          have hL : (l.flatMap K.enc).length = m * K.size := by rw [len_flat, h1]
          simp only [List.flatMap_append, List.flatMap_cons, List.flatMap_nil, List.append_nil] at hz
          by_cases hj : j < m * K.size
          · rw [List.getElem?_append_left (by omega)] at hz
            exact h3 j z hz
          · rw [List.getElem?_append_right (by omega), hL] at hz
            have := h4 (j - m * K.size) z hz
            rwa [show m * K.size + (j - m * K.size) = j from by omega] at this
    obtain ⟨l, h1, h2, h3⟩ := hlist len (Nat.le_refl _)
    have hpos : 0 < l.length → ∃ z, w.cell? a = some z := by
      intro hp
      cases l with
      | nil => simp at hp
      | cons b l =>
        have hb : (K.enc b).length = K.size := K.len b
        have : ∃ z, ((b :: l).flatMap K.enc)[0]? = some z := ⟨_, List.getElem?_eq_getElem (by simp [List.flatMap_cons, hb]; omega)⟩
        obtain ⟨z, hz⟩ := this
        have := h3 0 z hz
        exact ⟨z, by simpa [Addr.add] using this⟩
    refine ⟨l, _, rfl, ⟨some a, cap, by rw [h1], by omega, fun hp => ?_⟩, h2, by omega, ?_⟩
    · obtain ⟨z, hz⟩ := hpos hp
      obtain ⟨b, o, s⟩ := a
      have hs : s = none := by
        unfold World.cell? at hz
        split at hz
        · cases s with
          | none => rfl
          | some _ => simp at hz
        · cases hz
      subst hs
      refine ⟨b, o, rfl, fun j v hv => ?_⟩
      have := h3 j v hv
      rwa [Addr.add_lit] at this
    · rcases Nat.eq_zero_or_pos l.length with h0 | hp
      · exact .inr (List.eq_nil_of_length_eq_zero h0)
      · obtain ⟨z, hz⟩ := hpos hp
        refine .inl ?_
        unfold World.cell? at hz
        split at hz
        · rename_i hh
          exact (Array.getElem?_eq_some_iff.1 hh).1
        · cases hz
theorem opn_sliceN {P : Program} {w : World} {α : Type} {n : Nat} {D : World → List Value → α → Prop} {ok : α → Prop} {T e : TypeId} (ht : P.underlying T = some (.slice e)) (he : P.cellsOf e = n) (hk : 0 < n)
    (ho : ∀ {H : Type} (enc : TypeId × Value → H) (base : Nat) (sp : Nat → Bool) (held : Bool) (fuel : Nat) (cs : List Value) (x : DataW H × List MemPlace), DataW.trod enc P w base sp held fuel e cs = some x → ∃ a : α, D w cs a ∧ ok a ∧ cs.length = n ∧ ∀ v ∈ cs, v.oneCell' = true)
    {H : Type} (enc : TypeId × Value → H) (base : Nat) (sp : Nat → Bool) (held : Bool) (fuel : Nat) (cs : List Value) (x : DataW H × List MemPlace) (h : DataW.trod enc P w base sp held fuel T cs = some x) :
    ∃ (l : List α) (V : Value), cs = [V] ∧ RdN n D w V l ∧ (∀ a ∈ l, ok a) ∧ l.length ≤ maxLen ∧ (sb V < w.heap.size ∨ l = []) := by
  let β := { p : { l : List Value // l.length = n ∧ ∀ v ∈ l, v.oneCell' = true } × α // D w p.1.1 p.2 ∧ ok p.2 }
  let K : Kd β := ⟨fun p => p.1.1.1, n, fun p => p.1.1.2.1, fun p => p.1.1.2.2⟩
  have hp : Opn P w e K (fun _ => True) := by
    intro H enc base sp held fuel cs x h
    obtain ⟨a, hd, hok, hl, h1⟩ := ho enc base sp held fuel cs x h
    exact ⟨⟨(⟨cs, hl, h1⟩, a), hd, hok⟩, rfl, trivial⟩
  obtain ⟨l, V, e1, r, _, hm, hs⟩ := opn_slice (K := K) ht he hk hp enc base sp held fuel cs x h
  refine ⟨l.map (fun p => p.1.2), V, e1, ⟨l.map (fun p => p.1.1), ?_, by simp, ?_⟩, ?_, by simpa using hm, ?_⟩
  · obtain ⟨A, c, rfl, hc, hr⟩ := r
    refine ⟨A, c, by simp, by simpa using hc, fun hpos => ?_⟩
    obtain ⟨b, o, ea, hat⟩ := hr (by simpa using hpos)
    refine ⟨b, o, ea, ?_⟩
    rw [List.flatMap_map]
    exact hat
  · intro i h1 h2
    have hi : i < l.length := by simpa using h1
    simp only [List.getElem_map]
    exact (l[i]).2.1
  · intro a ha
    obtain ⟨p, _, rfl⟩ := List.mem_map.1 ha
    exact p.2.2
  · rcases hs with hs | rfl
    · exact .inl hs
    · exact .inr rfl
end Go.Xw
namespace Go.Proofs.Ytklhbaghbmndeaa
open Go Go.Xw
def ok_rickyardlaw05_Act (a : S_rickyardlaw05_Act) : Prop := (Lit.int .i64 a.Kind).wf = true ∧ (Lit.int .i64 a.At).wf = true ∧ (Lit.int .u64 a.W).wf = true ∧ ((∀ x ∈ a.L, (Lit.int .i64 x).wf = true) ∧ List.length a.L ≤ maxLen)
theorem opn_rickyardlaw05_Act {w : World} {H : Type} (enc : TypeId × Value → H) (base : Nat) (sp : Nat → Bool) (held : Bool) (fuel : Nat) (cs : List Value) (x : DataW H × List MemPlace) (h : DataW.trod enc Try.prog w base sp held fuel 39 cs = some x) : ∃ a : S_rickyardlaw05_Act, ∃ V0 : Value, ∃ R0 : Rd (kI .i64) w V0 a.L, cs = cellsOf [Seg.cell (.int .i64 a.Kind), Seg.cell (.int .i64 a.At), Seg.cell (.int .u64 a.W), Seg.cell V0 R0.one] ∧ ok_rickyardlaw05_Act a := by
  obtain ⟨hl, m, hf⟩ := trod_st Try.underlying39 h
  obtain ⟨y0, h0⟩ := hf 0 _ rfl
  have c0 : Try.prog.cellsOf 3 = 1 := by kernel_rfl
  obtain ⟨b0, e0, o0⟩ := (opn_int Try.underlying3) enc base sp held m _ y0 h0
  have e0 : (cs.drop 0).take 1 = (kI .i64).enc b0 := (congrArg (fun n => (cs.drop 0).take n) c0).symm.trans e0
  obtain ⟨y1, h1⟩ := hf 1 _ rfl
  have c1 : Try.prog.cellsOf 3 = 1 := by kernel_rfl
  obtain ⟨b1, e1, o1⟩ := (opn_int Try.underlying3) enc base sp held m _ y1 h1
  have e1 : (cs.drop 1).take 1 = (kI .i64).enc b1 := (congrArg (fun n => (cs.drop 1).take n) c1).symm.trans e1
  obtain ⟨y2, h2⟩ := hf 2 _ rfl
  have c2 : Try.prog.cellsOf 22 = 1 := by kernel_rfl
  obtain ⟨b2, e2, o2⟩ := (opn_int Try.underlying22) enc base sp held m _ y2 h2
  have e2 : (cs.drop 2).take 1 = (kI .u64).enc b2 := (congrArg (fun n => (cs.drop 2).take n) c2).symm.trans e2
  obtain ⟨y3, h3⟩ := hf 3 _ rfl
  have c3 : Try.prog.cellsOf 25 = 1 := by kernel_rfl
  obtain ⟨b3, W3, e3, r3, o3, l3, _⟩ := (opn_slice (K := (kI .i64)) Try.underlying25 (by kernel_rfl) (by decide) (opn_int Try.underlying3)) enc base sp held m _ y3 h3
  have e3 : (cs.drop 3).take 1 = [W3] := (congrArg (fun n => (cs.drop 3).take n) c3).symm.trans e3
  have hn : cs.drop 4 = [] := List.drop_eq_nil_of_le (by rw [hl]; exact Nat.le_of_eq (by kernel_rfl))
  have hc : cs = (kI .i64).enc b0 ++ ((kI .i64).enc b1 ++ ((kI .u64).enc b2 ++ ([W3] ++ []))) := (fld_cons (o := 0) (n := 1) e0 (fld_cons (o := 1) (n := 1) e1 (fld_cons (o := 2) (n := 1) e2 (fld_cons (o := 3) (n := 1) e3 hn))))
  refine ⟨⟨b0, b1, b2, b3⟩, W3, r3, ?_, o0, o1, o2, ⟨o3, l3⟩⟩
  rw [hc]
  simp [kA, kI, kB, kS, kT, cellsOf, Seg.cell, Kd.seg]
end Go.Proofs.Ytklhbaghbmndeaa
namespace Go.Proofs.Ytklhbaghbmndeaa.Pure
open Go Go.Xw
def upd {α : Type} (g : Nat → α → α) (lo j : Nat) (cs : List α) : List α := cs.mapIdx fun i c => if lo ≤ i ∧ i < lo + j then g i c else c
theorem upd_len {α : Type} (g : Nat → α → α) (lo j : Nat) (cs : List α) : (upd g lo j cs).length = cs.length := by simp [upd]
theorem upd_zero {α : Type} (g : Nat → α → α) (lo : Nat) (cs : List α) : upd g lo 0 cs = cs := by
  apply List.ext_getElem (by simp [upd])
  intro i h1 h2
  simp only [upd, List.getElem_mapIdx]
  rw [if_neg (by omega)]
theorem upd_get {α : Type} (g : Nat → α → α) (lo j : Nat) (cs : List α) (i : Nat) (h : i < (upd g lo j cs).length) : (upd g lo j cs)[i] = if lo ≤ i ∧ i < lo + j then g i (cs[i]'(by simpa [upd] using h)) else cs[i]'(by simpa [upd] using h) := by
  simp only [upd, List.getElem_mapIdx]
theorem upd_next {α : Type} (g : Nat → α → α) (lo j : Nat) (cs : List α) (h : lo + j < cs.length) : (upd g lo j cs)[lo + j]'(by rw [upd_len]; exact h) = cs[lo + j] := by
  rw [upd_get, if_neg (by omega)]
theorem upd_set {α : Type} (g : Nat → α → α) (lo j : Nat) (cs : List α) (h : lo + j < cs.length) : (upd g lo j cs).set (lo + j) (g (lo + j) cs[lo + j]) = upd g lo (j + 1) cs := by
  apply List.ext_getElem (by simp [upd])
  intro i h1 h2
  rw [List.getElem_set, upd_get g lo (j + 1)]
  by_cases e : lo + j = i
  · subst e
    rw [if_pos rfl, if_pos (by omega)]
  · rw [if_neg e, upd_get]
    by_cases c : lo ≤ i ∧ i < lo + j
    · rw [if_pos c, if_pos (by omega)]
    · rw [if_neg c, if_neg (by omega)]
theorem upd_same {α : Type} (g : Nat → α → α) (lo j : Nat) (cs : List α) (h : lo + j < cs.length) (e : g (lo + j) cs[lo + j] = cs[lo + j]) : upd g lo j cs = upd g lo (j + 1) cs := by
  apply List.ext_getElem (by simp [upd])
  intro i h1 h2
  rw [upd_get g lo j, upd_get g lo (j + 1)]
  by_cases e' : lo + j = i
  · subst e'
    rw [if_neg (by omega), if_pos (by omega), e]
  · by_cases c : lo ≤ i ∧ i < lo + j
    · rw [if_pos c, if_pos (by omega)]
    · rw [if_neg c, if_neg (by omega)]
theorem upd_all {α : Type} (g : Nat → α → α) (cs : List α) : upd g 0 cs.length cs = cs.mapIdx g := by
  apply List.ext_getElem (by simp [upd])
  intro i h1 h2
  rw [upd_get, if_pos ⟨by omega, by rw [upd_len] at h1; omega⟩, List.getElem_mapIdx]
theorem getD_set {α : Type} (cs : List α) (i k : Nat) (v d : α) (hi : i < cs.length) : (cs.set i v).getD k d = if i = k then v else cs.getD k d := by
  simp only [List.getD_eq_getElem?_getD, List.getElem?_set]
  by_cases h : i = k
  · subst h
    simp [hi]
  · simp [h]
theorem getD_of {α : Type} (cs : List α) (i : Nat) (d : α) (hi : i < cs.length) : cs.getD i d = cs[i] := by
  simp [List.getD_eq_getElem?_getD, List.getElem?_eq_getElem hi]
end Go.Proofs.Ytklhbaghbmndeaa.Pure
namespace Go.Proofs.Ytklhbaghbmndeaa
open Go Go.Xw
end Go.Proofs.Ytklhbaghbmndeaa
namespace Go.Proofs.Ytklhbaghbmndeaa.Pure
open Go Go.Xw
def Bytes (l : List Int) : Prop := ∀ x ∈ l, 0 ≤ x ∧ x ≤ 255
theorem ix_nat {α : Type} [Inhabited α] {l : List α} {j : Nat} (h : j < l.length) : ix l (j : Int) = l[j] := by
  simp [ix, List.getD_eq_getElem?_getD, List.getElem?_eq_getElem h]
theorem take_next {α : Type} {l : List α} {j : Nat} (h : j < l.length) : l.take (j + 1) = l.take j ++ [l[j]] := by
  rw [List.take_add_one, List.getElem?_eq_getElem h]
  rfl
end Go.Proofs.Ytklhbaghbmndeaa.Pure
namespace Go.Proofs.Ytklhbaghbmndeaa
open Go Go.Xw
end Go.Proofs.Ytklhbaghbmndeaa
namespace Go.Proofs.Ytklhbaghbmndeaa.Pure
open Go Go.Xw
def lay (v n : Nat) : List Int := (List.range n).map fun i => ((v / 256 ^ i % 256 : Nat) : Int)
theorem lay_len (v n : Nat) : (lay v n).length = n := by simp [lay]
theorem lay_succ (v n : Nat) : lay v (n + 1) = lay v n ++ [((v / 256 ^ n % 256 : Nat) : Int)] := by
  simp [lay, List.range_succ]
theorem wu8_mod {n : Nat} : IntKind.u8.wrap (n : Int) = ((n % 256 : Nat) : Int) := by
  unfold IntKind.wrap
  simp only [IntKind.signed, IntKind.bits]
  simp
theorem shr64 (n : Nat) : shR .u64 (n : Int) 8 = ((n / 256 : Nat) : Int) := by
  unfold shR
  show Int.fdiv (n : Int) (2 ^ min ((8 : Int).toNat) 64) = _
  rw [show (2 : Int) ^ min ((8 : Int).toNat) 64 = 256 from by decide, Int.fdiv_eq_ediv_of_nonneg _ (by decide)]
  omega
theorem olay_eq {fu v n : Nat} (hn : n ≤ 8) (hf : n < fu) : octet_Lay.f fu (v : Int) (n : Int) = some (lay v n) := by
  unfold octet_Lay.f
  have h0 : ¬ ((n : Int) < 0) := by omega
  have h8 : ¬ ((n : Int) > 8) := by omega
  have hL : Int.toNat (n : Int) ≤ LIM := by
    have : (8 : Nat) ≤ LIM := by decide
    omega
  simp only [h0, h8, decide_false, Bool.false_eq_true, if_false]
  rw [if_pos ⟨by omega, hL⟩]
  have : loopM (octet_Lay.s0 fu (n : Int)) fu ((v : Int), 0, List.replicate (Int.toNat (n : Int)) (0 : Int)) = some (lay v n) := by
    refine loopM_run (S := fun j => (((v / 256 ^ j : Nat) : Int), (j : Int), lay v j ++ List.replicate (n - j) (0 : Int))) n (by simp [lay]) ?_ ?_ hf
    · intro j hj
      unfold octet_Lay.s0
      have w3 : IntKind.i64.wrap ((j : Int) + 1) = ((j + 1 : Nat) : Int) := by rw [w64 (by omega) (by omega)]; omega
      have e1 : (List.replicate (Int.toNat (n : Int)) (0 : Int)).length = n := by simp
      have e2 : (lay v j ++ List.replicate (n - j) (0 : Int)).length = n := by rw [List.length_append, lay_len, List.length_replicate]; omega
      have e3 : List.set (lay v j ++ List.replicate (n - j) (0 : Int)) (Int.toNat (j : Int)) (IntKind.u8.wrap ((v / 256 ^ j : Nat) : Int)) = lay v (j + 1) ++ List.replicate (n - (j + 1)) (0 : Int) := by
        rw [Int.toNat_natCast, List.set_append, if_neg (by rw [lay_len]; omega), lay_len, Nat.sub_self, wu8_mod, lay_succ, show n - j = n - (j + 1) + 1 from by omega, List.replicate_succ]
        simp
      have e4 : shR .u64 ((v / 256 ^ j : Nat) : Int) 8 = ((v / 256 ^ (j + 1) : Nat) : Int) := by
        rw [shr64, Nat.div_div_eq_div_mul, Nat.pow_succ]
      have h1 : (j : Int) < (n : Int) := by omega
      simp only [e1, e2, e3, e4, w3, h1, decide_true, if_true]
      rw [if_pos ⟨by omega, trivial⟩]
    · unfold octet_Lay.s0
      simp
  rw [this]
  rfl
abbrev Cell := S_pmem_cell
abbrev Dev := S_pmem_Device
def keepC (c : Cell) (w : Int) : Cell := ⟨w, c.stored, 0, false⟩
def openC (c : Cell) : Bool := c.flushed || !decide (c.stored = c.lasts)
def evict (p : Int) (cs : List Cell) : List Cell := cs.mapIdx fun i c => if 0 ≤ p ∧ (i : Int) = p % (cs.length : Int) then keepC c c.stored else c
def pick (p : S_pmem_plan) : Int := if p.list.length = 0 then -1 else ix p.list p.at_
def nextP (p : S_pmem_plan) : S_pmem_plan := if p.list.length = 0 then p else ⟨p.list, (p.at_ + 1) % (p.list.length : Int)⟩
def tick (d : Dev) : Dev := ⟨evict (pick d.plan) d.cells, nextP d.plan, if d.armed then decide (d.left - 1 = 0) else d.off, d.armed, if d.armed then d.left - 1 else d.left, d.steps + 1⟩
def mayI (off : Bool) (k n : Int) : Int := if off = true then 3 else if k < 0 ∨ k ≥ n then 2 else 0
def putC (k w : Int) (cs : List Cell) : List Cell := cs.mapIdx fun i c => if (i : Int) = k then ⟨c.lasts, w, c.sent, c.flushed⟩ else c
def sendC (c : Cell) : Cell := ⟨c.lasts, c.stored, c.stored, true⟩
def sendL (k : Int) (cs : List Cell) : List Cell := cs.mapIdx fun i c => if 8 * k ≤ (i : Int) ∧ (i : Int) < 8 * k + 8 then sendC c else c
def fenceC (c : Cell) : Cell := if c.flushed = true then keepC c c.sent else c
def withC (d : Dev) (cs : List Cell) : Dev := ⟨cs, d.plan, d.off, d.armed, d.left, d.steps⟩
def storeD (d : Dev) (k w : Int) : Int × Dev := if mayI d.off k (d.cells.length : Int) = 0 then (0, tick (withC d (putC k w d.cells))) else (mayI d.off k (d.cells.length : Int), d)
def loadD (d : Dev) (k : Int) : Int × Int := if mayI d.off k (d.cells.length : Int) = 0 then ((ix d.cells k).stored, 0) else (0, mayI d.off k (d.cells.length : Int))
def flushD (d : Dev) (k : Int) : Int × Dev := if mayI d.off k ((d.cells.length / 8 : Nat) : Int) = 0 then (0, tick (withC d (sendL k d.cells))) else (mayI d.off k ((d.cells.length / 8 : Nat) : Int), d)
def fenceD (d : Dev) : Int × Dev := if d.off = true then (3, d) else (0, tick (withC d (d.cells.map fenceC)))
def armD (d : Dev) (n : Int) : Dev := if d.off = true then d else ⟨d.cells, d.plan, decide (n = 0), decide (n ≥ 0), n, d.steps⟩
def planD (d : Dev) (l : List Int) : Dev := ⟨d.cells, ⟨l, 0⟩, d.off, d.armed, d.left, d.steps⟩
def fateC (c : Cell) (n : Int) : Int := if n % 3 = 2 then c.stored else if n % 3 = 1 ∧ c.flushed = true then c.sent else c.lasts
def opens (cs : List Cell) (i : Nat) : Nat := ((cs.take i).filter openC).length
def crashC (c : Cell) (n : Int) : Cell := if openC c = true then ⟨fateC c n, fateC c n, 0, false⟩ else ⟨c.lasts, c.lasts, c.sent, c.flushed⟩
def crashL (l : List Int) (cs : List Cell) : List Cell := cs.mapIdx fun i c => crashC c (l.getD (opens cs i) 0)
def crashD (d : Dev) (l : List Int) : Dev := ⟨crashL l d.cells, ⟨[], 0⟩, false, false, 0, d.steps⟩
def doD (d : Dev) (a : S_rickyardlaw05_Act) : (Int × Int) × Dev :=
  if a.Kind % 7 = 0 then ((0, (storeD d a.At a.W).1), (storeD d a.At a.W).2)
  else if a.Kind % 7 = 1 then (loadD d a.At, d)
  else if a.Kind % 7 = 2 then ((0, (flushD d a.At).1), (flushD d a.At).2)
  else if a.Kind % 7 = 3 then ((0, (fenceD d).1), (fenceD d).2)
  else if a.Kind % 7 = 4 then ((0, 0), armD d a.At)
  else if a.Kind % 7 = 5 then ((0, 0), planD d a.L)
  else ((0, 0), crashD d a.L)
def I64 (x : Int) : Prop := -9223372036854775808 ≤ x ∧ x ≤ 9223372036854775807
def U64 (x : Int) : Prop := 0 ≤ x ∧ x ≤ 18446744073709551615
def okC (c : Cell) : Prop := U64 c.lasts ∧ U64 c.stored ∧ U64 c.sent
structure DevOk (n : Nat) (B : Int) (d : Dev) : Prop where
  len : d.cells.length = n
  val : ∀ c ∈ d.cells, okC c
  at0 : d.plan.list.length ≠ 0 → 0 ≤ d.plan.at_ ∧ d.plan.at_ < (d.plan.list.length : Int)
  pl : d.plan.list.length ≤ 1000
  arm : d.armed = true → 0 ≤ d.left ∧ d.left ≤ 9223372036854775807 ∧ d.off = decide (d.left = 0)
  una : d.armed = false → d.off = false
  st : 0 ≤ d.steps ∧ d.steps ≤ B
theorem pnext_eq {fu : Nat} {p : S_pmem_plan} (h0 : p.list.length ≠ 0 → 0 ≤ p.at_ ∧ p.at_ < (p.list.length : Int)) (hl : p.list.length ≤ 1000) : pmem_plan_next__i0.f fu p = some (pick p, nextP p) := by
  unfold pmem_plan_next__i0.f pick nextP
  by_cases e : p.list.length = 0
  · have e' : (p.list.length : Int) = 0 := by omega
    rw [decide_eq_true e', if_pos rfl, if_pos e, if_pos e]
  · have e' : ¬ (p.list.length : Int) = 0 := by omega
    have h := h0 e
    rw [decide_eq_false e', if_neg (by decide), if_pos h, if_pos e', if_neg e, if_neg e, w64 (by omega) (by omega), Int.tmod_eq_emod_of_nonneg (by omega)]
theorem set_upd {cs : List Cell} {k : Nat} (g : Cell → Cell) (hk : k < cs.length) : cs.set k (g (ix cs (k : Int))) = cs.mapIdx fun i c => if i = k then g c else c := by
  rw [ix_nat hk]
  apply List.ext_getElem (by simp)
  intro i h1 h2
  rw [List.getElem_set, List.getElem_mapIdx]
  by_cases e : k = i
  · subst e
    simp
  · rw [if_neg e, if_neg (fun q => e q.symm)]
theorem evict_no {p : Int} (cs : List Cell) (h : ¬ 0 ≤ p) : evict p cs = cs := by
  apply List.ext_getElem (by simp [evict])
  intro i h1 h2
  simp only [evict, List.getElem_mapIdx]
  rw [if_neg fun q => h q.1]
theorem evict_nil {p : Int} : evict p [] = [] := by simp [evict]
theorem dstep_eq {fu n : Nat} {B : Int} {d : Dev} (h : DevOk n B d) (hB : B < 9223372036854775807) (ho : d.off = false) : pmem_Device_step.f fu d = some (tick d) := by
  unfold pmem_Device_step.f
  rw [pnext_eq h.at0 h.pl]
  have hs := h.st
  have w1 : IntKind.i64.wrap (d.steps + 1) = d.steps + 1 := w64 (by omega) (by omega)
  have hc : ∀ q, q = pick d.plan → ((if (if (decide (q ≥ 0)) = true then (decide ((List.length d.cells : Int) > 0)) else false) = true then (if (List.length d.cells : Int) ≠ 0 then (if 0 ≤ (Int.tmod q (List.length d.cells : Int)) ∧ (Int.tmod q (List.length d.cells : Int)) < (List.length d.cells : Int) then ((pmem_cell_keep__i0.f fu (ix d.cells (Int.tmod q (List.length d.cells : Int))) ((ix d.cells (Int.tmod q (List.length d.cells : Int))).stored) : Option S_pmem_cell).bind fun t35 => some ((List.set d.cells (Int.toNat (Int.tmod q (List.length d.cells : Int))) t35))) else none) else none) else some (d.cells)) : Option (List S_pmem_cell)) = some (evict q d.cells) := by
    intro q _
    by_cases hq : q ≥ 0
    · rw [decide_eq_true hq]
      by_cases hl : (List.length d.cells : Int) > 0
      · rw [decide_eq_true hl, Int.tmod_eq_emod_of_nonneg hq]
        have hm0 := Int.emod_nonneg q (show (List.length d.cells : Int) ≠ 0 by omega)
        have hm1 := Int.emod_lt_of_pos q hl
        have e1 : (List.length d.cells : Int) ≠ 0 := by omega
        simp only [if_true, e1, ne_eq, not_false_eq_true, hm0, hm1, and_self, pmem_cell_keep__i0.f, Option.bind_some]
        obtain ⟨k, hk⟩ : ∃ k : Nat, q % (List.length d.cells : Int) = (k : Int) := ⟨(q % (List.length d.cells : Int)).toNat, by omega⟩
        have hkl : k < d.cells.length := by omega
        rw [hk, Int.toNat_natCast]
        refine congrArg some ((set_upd (fun c => keepC c c.stored) hkl).trans ?_)
        apply List.ext_getElem (by simp [evict])
        intro i h1 h2
        simp only [evict, List.getElem_mapIdx, hk]
        by_cases e : i = k
        · rw [if_pos e, if_pos ⟨hq, by omega⟩]
        · rw [if_neg e, if_neg fun z => e (by omega)]
      · have : d.cells = [] := List.length_eq_zero_iff.1 (by omega)
        rw [this]
        simp [evict]
    · rw [evict_no _ hq, decide_eq_false hq]
      simp
  have hd : ∀ (r : List Cell), ((((if d.armed = true then some ((decide ((IntKind.i64.wrap (d.left - 1)) = 0)), (IntKind.i64.wrap (d.left - 1))) else some (d.off, d.left)) : Option (Bool × Int)).bind fun x45 => some ((⟨r, (⟨d.plan.list, (nextP d.plan).at_⟩ : S_pmem_plan), x45.1, d.armed, x45.2, (IntKind.i64.wrap (d.steps + 1))⟩ : S_pmem_Device))) : Option Dev) = some ⟨r, nextP d.plan, if d.armed then decide (d.left - 1 = 0) else d.off, d.armed, if d.armed then d.left - 1 else d.left, d.steps + 1⟩ := by
    intro r
    have hp : (⟨d.plan.list, (nextP d.plan).at_⟩ : S_pmem_plan) = nextP d.plan := by
      unfold nextP
      split <;> rfl
    rw [w1, hp]
    cases ha : d.armed
    · simp
    · have := h.arm ha
      rw [ho] at this
      have : d.left ≠ 0 := by
        intro e
        rw [e] at this
        exact absurd this.2.2 (by decide)
      rw [w64 (by omega) (by omega)]
      simp
  simp only [Option.bind_some]
  rw [hc _ rfl]
  exact hd _
theorem evict_len (p : Int) (cs : List Cell) : (evict p cs).length = cs.length := by simp [evict]
theorem keep_ok {c : Cell} {w : Int} (h : okC c) (hw : U64 w) : okC (keepC c w) := ⟨hw, h.2.1, by unfold U64; simp [keepC]⟩
theorem mapIdx_ok {cs : List Cell} {g : Nat → Cell → Cell} (h : ∀ c ∈ cs, okC c) (hg : ∀ i c, okC c → okC (g i c)) : ∀ c ∈ cs.mapIdx g, okC c := by
  intro c hc
  obtain ⟨i, hi, rfl⟩ := List.getElem_of_mem hc
  rw [List.getElem_mapIdx]
  exact hg _ _ (h _ (List.getElem_mem _))
theorem evict_ok {p : Int} {cs : List Cell} (h : ∀ c ∈ cs, okC c) : ∀ c ∈ evict p cs, okC c := by
  refine mapIdx_ok h fun i c hc => ?_
  split
  · exact keep_ok hc hc.2.1
  · exact hc
theorem tick_ok {n : Nat} {B : Int} {d : Dev} (h : DevOk n B d) (ho : d.off = false) : DevOk n (B + 1) (tick d) := by
  refine ⟨?_, ?_, ?_, ?_, ?_, ?_, ?_⟩
  · exact (evict_len _ _).trans h.len
  · exact evict_ok h.val
  · intro e
    by_cases z : d.plan.list.length = 0
    · exact absurd (by simp [tick, nextP, z]) e
    · have : (tick d).plan = ⟨d.plan.list, (d.plan.at_ + 1) % (d.plan.list.length : Int)⟩ := by simp [tick, nextP, z]
      rw [this]
      exact ⟨Int.emod_nonneg _ (by omega), Int.emod_lt_of_pos _ (by omega)⟩
  · by_cases z : d.plan.list.length = 0
    · simp [tick, nextP, z]
    · simp only [tick, nextP, z, if_false]
      exact h.pl
  · intro ha
    have ha' : d.armed = true := ha
    have := h.arm ha'
    have hl : d.left ≠ 0 := by
      intro e
      rw [e, ho] at this
      exact absurd this.2.2 (by decide)
    simp only [tick, ha', if_true]
    exact ⟨by omega, by omega, trivial⟩
  · intro ha
    have ha' : d.armed = false := ha
    simp only [tick, ha', Bool.false_eq_true, if_false]
    exact h.una ha'
  · have := h.st
    simp only [tick]
    omega
theorem DevOk.up {n : Nat} {B C : Int} {d : Dev} (h : DevOk n B d) (hc : B ≤ C) : DevOk n C d := ⟨h.len, h.val, h.at0, h.pl, h.arm, h.una, ⟨h.st.1, by have := h.st; omega⟩⟩
theorem with_ok {n : Nat} {B : Int} {d : Dev} (h : DevOk n B d) {cs : List Cell} (hl : cs.length = n) (hv : ∀ c ∈ cs, okC c) : DevOk n B (withC d cs) := ⟨hl, hv, h.at0, h.pl, h.arm, h.una, h.st⟩
end Go.Proofs.Ytklhbaghbmndeaa.Pure
