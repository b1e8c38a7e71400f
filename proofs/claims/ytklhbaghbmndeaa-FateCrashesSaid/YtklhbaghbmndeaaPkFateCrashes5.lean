/- FateCrashes: texts merged, part 5 of 6. The last part proves that the law FateCrashes holds for every input. -/
import Derived.Test.YtklhbaghbmndeaaPkFateCrashes4
import Derived.ProofKit
import Derived.OpenShut
import Derived.ChangeOld
import Derived.Below
import Derived.SizedLaws
import Derived.WalkKit
set_option maxRecDepth 100000
set_option maxHeartbeats 4000000
set_option linter.unusedVariables false
set_option linter.unusedSimpArgs false
namespace Go.Proofs.Ytklhbaghbmndeaa
open Go Go.Xw
def rickyardlaw06_made.s0 (fu : Nat) (a1 : List S_rickyardlaw05_Act) : (Int × (List S_pmem_cell) × (List Int) × Int × Bool × Bool × Int × Int × (List Int) × (List Int) × (List Int) × (List Bool) × (List Int) × Int × Int × Int) → Option (Sum ((List S_pmem_cell) × (List Int) × Int × Bool × Bool × Int × Int × (List Int) × (List Int) × (List Int) × (List Bool) × (List Int) × Int × Int × Int) (Int × (List S_pmem_cell) × (List Int) × Int × Bool × Bool × Int × Int × (List Int) × (List Int) × (List Int) × (List Bool) × (List Int) × Int × Int × Int)) := fun s64 => (if (decide (s64.1 < (List.length a1 : Int))) = true then (if 0 ≤ s64.1 ∧ s64.1 < (List.length a1 : Int) then ((rickyardlaw05_Do.f fu (⟨s64.2.1, (⟨s64.2.2.1, s64.2.2.2.1⟩ : S_pmem_plan), s64.2.2.2.2.1, s64.2.2.2.2.2.1, s64.2.2.2.2.2.2.1, s64.2.2.2.2.2.2.2.1⟩ : S_pmem_Device) (ix a1 s64.1)).bind fun t123 => (if 0 ≤ s64.1 ∧ s64.1 < (List.length a1 : Int) then ((rickyardlaw05_Refs.f fu (⟨s64.2.2.2.2.2.2.2.2.1, s64.2.2.2.2.2.2.2.2.2.1, s64.2.2.2.2.2.2.2.2.2.2.1, s64.2.2.2.2.2.2.2.2.2.2.2.1, s64.2.2.2.2.2.2.2.2.2.2.2.2.1, s64.2.2.2.2.2.2.2.2.2.2.2.2.2.1, s64.2.2.2.2.2.2.2.2.2.2.2.2.2.2.1, s64.2.2.2.2.2.2.2.2.2.2.2.2.2.2.2⟩ : S_rickyardref05_Device) (ix a1 s64.1)).bind fun t144 => some (Sum.inr ((IntKind.i64.wrap (s64.1 + 1)), t123.2.2.cells, t123.2.2.plan.list, t123.2.2.plan.at_, t123.2.2.off, t123.2.2.armed, t123.2.2.left, t123.2.2.steps, t144.2.2.Lasts, t144.2.2.Stored, t144.2.2.Sent, t144.2.2.Flushed, t144.2.2.Plan, t144.2.2.Since, t144.2.2.Left, t144.2.2.Steps))) else none)) else none) else some (Sum.inl (s64.2.1, s64.2.2.1, s64.2.2.2.1, s64.2.2.2.2.1, s64.2.2.2.2.2.1, s64.2.2.2.2.2.2.1, s64.2.2.2.2.2.2.2.1, s64.2.2.2.2.2.2.2.2.1, s64.2.2.2.2.2.2.2.2.2.1, s64.2.2.2.2.2.2.2.2.2.2.1, s64.2.2.2.2.2.2.2.2.2.2.2.1, s64.2.2.2.2.2.2.2.2.2.2.2.2.1, s64.2.2.2.2.2.2.2.2.2.2.2.2.2.1, s64.2.2.2.2.2.2.2.2.2.2.2.2.2.2.1, s64.2.2.2.2.2.2.2.2.2.2.2.2.2.2.2)))
def rickyardlaw06_made.f (fu : Nat) (a0 : Int) (a1 : List S_rickyardlaw05_Act) : Option ((Option S_pmem_Device) × (Option S_rickyardref05_Device)) := ((pmem_New.f fu (Int.tmod (IntKind.i64.wrap a0) 4)).bind fun t5 => (Option.elim t5.1 (some (none, none)) (fun m12 => ((((rickyardlaw05_Small.f fu a1 40).bind fun t26 => some ((!t26))) : Option Bool).bind fun x24 => (if x24 = true then some (none, none) else ((rickyardref05_New.f fu (Int.tmod (IntKind.i64.wrap a0) 4)).bind fun t34 => ((loopM (rickyardlaw06_made.s0 fu a1) fu (0, m12.cells, m12.plan.list, m12.plan.at_, m12.off, m12.armed, m12.left, m12.steps, t34.Lasts, t34.Stored, t34.Sent, t34.Flushed, t34.Plan, t34.Since, t34.Left, t34.Steps)).bind fun e65 => some ((some (⟨e65.1, (⟨e65.2.1, e65.2.2.1⟩ : S_pmem_plan), e65.2.2.2.1, e65.2.2.2.2.1, e65.2.2.2.2.2.1, e65.2.2.2.2.2.2.1⟩ : S_pmem_Device)), (some (⟨e65.2.2.2.2.2.2.2.1, e65.2.2.2.2.2.2.2.2.1, e65.2.2.2.2.2.2.2.2.2.1, e65.2.2.2.2.2.2.2.2.2.2.1, e65.2.2.2.2.2.2.2.2.2.2.2.1, e65.2.2.2.2.2.2.2.2.2.2.2.2.1, e65.2.2.2.2.2.2.2.2.2.2.2.2.2.1, e65.2.2.2.2.2.2.2.2.2.2.2.2.2.2⟩ : S_rickyardref05_Device))))))))))
theorem rickyardlaw06_made.ok (fu : Nat) (w : World) (a0 : Int) (a1 : List S_rickyardlaw05_Act) (V1_0 : Value) (R1_0 : RdN 4 D_rickyardlaw05_Act w V1_0 a1) (r : (Option S_pmem_Device) × (Option S_rickyardref05_Device)) (h : rickyardlaw06_made.f fu a0 a1 = some r) :
  Calls Try.prog 60 (([.int .u8 a0, V1_0] : List Value).toArray) w (fun e w' => ∃ v, e = .returned v ∧ ∃ u1 : Value, ∃ u3 : Value, ∃ p2 : (r.1 = none → u1 = .pointer none) ∧ ∀ m9, r.1 = some m9 → ∃ G9 : Nat, ∃ U0 : Value, ∃ U1 : Value, ∃ O0 : Own k_pmem_cell 142 w' w.heap.size U0 m9.cells, ∃ O1 : Own (kI .i64) 3 w' w.heap.size U1 m9.plan.list, u1 = (pt G9 0) ∧ w.heap.size ≤ G9 ∧ Blk w' G9 139 [Seg.cell U0 O0.one, Seg.cell U1 O1.one, (sI m9.plan.at_), Seg.cell (.bool m9.off), Seg.cell (.bool m9.armed), (sI m9.left), (sI m9.steps)], ∃ p4 : (r.2 = none → u3 = .pointer none) ∧ ∀ m9, r.2 = some m9 → ∃ G9 : Nat, ∃ U0 : Value, ∃ U1 : Value, ∃ U2 : Value, ∃ U3 : Value, ∃ U4 : Value, ∃ O0 : Own (kI .u64) 22 w' w.heap.size U0 m9.Lasts, ∃ O1 : Own (kI .u64) 22 w' w.heap.size U1 m9.Stored, ∃ O2 : Own (kI .u64) 22 w' w.heap.size U2 m9.Sent, ∃ O3 : Own kB 4 w' w.heap.size U3 m9.Flushed, ∃ O4 : Own (kI .i64) 3 w' w.heap.size U4 m9.Plan, ∃ A0_1 : OffV U0 U1, ∃ A0_2 : OffV U0 U2, ∃ A1_2 : OffV U1 U2, u3 = (pt G9 0) ∧ w.heap.size ≤ G9 ∧ Blk w' G9 65 [Seg.cell U0 O0.one, Seg.cell U1 O1.one, Seg.cell U2 O2.one, Seg.cell U3 O3.one, Seg.cell U4 O4.one, (sI m9.Since), (sI m9.Left), (sI m9.Steps)], v = .tuple #[u1, u3] ∧ Gr w w') := by
 unfold rickyardlaw06_made.f at h
 have fB : Gr w w := Fr.refl _ _
 refine calls_cw Try.func60 rfl Try.ntmps60 rfl ?_
 refine cw_seq ?_
 refine cw_region ?_
 refine ol_val (v := .pointer none) (xr_assign rfl rfl) rfl rfl rfl ?_
 refine ol_val (v := .pointer none) (xr_assign rfl rfl) rfl rfl rfl ?_
 refine ol_nil ?_
 refine cw_seq ?_
 refine cw_region ?_
 refine ol_val (v := .int .u8 a0) (xr_move rfl rfl) rfl rfl rfl ?_
 refine ol_val (v := .int .i64 (IntKind.i64.wrap a0)) (xr_conv rfl Try.underlying5 Try.underlying3 rfl) rfl rfl rfl ?_
 refine ol_val (v := .int .i64 (Int.tmod (IntKind.i64.wrap a0) 4)) (xr_rem rfl rfl rfl (by decide)) rfl rfl rfl ?_
 refine ol_val (v := .int .i64 (Int.tmod (IntKind.i64.wrap a0) 4)) (xr_assign rfl rfl) rfl rfl rfl ?_
 refine ol_nil ?_
 refine cw_seq ?_
 refine cw_region ?_
 refine ol_val (v := .int .i64 (Int.tmod (IntKind.i64.wrap a0) 4)) (xr_move rfl rfl) rfl rfl rfl ?_
 obtain ⟨t5, k6, h⟩ := bs h
 refine ol_op (opv_call rfl cal26 (ac rfl an) (pmem_New.ok fu _ (Int.tmod (IntKind.i64.wrap a0) 4) _ k6)) rfl rfl rfl ?_
 rintro _ w10 ⟨u7, p8, rfl, q9⟩
 rcases en h with ⟨e11, h⟩ | ⟨m12, e11, h⟩
 ·obtain rfl := p8.1 e11
  have fB := fB.gr q9
  refine ol_val (v := .tuple #[.pointer none, .int .i64 t5.2]) (xr_move rfl rfl) rfl rfl rfl ?_
  refine ol_val (v := .pointer none) (xr_extract rfl rfl rfl) rfl rfl rfl ?_
  refine ol_val (v := .int .i64 t5.2) (xr_extract rfl rfl rfl) rfl rfl rfl ?_
  refine ol_val (v := .pointer none) (xr_assign rfl rfl) rfl rfl rfl ?_
  refine ol_val (v := .int .i64 t5.2) (xr_assign rfl rfl) rfl rfl rfl ?_
  refine ol_nil ?_
  refine cw_seq ?_
  refine cw_seq ?_
  refine cw_mid (fun ρ' w' => ρ' 1 = V1_0 ∧ ρ' 6 = .int .i64 (Int.tmod (IntKind.i64.wrap a0) 4) ∧ ρ' 7 = .pointer none ∧ ρ' 25 = .bool true ∧ w10 = w') ?_ ?_
  ·skip
   refine cw_region ?_
   refine ol_val (v := .pointer none) (xr_move rfl rfl) rfl rfl rfl ?_
   refine ol_val (v := .bool true) (xr_eqP (b := true) rfl Try.underlying30 rfl rfl (by simp) (by simp)) rfl rfl rfl ?_
   refine ol_val (v := .bool true) (xr_move rfl rfl) rfl rfl rfl ?_
   refine ol_gskip rfl rfl rfl rfl rfl rfl ?_
   refine ol_gskip rfl rfl rfl rfl rfl rfl ?_
   refine ol_gskip rfl rfl rfl rfl rfl rfl ?_
   refine ol_val (v := .bool true) (xr_pickT rfl rfl rfl rfl) rfl rfl rfl ?_
   refine ol_nil ?_
   refine thn_i ?_
   exact ⟨rfl, rfl, rfl, rfl, rfl⟩
  rintro ρ13 _ ⟨e1, e6, e7, e25, rfl⟩
  refine cw_condT e25 rfl ?_
  refine cw_seq ?_
  refine cw_region ?_
  refine ol_val (v := .pointer none) (xr_assign rfl rfl) rfl rfl rfl ?_
  refine ol_val (v := .pointer none) (xr_assign rfl rfl) rfl rfl rfl ?_
  refine ol_nil ?_
  refine cw_ret ?_
  repeat (first | with_reducible refine thn_r ?_ | with_reducible refine blk_r ?_)
  obtain rfl := Option.some.inj h
  refine fin_ret2 Try.results60 rfl rfl ?_
  exact ⟨_, rfl, (.pointer none), (.pointer none), ⟨(fun _ => rfl), (fun _ e => by cases e)⟩, ⟨(fun _ => rfl), (fun _ e => by cases e)⟩, rfl, fB⟩
 obtain ⟨G14, u18, u21, o19, o22, rfl, z15, b16⟩ := p8.2 _ e11
 have o19 := Own.base o19 fB.size
 have o22 := Own.base o22 fB.size
 have z15 := Nat.le_trans fB.size z15
 have fB := fB.gr q9
 refine ol_val (v := .tuple #[(pt G14 0), .int .i64 t5.2]) (xr_move rfl rfl) rfl rfl rfl ?_
 refine ol_val (v := (pt G14 0)) (xr_extract rfl rfl rfl) rfl rfl rfl ?_
 refine ol_val (v := .int .i64 t5.2) (xr_extract rfl rfl rfl) rfl rfl rfl ?_
 refine ol_val (v := (pt G14 0)) (xr_assign rfl rfl) rfl rfl rfl ?_
 refine ol_val (v := .int .i64 t5.2) (xr_assign rfl rfl) rfl rfl rfl ?_
 refine ol_nil ?_
 refine cw_seq ?_
 refine cw_seq ?_
 obtain ⟨x24, j25, h⟩ := bs h
 refine cw_mid (fun ρ' w' => ρ' 1 = V1_0 ∧ ρ' 6 = .int .i64 (Int.tmod (IntKind.i64.wrap a0) 4) ∧ ρ' 7 = (pt G14 0) ∧ ρ' 25 = .bool x24 ∧ Gr w10 w') ?_ ?_
 ·skip
  refine cw_region ?_
  refine ol_val (v := (pt G14 0)) (xr_move rfl rfl) rfl rfl rfl ?_
  refine ol_val (v := .bool false) (xr_eqP (b := false) rfl Try.underlying30 rfl rfl (by simp) (by simp)) rfl rfl rfl ?_
  refine ol_val (v := .bool false) (xr_move rfl rfl) rfl rfl rfl ?_
  refine ol_gval (v := V1_0) (xr_move rfl rfl) rfl rfl rfl rfl rfl rfl ?_
  obtain ⟨t26, k27, j25⟩ := bs j25
  refine ol_gop (opv_call rfl cal25 (ac rfl (ac rfl an)) (rickyardlaw05_Small.ok fu _ a1 V1_0 (RdN.gr R1_0 D_rickyardlaw05_Act.gr fB) 40 _ k27)) rfl rfl rfl rfl rfl rfl ?_
  rintro _ w29 ⟨rfl, q28⟩
  have b16 := b16.gr q28
  have o19 := o19.gr q28
  have o22 := o22.gr q28
  have fB := fB.gr q28
  refine ol_gval (v := .bool (!t26)) (xr_not rfl rfl) rfl rfl rfl rfl rfl rfl ?_
  refine ol_val (v := .bool (!t26)) (xr_pickF rfl rfl rfl rfl) rfl rfl rfl ?_
  refine ol_nil ?_
  obtain rfl := Option.some.inj j25
  refine thn_i ?_
  exact ⟨rfl, rfl, rfl, rfl, q28⟩
 rintro ρ30 w31 ⟨e1, e6, e7, e25, q32⟩
 have b16 := b16.gr q32
 have o19 := o19.gr q32
 have o22 := o22.gr q32
 have fB := fB.gr q32
 rcases is h with ⟨c33, h⟩ | ⟨c33, h⟩
 ·refine cw_condT e25 c33 ?_
  refine cw_seq ?_
  refine cw_region ?_
  refine ol_val (v := .pointer none) (xr_assign rfl rfl) rfl rfl rfl ?_
  refine ol_val (v := .pointer none) (xr_assign rfl rfl) rfl rfl rfl ?_
  refine ol_nil ?_
  refine cw_ret ?_
  repeat (first | with_reducible refine thn_r ?_ | with_reducible refine blk_r ?_)
  obtain rfl := Option.some.inj h
  refine fin_ret2 Try.results60 rfl rfl ?_
  exact ⟨_, rfl, (.pointer none), (.pointer none), ⟨(fun _ => rfl), (fun _ e => by cases e)⟩, ⟨(fun _ => rfl), (fun _ e => by cases e)⟩, rfl, fB⟩
 refine cw_condF e25 c33 ?_
 refine cw_skip ?_
 refine cw_seq ?_
 refine cw_region ?_
 refine ol_val (v := .int .i64 (Int.tmod (IntKind.i64.wrap a0) 4)) (xr_move rfl e6) rfl rfl rfl ?_
 obtain ⟨t34, k35, h⟩ := bs h
 refine ol_op (opv_call rfl cal44 (ac rfl an) (rickyardref05_New.ok fu _ (Int.tmod (IntKind.i64.wrap a0) 4) _ k35)) rfl rfl rfl ?_
 rintro u36 w39 ⟨_, p37, rfl, q38⟩
 obtain ⟨G40, u44, u47, u50, u53, u56, o45, o48, o51, o54, o57, a59, a60, a61, rfl, z41, b42⟩ := p37
 have a62 := OffV.call o22 o57
 have o45 := Own.base o45 fB.size
 have o48 := Own.base o48 fB.size
 have o51 := Own.base o51 fB.size
 have o54 := Own.base o54 fB.size
 have o57 := Own.base o57 fB.size
 have n63 := b16.ne z41
 have z41 := Nat.le_trans fB.size z41
 have b16 := b16.gr q38
 have o19 := o19.gr q38
 have o22 := o22.gr q38
 have fB := fB.gr q38
 refine ol_val (v := (pt G40 0)) (xr_assign rfl rfl) rfl rfl rfl ?_
 refine ol_nil ?_
 refine cw_seq ?_
 refine cw_seq ?_
 refine cw_region ?_
 refine ol_val (v := .int .i64 0) (xr_assign rfl rfl) rfl rfl rfl ?_
 refine ol_nil ?_
 obtain ⟨e65, l66, h67⟩ := bs h
 refine cw_mid (fun ρ' w' => ∃ v68 : Value, ∃ v71 : Value, ∃ v74 : Value, ∃ v77 : Value, ∃ v80 : Value, ∃ v83 : Value, ∃ v86 : Value, ∃ o69 : Own k_pmem_cell 142 w' w.heap.size v68 e65.1, ∃ o72 : Own (kI .i64) 3 w' w.heap.size v71 e65.2.1, ∃ o75 : Own (kI .u64) 22 w' w.heap.size v74 e65.2.2.2.2.2.2.2.1, ∃ o78 : Own (kI .u64) 22 w' w.heap.size v77 e65.2.2.2.2.2.2.2.2.1, ∃ o81 : Own (kI .u64) 22 w' w.heap.size v80 e65.2.2.2.2.2.2.2.2.2.1, ∃ o84 : Own kB 4 w' w.heap.size v83 e65.2.2.2.2.2.2.2.2.2.2.1, ∃ o87 : Own (kI .i64) 3 w' w.heap.size v86 e65.2.2.2.2.2.2.2.2.2.2.2.1, OffV v71 v86 ∧ OffV v74 v77 ∧ OffV v74 v80 ∧ OffV v77 v80 ∧ ρ' 7 = (pt G14 0) ∧ ρ' 9 = (pt G40 0) ∧ Blk w' G14 139 [Seg.cell v68 o69.one, Seg.cell v71 o72.one, (sI e65.2.2.1), Seg.cell (.bool e65.2.2.2.1), Seg.cell (.bool e65.2.2.2.2.1), (sI e65.2.2.2.2.2.1), (sI e65.2.2.2.2.2.2.1)] ∧ Blk w' G40 65 [Seg.cell v74 o75.one, Seg.cell v77 o78.one, Seg.cell v80 o81.one, Seg.cell v83 o84.one, Seg.cell v86 o87.one, (sI e65.2.2.2.2.2.2.2.2.2.2.2.2.1), (sI e65.2.2.2.2.2.2.2.2.2.2.2.2.2.1), (sI e65.2.2.2.2.2.2.2.2.2.2.2.2.2.2)] ∧ Gr w w') ?_ ?_
 ·refine cw_block ?_
  refine cw_round (fun (s64 : Int × (List S_pmem_cell) × (List Int) × Int × Bool × Bool × Int × Int × (List Int) × (List Int) × (List Int) × (List Bool) × (List Int) × Int × Int × Int) ρ' w' => ∃ v93 : Value, ∃ v96 : Value, ∃ v99 : Value, ∃ v102 : Value, ∃ v105 : Value, ∃ v108 : Value, ∃ v111 : Value, ∃ o94 : Own k_pmem_cell 142 w' w.heap.size v93 s64.2.1, ∃ o97 : Own (kI .i64) 3 w' w.heap.size v96 s64.2.2.1, ∃ o100 : Own (kI .u64) 22 w' w.heap.size v99 s64.2.2.2.2.2.2.2.2.1, ∃ o103 : Own (kI .u64) 22 w' w.heap.size v102 s64.2.2.2.2.2.2.2.2.2.1, ∃ o106 : Own (kI .u64) 22 w' w.heap.size v105 s64.2.2.2.2.2.2.2.2.2.2.1, ∃ o109 : Own kB 4 w' w.heap.size v108 s64.2.2.2.2.2.2.2.2.2.2.2.1, ∃ o112 : Own (kI .i64) 3 w' w.heap.size v111 s64.2.2.2.2.2.2.2.2.2.2.2.2.1, OffV v96 v111 ∧ OffV v99 v102 ∧ OffV v99 v105 ∧ OffV v102 v105 ∧ ρ' 1 = V1_0 ∧ ρ' 7 = (pt G14 0) ∧ ρ' 9 = (pt G40 0) ∧ ρ' 10 = .int .i64 s64.1 ∧ Blk w' G14 139 [Seg.cell v93 o94.one, Seg.cell v96 o97.one, (sI s64.2.2.2.1), Seg.cell (.bool s64.2.2.2.2.1), Seg.cell (.bool s64.2.2.2.2.2.1), (sI s64.2.2.2.2.2.2.1), (sI s64.2.2.2.2.2.2.2.1)] ∧ Blk w' G40 65 [Seg.cell v99 o100.one, Seg.cell v102 o103.one, Seg.cell v105 o106.one, Seg.cell v108 o109.one, Seg.cell v111 o112.one, (sI s64.2.2.2.2.2.2.2.2.2.2.2.2.2.1), (sI s64.2.2.2.2.2.2.2.2.2.2.2.2.2.2.1), (sI s64.2.2.2.2.2.2.2.2.2.2.2.2.2.2.2)] ∧ Gr w w') l66 ?_ ?_
  ·skip
   exact ⟨u18, u21, u44, u47, u50, u53, u56, o19, o22, o45, o48, o51, o54, o57, a62, a59, a60, a61, e1, e7, rfl, rfl, b16, b42, fB⟩
  rintro s64 x120 ρ118 w119 ⟨v93, v96, v99, v102, v105, v108, v111, o94, o97, o100, o103, o106, o109, o112, a114, a115, a116, a117, e1, e7, e9, e10, b16, b42, fB⟩ h
  unfold rickyardlaw06_made.s0 at h
  refine cw_seq ?_
  refine cw_seq ?_
  refine cw_region ?_
  refine ol_val (v := .int .i64 s64.1) (xr_move rfl e10) rfl rfl rfl ?_
  refine ol_val (v := V1_0) (xr_move rfl e1) rfl rfl rfl ?_
  refine ol_val (v := .int .i64 (List.length a1 : Int)) (xr_lenN rfl Try.underlying24 rfl (RdN.gr R1_0 D_rickyardlaw05_Act.gr fB)) rfl rfl rfl ?_
  refine ol_val (v := .bool (decide (s64.1 < (List.length a1 : Int)))) (xr_lss rfl rfl rfl) rfl rfl rfl ?_
  refine ol_nil ?_
  rcases is h with ⟨c121, h⟩ | ⟨c121, h⟩
  ·refine cw_condT rfl c121 ?_
   refine cw_skip ?_
   refine cw_seq ?_
   refine cw_block ?_
   refine cw_seq ?_
   refine cw_region ?_
   refine ol_val (v := (pt G14 0)) (xr_move rfl e7) rfl rfl rfl ?_
   refine ol_val (v := V1_0) (xr_move rfl e1) rfl rfl rfl ?_
   refine ol_val (v := .int .i64 s64.1) (xr_move rfl e10) rfl rfl rfl ?_
   obtain ⟨g122, h⟩ := gs h
   refine ol_val (v := (pt ((sb V1_0)) (so V1_0 + Int.toNat s64.1 * 4))) (xr_indexN (v := V1_0) rfl Try.underlying24 sz39 rfl (RdN.gr R1_0 D_rickyardlaw05_Act.gr fB) rfl g122.1 g122.2) rfl rfl rfl ?_
   refine ol_val (v := aggV [(sI ((ix a1 s64.1).Kind)), (sI ((ix a1 s64.1).At)), Seg.cell (.int .u64 ((ix a1 s64.1).W)), Seg.cell (cellAt w (sb V1_0) (so V1_0 + Int.toNat s64.1 * 4 + 3)) (N_rickyardlaw05_Act R1_0 g122.1 g122.2).2.one]) (xr_loadS (ss := [(sI ((ix a1 s64.1).Kind)), (sI ((ix a1 s64.1).At)), Seg.cell (.int .u64 ((ix a1 s64.1).W)), Seg.cell (cellAt w (sb V1_0) (so V1_0 + Int.toNat s64.1 * 4 + 3)) (N_rickyardlaw05_Act R1_0 g122.1 g122.2).2.one]) rfl ag39 sz39 rfl rfl (At.gr (N_rickyardlaw05_Act R1_0 g122.1 g122.2).1 fB)) rfl rfl rfl ?_
   obtain ⟨t123, k124, h⟩ := bs h
   have f134 := (nb_or n63.symm (nb_or (nb_off (off_ty b42 o94 (by decide))) (nb_off (off_ty b42 o97 (by decide)))))
   have f135 := (vo_or (vo_eq (off_ty b16 o100 (by decide))) (vo_or (vo_own (OffV.ty o100 o94 (by decide))) (vo_own (OffV.ty o100 o97 (by decide)))))
   have f136 := (vo_or (vo_eq (off_ty b16 o103 (by decide))) (vo_or (vo_own (OffV.ty o103 o94 (by decide))) (vo_own (OffV.ty o103 o97 (by decide)))))
   have f137 := (vo_or (vo_eq (off_ty b16 o106 (by decide))) (vo_or (vo_own (OffV.ty o106 o94 (by decide))) (vo_own (OffV.ty o106 o97 (by decide)))))
   have f138 := (vo_or (vo_eq (off_ty b16 o109 (by decide))) (vo_or (vo_own (OffV.ty o109 o94 (by decide))) (vo_own (OffV.ty o109 o97 (by decide)))))
   have f139 := (vo_or (vo_eq (off_ty b16 o112 (by decide))) (vo_or (vo_own (OffV.ty o112 o94 (by decide))) (vo_own a114.symm)))
   have c140 : ∀ k, (k = G14 ∨ some k = Value.ownBlock v93 ∨ some k = Value.ownBlock v96) → w.heap.size ≤ k := (cv_or (cv_eq z15) (cv_or (cv_own o94.geO) (cv_own o97.geO)))
   refine ol_op (opv_call rfl cal31 (ac rfl (ac rfl an)) (rickyardlaw05_Do.ok fu _ (⟨s64.2.1, (⟨s64.2.2.1, s64.2.2.2.1⟩ : S_pmem_plan), s64.2.2.2.2.1, s64.2.2.2.2.2.1, s64.2.2.2.2.2.2.1, s64.2.2.2.2.2.2.2.1⟩ : S_pmem_Device) G14 v93 (Own.base o94 (Nat.zero_le _)) v96 (Own.base o97 (Nat.zero_le _)) b16 (ix a1 s64.1) (cellAt w (sb V1_0) (so V1_0 + Int.toNat s64.1 * 4 + 3)) ((N_rickyardlaw05_Act R1_0 g122.1 g122.2).2.gr fB) (OffR.new (N_rickyardlaw05_Act R1_0 g122.1 g122.2).2 z15 rfl) (OffRV.call (N_rickyardlaw05_Act R1_0 g122.1 g122.2).2 o94 rfl) (OffRV.call (N_rickyardlaw05_Act R1_0 g122.1 g122.2).2 o97 rfl) _ k124)) rfl rfl rfl ?_
   rintro _ w141 ⟨u126, u130, o127, m128, o131, m132, rfl, b16, q125⟩
   have a142 := ov_new o112 f139 m132
   have o127 := Own.rebase o127 (fun g hg => (m128 g hg).elim (fun x => Nat.le_trans fB.size x) (c140 g))
   have o131 := Own.rebase o131 (fun g hg => (m132 g hg).elim (fun x => Nat.le_trans fB.size x) (c140 g))
   have b42 := b42.fr q125 f134
   have o100 := o100.fr q125 f135
   have o103 := o103.fr q125 f136
   have o106 := o106.fr q125 f137
   have o109 := o109.fr q125 f138
   have o112 := o112.fr q125 f139
   have fB := fB.call q125 (fun k h => .inl (c140 k h))
   refine ol_nil ?_
   refine cw_region ?_
   refine ol_val (v := (pt G40 0)) (xr_move rfl e9) rfl rfl rfl ?_
   refine ol_val (v := V1_0) (xr_move rfl e1) rfl rfl rfl ?_
   refine ol_val (v := .int .i64 s64.1) (xr_move rfl e10) rfl rfl rfl ?_
   obtain ⟨g143, h⟩ := gs h
   refine ol_val (v := (pt ((sb V1_0)) (so V1_0 + Int.toNat s64.1 * 4))) (xr_indexN (v := V1_0) rfl Try.underlying24 sz39 rfl (RdN.gr R1_0 D_rickyardlaw05_Act.gr fB) rfl g143.1 g143.2) rfl rfl rfl ?_
   refine ol_val (v := aggV [(sI ((ix a1 s64.1).Kind)), (sI ((ix a1 s64.1).At)), Seg.cell (.int .u64 ((ix a1 s64.1).W)), Seg.cell (cellAt w (sb V1_0) (so V1_0 + Int.toNat s64.1 * 4 + 3)) (N_rickyardlaw05_Act R1_0 g143.1 g143.2).2.one]) (xr_loadS (ss := [(sI ((ix a1 s64.1).Kind)), (sI ((ix a1 s64.1).At)), Seg.cell (.int .u64 ((ix a1 s64.1).W)), Seg.cell (cellAt w (sb V1_0) (so V1_0 + Int.toNat s64.1 * 4 + 3)) (N_rickyardlaw05_Act R1_0 g143.1 g143.2).2.one]) rfl ag39 sz39 rfl rfl (At.gr (N_rickyardlaw05_Act R1_0 g143.1 g143.2).1 fB)) rfl rfl rfl ?_
   obtain ⟨t144, k145, h⟩ := bs h
   have f170 := (nb_or n63 (nb_or (nb_off (off_ty b16 o100 (by decide))) (nb_or (nb_off (off_ty b16 o103 (by decide))) (nb_or (nb_off (off_ty b16 o106 (by decide))) (nb_or (nb_off (off_ty b16 o109 (by decide))) (nb_off (off_ty b16 o112 (by decide))))))))
   have f171 := (vo_or (vo_eq (off_ty b42 o127 (by decide))) (vo_or (vo_own (OffV.ty o127 o100 (by decide))) (vo_or (vo_own (OffV.ty o127 o103 (by decide))) (vo_or (vo_own (OffV.ty o127 o106 (by decide))) (vo_or (vo_own (OffV.ty o127 o109 (by decide))) (vo_own (OffV.ty o127 o112 (by decide))))))))
   have f172 := (vo_or (vo_eq (off_ty b42 o131 (by decide))) (vo_or (vo_own (OffV.ty o131 o100 (by decide))) (vo_or (vo_own (OffV.ty o131 o103 (by decide))) (vo_or (vo_own (OffV.ty o131 o106 (by decide))) (vo_or (vo_own (OffV.ty o131 o109 (by decide))) (vo_own a142.symm))))))
   have c173 : ∀ k, (k = G40 ∨ some k = Value.ownBlock v99 ∨ some k = Value.ownBlock v102 ∨ some k = Value.ownBlock v105 ∨ some k = Value.ownBlock v108 ∨ some k = Value.ownBlock v111) → w.heap.size ≤ k := (cv_or (cv_eq z41) (cv_or (cv_own o100.geO) (cv_or (cv_own o103.geO) (cv_or (cv_own o106.geO) (cv_or (cv_own o109.geO) (cv_own o112.geO))))))
   refine ol_op (opv_call rfl cal45 (ac rfl (ac rfl an)) (rickyardlaw05_Refs.ok fu _ (⟨s64.2.2.2.2.2.2.2.2.1, s64.2.2.2.2.2.2.2.2.2.1, s64.2.2.2.2.2.2.2.2.2.2.1, s64.2.2.2.2.2.2.2.2.2.2.2.1, s64.2.2.2.2.2.2.2.2.2.2.2.2.1, s64.2.2.2.2.2.2.2.2.2.2.2.2.2.1, s64.2.2.2.2.2.2.2.2.2.2.2.2.2.2.1, s64.2.2.2.2.2.2.2.2.2.2.2.2.2.2.2⟩ : S_rickyardref05_Device) G40 v99 (Own.base o100 (Nat.zero_le _)) v102 (Own.base o103 (Nat.zero_le _)) v105 (Own.base o106 (Nat.zero_le _)) v108 (Own.base o109 (Nat.zero_le _)) v111 (Own.base o112 (Nat.zero_le _)) b42 (ix a1 s64.1) (cellAt w (sb V1_0) (so V1_0 + Int.toNat s64.1 * 4 + 3)) ((N_rickyardlaw05_Act R1_0 g143.1 g143.2).2.gr fB) a115 a116 a117 (OffR.new (N_rickyardlaw05_Act R1_0 g143.1 g143.2).2 z41 rfl) (OffRV.call (N_rickyardlaw05_Act R1_0 g143.1 g143.2).2 o100 rfl) (OffRV.call (N_rickyardlaw05_Act R1_0 g143.1 g143.2).2 o103 rfl) (OffRV.call (N_rickyardlaw05_Act R1_0 g143.1 g143.2).2 o106 rfl) (OffRV.call (N_rickyardlaw05_Act R1_0 g143.1 g143.2).2 o109 rfl) (OffRV.call (N_rickyardlaw05_Act R1_0 g143.1 g143.2).2 o112 rfl) _ k145)) rfl rfl rfl ?_
   rintro _ w174 ⟨u147, u151, u155, u159, u163, o148, m149, o152, m153, o156, m157, o160, m161, o164, m165, a167, a168, a169, rfl, b42, q146⟩
   have a175 := ov_new o131 f172 m165
   have o148 := Own.rebase o148 (fun g hg => (m149 g hg).elim (fun x => Nat.le_trans fB.size x) (c173 g))
   have o152 := Own.rebase o152 (fun g hg => (m153 g hg).elim (fun x => Nat.le_trans fB.size x) (c173 g))
   have o156 := Own.rebase o156 (fun g hg => (m157 g hg).elim (fun x => Nat.le_trans fB.size x) (c173 g))
   have o160 := Own.rebase o160 (fun g hg => (m161 g hg).elim (fun x => Nat.le_trans fB.size x) (c173 g))
   have o164 := Own.rebase o164 (fun g hg => (m165 g hg).elim (fun x => Nat.le_trans fB.size x) (c173 g))
   have b16 := b16.fr q146 f170
   have o127 := o127.fr q146 f171
   have o131 := o131.fr q146 f172
   have fB := fB.call q146 (fun k h => .inl (c173 k h))
   refine ol_nil ?_
   refine blk_i ?_
   refine cw_region ?_
   refine ol_val (v := .int .i64 s64.1) (xr_move rfl e10) rfl rfl rfl ?_
   refine ol_val (v := .int .i64 (IntKind.i64.wrap (s64.1 + 1))) (xr_add rfl rfl rfl) rfl rfl rfl ?_
   refine ol_val (v := .int .i64 (IntKind.i64.wrap (s64.1 + 1))) (xr_assign rfl rfl) rfl rfl rfl ?_
   refine ol_nil ?_
   obtain rfl := Option.some.inj h
   refine lp_in ?_
   exact ⟨u126, u130, u147, u151, u155, u159, u163, o127, o131, o148, o152, o156, o160, o164, a175, a167, a168, a169, e1, e7, e9, rfl, b16, b42, fB⟩
  refine cw_condF rfl c121 ?_
  refine cw_exit ?_
  repeat (first | with_reducible refine thn_e ?_ | with_reducible refine blk_e rfl ?_)
  obtain rfl := Option.some.inj h
  refine lp_exit ?_
  rintro rfl
  refine thn_x ?_
  exact ⟨v93, v96, v99, v102, v105, v108, v111, o94, o97, o100, o103, o106, o109, o112, a114, a115, a116, a117, e7, e9, b16, b42, fB⟩
 rintro ρ176 w177 ⟨v68, v71, v74, v77, v80, v83, v86, o69, o72, o75, o78, o81, o84, o87, a89, a90, a91, a92, e7, e9, b16, b42, fB⟩
 have h := h67
 refine cw_seq ?_
 refine cw_region ?_
 refine ol_val (v := (pt G14 0)) (xr_move rfl e7) rfl rfl rfl ?_
 refine ol_val (v := (pt G40 0)) (xr_move rfl e9) rfl rfl rfl ?_
 refine ol_val (v := (pt G14 0)) (xr_assign rfl rfl) rfl rfl rfl ?_
 refine ol_val (v := (pt G40 0)) (xr_assign rfl rfl) rfl rfl rfl ?_
 refine ol_nil ?_
 refine cw_ret ?_
 repeat (first | with_reducible refine thn_r ?_ | with_reducible refine blk_r ?_)
 obtain rfl := Option.some.inj h
 refine fin_ret2 Try.results60 rfl rfl ?_
 exact ⟨_, rfl, ((pt G14 0)), ((pt G40 0)), ⟨(fun e => by cases e), (fun _ e => by obtain rfl := Option.some.inj e; exact ⟨G14, v68, v71, o69, o72, rfl, z15, b16⟩)⟩, ⟨(fun e => by cases e), (fun _ e => by obtain rfl := Option.some.inj e; exact ⟨G40, v74, v77, v80, v83, v86, o75, o78, o81, o84, o87, a90, a91, a92, rfl, z41, b42⟩)⟩, rfl, fB⟩
def fate_May.f (fu : Nat) (a0 : S_pmem_Device) (a1 : List Int) : Option Bool := ((fate_Choose.f fu a0 a1).bind fun t1 => some (t1.2))
theorem fate_May.ok (fu : Nat) (w : World) (a0 : S_pmem_Device) (G_0 : Nat) (V0_0 : Value) (R0_0 : Rd k_pmem_cell w V0_0 a0.cells) (V0_1 : Value) (R0_1 : Rd (kI .i64) w V0_1 a0.plan.list) (b_0 : Blk w G_0 139 [Seg.cell V0_0 R0_0.one, Seg.cell V0_1 R0_1.one, (sI a0.plan.at_), Seg.cell (.bool a0.off), Seg.cell (.bool a0.armed), (sI a0.left), (sI a0.steps)]) (a1 : List Int) (V1_0 : Value) (R1_0 : Rd (kI .u8) w V1_0 a1) (r : Bool) (h : fate_May.f fu a0 a1 = some r) :
  Calls Try.prog 65 (([(pt G_0 0), V1_0] : List Value).toArray) w (fun e w' => ∃ v, e = .returned v ∧ v = .bool r ∧ Gr w w') := by
 unfold fate_May.f at h
 have fB : Gr w w := Fr.refl _ _
 refine calls_cw Try.func65 rfl Try.ntmps65 rfl ?_
 refine cw_seq ?_
 refine cw_region ?_
 refine ol_val (v := .bool false) (xr_assign rfl rfl) rfl rfl rfl ?_
 refine ol_nil ?_
 refine cw_seq ?_
 refine cw_region ?_
 refine ol_val (v := (pt G_0 0)) (xr_move rfl rfl) rfl rfl rfl ?_
 refine ol_val (v := V1_0) (xr_move rfl rfl) rfl rfl rfl ?_
 obtain ⟨t1, k2, h⟩ := bs h
 refine ol_op (opv_call rfl cal63 (ac rfl (ac rfl an)) (fate_Choose.ok fu _ a0 G_0 V0_0 (R0_0.gr fB) V0_1 (R0_1.gr fB) b_0 a1 V1_0 (R1_0.gr fB) _ k2)) rfl rfl rfl ?_
 rintro _ w7 ⟨u3, o4, rfl, q6⟩
 have o4 := Own.base o4 fB.size
 have b_0 := b_0.gr q6
 have fB := fB.gr q6
 refine ol_val (v := .tuple #[u3, .bool t1.2]) (xr_move rfl rfl) rfl rfl rfl ?_
 refine ol_val (v := u3) (xr_extract rfl rfl rfl) rfl rfl rfl ?_
 refine ol_val (v := .bool t1.2) (xr_extract rfl rfl rfl) rfl rfl rfl ?_
 refine ol_val (v := u3) (xr_assign rfl rfl) rfl rfl rfl ?_
 refine ol_val (v := .bool t1.2) (xr_assign rfl rfl) rfl rfl rfl ?_
 refine ol_nil ?_
 refine cw_seq ?_
 refine cw_region ?_
 refine ol_val (v := .bool t1.2) (xr_move rfl rfl) rfl rfl rfl ?_
 refine ol_val (v := .bool t1.2) (xr_assign rfl rfl) rfl rfl rfl ?_
 refine ol_nil ?_
 refine cw_ret ?_
 repeat (first | with_reducible refine thn_r ?_ | with_reducible refine blk_r ?_)
 obtain rfl := Option.some.inj h
 refine fin_ret1 Try.results65 rfl ?_
 exact ⟨_, rfl, rfl, fB⟩
def slices_Clone_2.f (fu : Nat) (a0 : List Int) : Option (List Int) := (if List.length a0 ≤ LIM then some a0 else none)
theorem slices_Clone_2.ok (fu : Nat) (w : World) (a0 : List Int) (V0_0 : Value) (R0_0 : Rd (kI .u8) w V0_0 a0) (r : List Int) (h : slices_Clone_2.f fu a0 = some r) :
  Calls Try.prog 111 (([V0_0] : List Value).toArray) w (fun e w' => ∃ v, e = .returned v ∧ ∃ u1 : Value, ∃ o2 : Own (kI .u8) 5 w' w.heap.size u1 r, v = u1 ∧ Gr w w') := by
 unfold slices_Clone_2.f at h
 obtain ⟨g, h⟩ := gs h
 obtain rfl := Option.some.inj h
 have fB : Gr w w := Fr.refl _ _
 refine calls_cw Try.func111 rfl Try.ntmps111 rfl ?_
 refine cw_seq ?_
 refine cw_region ?_
 refine ol_val (v := .slice none 0 0) (xr_assign rfl rfl) rfl rfl rfl ?_
 refine ol_nil ?_
 refine cw_seq ?_
 refine cw_seq ?_
 refine cw_region ?_
 refine ol_val (v := V0_0) (xr_move rfl rfl) rfl rfl rfl ?_
 refine ol_val (v := .bool (isNilV V0_0)) (xr_eqNil rfl Try.underlying43 rfl rfl R0_0) rfl rfl rfl ?_
 refine ol_nil ?_
 rcases bt (isNilV V0_0) with c | c
 ·refine cw_condT rfl c ?_
  obtain rfl := R0_0.isNil c
  refine cw_seq ?_
  refine cw_region ?_
  refine ol_val (v := .slice none 0 0) (xr_assign rfl rfl) rfl rfl rfl ?_
  refine ol_nil ?_
  refine cw_ret ?_
  repeat (first | with_reducible refine thn_r ?_ | with_reducible refine blk_r ?_)
  refine fin_ret1 Try.results111 rfl ?_
  exact ⟨_, rfl, _, Own.nil _ _ _ _, rfl, fB⟩
 refine cw_condF rfl c ?_
 refine cw_skip ?_
 refine cw_seq ?_
 refine cw_region ?_
 refine ol_op (opv_buildSlice (K := (kI .u8)) (xs := ([] : List Int)) (vals := []) rfl Try.underlying43 el5 rfl rfl trivial rfl rfl rfl fB.size) rfl rfl rfl ?_
 rintro v1 w1 ⟨o1, q1, z1⟩
 refine ol_val (v := V0_0) (xr_move rfl rfl) rfl rfl rfl ?_
 refine ol_op (opv_append (K := (kI .u8)) rfl Try.underlying43 el5 rfl rfl rfl rfl rfl o1 (R0_0.gr q1) (by simpa using g) (fB.gr q1).size) rfl rfl rfl ?_
 rintro v2 w2 ⟨o2, q2, n2⟩
 refine ol_val (v := v2) (xr_assign rfl rfl) rfl rfl rfl ?_
 refine ol_nil ?_
 refine cw_ret ?_
 repeat (first | with_reducible refine thn_r ?_ | with_reducible refine blk_r ?_)
 refine fin_ret1 Try.results111 rfl ?_
 exact ⟨_, rfl, v2, o2, rfl, (fB.gr q1).wrO q2 o1.geO⟩
end Go.Proofs.Ytklhbaghbmndeaa
namespace Go.Xw
open Go
def OwnS {α : Type} (K : Kd α) (E e : TypeId) (w : World) (B H : Nat) (v : Value) (LL : List (List α)) : Prop :=
  ∃ vs : List V1, Own kV E w B v vs ∧ vs.length = LL.length ∧ ∀ j, j < LL.length → Own K e w 0 (vs.getD j default).1 (LL.getD j []) ∧ ∀ k, (vs.getD j default).1.ownBlock = some k → k < H
def OffI (w : World) (e : TypeId) (H : Nat) (S : Nat → Prop) : Prop := ∀ k, k < H → (∃ cur fz, w.heap[k]? = some (.cells cur e fz)) → ¬ S k
section
variable {P : Program} {ρ : Env} {w w' : World} {o : Oper} {x y : Operand} {T E e : TypeId} {α β : Type} {K : Kd α} {K2 : Kd β} {B B2 H H2 : Nat} {v u : Value} {LL : List (List α)} {l : List β}
theorem own_ty {L : List α} (h : Own K e w B v L) {k : Nat} (hk : v.ownBlock = some k) : ∃ cur fz, w.heap[k]? = some (.cells cur e fz) := by
  rcases h.2 with ⟨rfl, _⟩ | ⟨g, cap, cur, rfl, _, hg, _⟩
  · simp [Value.ownBlock] at hk
  · obtain rfl : g = k := by simpa [Value.ownBlock] using hk
    exact ⟨_, _, hg⟩
theorem OwnS.fr {S : Nat → Prop} (h : OwnS K E e w B H v LL) (hf : Fr S w w') (ho : ∀ k, v.ownBlock = some k → ¬ S k) (hi : OffI w e H S) : OwnS K E e w' B H v LL := by
  obtain ⟨vs, h1, h2, h3⟩ := h
  exact ⟨vs, h1.fr hf ho, h2, fun j hj => ⟨(h3 j hj).1.fr hf fun k hk => hi k ((h3 j hj).2 k hk) (own_ty (h3 j hj).1 hk), (h3 j hj).2⟩⟩
theorem OwnS.gr (h : OwnS K E e w B H v LL) (hf : Gr w w') : OwnS K E e w' B H v LL := h.fr hf (fun _ _ q => q) (fun _ _ _ q => q)
theorem OwnS.wr {g : Nat} (h : OwnS K E e w B H v LL) (hf : Fr (fun j => j = g) w w') (ho : Off v g ∧ OffI w e H (fun j => j = g)) : OwnS K E e w' B H v LL := h.fr hf (fun k hk q => ho.1 (by rw [hk, q])) ho.2
theorem OwnS.wrV (h : OwnS K E e w B H v LL) (hf : Fr (fun j => some j = u.ownBlock) w w') (ho : OffV v u ∧ OffI w e H (fun j => some j = u.ownBlock)) : OwnS K E e w' B H v LL := h.fr hf (fun k hk q => ho.1 k hk q) ho.2
theorem OwnS.bound (h : OwnS K E e w B H v LL) : OwnS K E e w B w.heap.size v LL := by
  obtain ⟨vs, h1, h2, h3⟩ := h
  exact ⟨vs, h1, h2, fun j hj => ⟨(h3 j hj).1, fun k hk => (h3 j hj).1.lt hk⟩⟩
noncomputable def OwnS.vs (h : OwnS K E e w B H v LL) : List V1 := Classical.choose h
theorem OwnS.ow (h : OwnS K E e w B H v LL) : Own kV E w B v h.vs := (Classical.choose_spec h).1
theorem OwnS.geO (h : OwnS K E e w B H v LL) : ∀ g, v.ownBlock = some g → B ≤ g := h.ow.geO
theorem OwnS.one (h : OwnS K E e w B H v LL) : v.oneCell' = true := h.ow.one
theorem OwnS.base (h : OwnS K E e w B H v LL) (hb : B2 ≤ B) : OwnS K E e w B2 H v LL := by
  obtain ⟨vs, h1, h2⟩ := h
  exact ⟨vs, h1.base hb, h2⟩
theorem OwnS.nil (K : Kd α) (E e : TypeId) (w : World) (B H : Nat) : OwnS K E e w B H (.slice none 0 0) [] := ⟨[], Own.nil _ _ _ _, rfl, fun j hj => by simp at hj⟩
theorem OwnS.rd (h : OwnS K E e w B H v LL) : Rds K w v LL := by
  obtain ⟨vs, h1, h2, h3⟩ := h
  exact ⟨vs, h1.rd, h2, fun j hj => (h3 j hj).1.rd⟩
theorem Rds.nil (K : Kd α) (w : World) : Rds K w (.slice none 0 0) [] := (OwnS.nil K 0 0 w 0 0).rd
theorem OwnS.offRV (h : OwnS K E e w B H v LL) {i : Int} (h0 : 0 ≤ i) (h1 : i < (LL.length : Int)) {E2 : TypeId} (h2 : Own K2 E2 w B2 u l) (hne : e ≠ E2) : OffRV (inner w v i) (ix LL i) u := by
  obtain ⟨vs, hv, hl, h3⟩ := h
  have hat := hv.rd.elem h0 (by rw [hl]; exact h1)
  have hc := hat 0 _ rfl
  rw [Nat.add_zero] at hc
  have he : inner w v i = (ix vs i).1 := by
    unfold inner
    have : w.cell? ⟨sb v, so v + i.toNat * 1, none⟩ = some (ix vs i).1 := hc
    rw [this]
    rfl
  rw [he]
  exact OffRV.own (h3 i.toNat (by omega)).1 (OffV.ty (h3 i.toNat (by omega)).1 h2 hne)
theorem offi_b {g : Nat} {T : TypeId} {ss : List Seg} (hb : Blk w g T ss) (hne : T ≠ e) : OffI w e H (fun j => j = g) := by
  intro k _ ⟨cur, fz, hk⟩ q
  subst q
  unfold Blk at hb
  rw [hb] at hk
  injection hk with hk
  injection hk with _ ht
  exact hne ht
theorem offi_v {E2 : TypeId} (h2 : Own K2 E2 w B2 u l) (hne : E2 ≠ e) : OffI w e H (fun j => some j = u.ownBlock) := by
  intro k _ ⟨cur, fz, hk⟩ q
  obtain ⟨cur2, fz2, hk2⟩ := own_ty h2 q.symm
  rw [hk2] at hk
  injection hk with hk
  injection hk with _ ht
  exact hne ht
theorem offi_ge (z : ∀ k, u.ownBlock = some k → H ≤ k) : OffI w e H (fun j => some j = u.ownBlock) := by
  intro k hk _ q
  have := z k q.symm
  omega
theorem opv_build1S {L : List α} {bs : Nat} {zv : Value} {B0 : Nat} (ho : o.op = .buildSlice T 1 #[(0, x)]) (hT : P.underlying T = some (.slice E)) (hE : elB P E = some (some zv, 1, bs)) (hz : zv.cells.size = 1)
    (hr : Own K e w B0 v L) (hx : evO ρ x = v) (hB : B ≤ w.heap.size) : OpV P o ρ w (fun u w' => OwnS K E e w' B w'.heap.size u [L] ∧ Gr w w' ∧ ∀ k, u.ownBlock = some k → w.heap.size ≤ k) := by
  have h := opv_buildSlice (P := P) (ρ := ρ) (w := w) (K := kV) (B := B) (xs := [(⟨v, hr.one⟩ : V1)]) (vals := [v]) ho hT hE rfl hz ⟨rfl, hx, trivial⟩ rfl rfl rfl hB
  refine h.mono ?_
  rintro u w' ⟨hown, hgr, hz⟩
  refine ⟨⟨[⟨v, hr.one⟩], hown, rfl, fun j hj => ?_⟩, hgr, hz⟩
  have : j = 0 := by simp at hj; exact hj
  subst this
  have h2 := (hr.gr hgr).base (Nat.zero_le _)
  exact ⟨h2, fun k hk => h2.lt hk⟩
theorem opv_appendS {bs : Nat} {zv : Value} {MM : List (List α)} (ho : o.op = .call ⟨.builtin .append, #[x, y], #[T, T]⟩) (hT : P.underlying T = some (.slice E)) (hE : elB P E = some (some zv, 1, bs)) (hz : zv.cells.size = 1)
    (hbs : Nat.ble bs 32768 = true) (hx : evO ρ x = v) (hy : evO ρ y = u) (h : OwnS K E e w B H v LL) (hr : OwnS K E e w B2 H2 u MM) (hne : e ≠ E) (hlim : LL.length + MM.length ≤ LIM) (hB : B ≤ w.heap.size) :
    OpV P o ρ w (fun v' w' => OwnS K E e w' B w'.heap.size v' (LL ++ MM) ∧ Fr (fun j => some j = v.ownBlock) w w' ∧ ∀ g, g < w.heap.size → Off v g → Off v' g) := by
  obtain ⟨vs, h1, h2, h3⟩ := h
  obtain ⟨us, r1, r2, r3⟩ := hr
  have ha := opv_append (P := P) (ρ := ρ) (w := w) (K := kV) (B := B) (L := vs) (M := us) ho hT hE hz rfl hbs hx hy h1 r1.rd (by rw [h2, r2]; exact hlim) hB
  refine ha.mono ?_
  rintro v' w' ⟨ho', hf, hon⟩
  refine ⟨⟨vs ++ us, ho', by simp [h2, r2], fun j hj => ?_⟩, hf, hon⟩
  have key : ∀ {z : Value} {L : List α}, Own K e w 0 z L → Own K e w' 0 z L ∧ ∀ k, z.ownBlock = some k → k < w'.heap.size := by
    intro z L hz
    have := hz.wrV hf (OffV.ty hz h1 hne)
    exact ⟨this, fun k hk => this.lt hk⟩
  by_cases hl : j < LL.length
  · have e1 : (vs ++ us).getD j default = vs.getD j default := by
      rw [List.getD_eq_getElem?_getD, List.getD_eq_getElem?_getD, List.getElem?_append_left (by omega)]
    have e2 : (LL ++ MM).getD j [] = LL.getD j [] := by
      rw [List.getD_eq_getElem?_getD, List.getD_eq_getElem?_getD, List.getElem?_append_left hl]
    rw [e1, e2]
    exact key (h3 j hl).1
  · have hj' : j - LL.length < MM.length := by
      rw [List.length_append] at hj
      omega
    have e1 : (vs ++ us).getD j default = us.getD (j - LL.length) default := by
      rw [List.getD_eq_getElem?_getD, List.getD_eq_getElem?_getD, List.getElem?_append_right (by omega), h2]
    have e2 : (LL ++ MM).getD j [] = MM.getD (j - LL.length) [] := by
      rw [List.getD_eq_getElem?_getD, List.getD_eq_getElem?_getD, List.getElem?_append_right (by omega)]
    rw [e1, e2]
    exact key (r3 _ hj').1
end
end Go.Xw
namespace Go.Proofs.Ytklhbaghbmndeaa
open Go Go.Xw
def fate_All.s6 (fu : Nat) (t27 : (List S_api_Fate)) (s36 : (List (List Int)) × Int) (s69 : (List (List Int)) × Int) (t93 : (List Int)) : ((List (List Int)) × Int) → Option (Sum (List (List Int)) ((List (List Int)) × Int)) := fun s103 => (if (decide (s103.2 < (List.length t93 : Int))) = true then (if 0 ≤ s103.2 ∧ s103.2 < (List.length t93 : Int) then ((slices_Clone_2.f fu (ix s36.1 s69.2)).bind fun t125 => (if 0 ≤ (IntKind.i64.wrap (((ix t27 s36.2).At) * 8)) ∧ (IntKind.i64.wrap (((ix t27 s36.2).At) * 8)) ≤ (List.length t125 : Int) then ((octet_Octets.f fu [(ix t93 s103.2)]).bind fun t144 => (if Int.toNat (IntKind.i64.wrap (((ix t27 s36.2).At) * 8)) ≤ List.length t125 ∧ List.length t125 ≤ List.length t125 then (if List.length s103.1 + List.length [(splL t125 (Int.toNat (IntKind.i64.wrap (((ix t27 s36.2).At) * 8))) (List.take (List.length t125 - Int.toNat (IntKind.i64.wrap (((ix t27 s36.2).At) * 8))) t144))] ≤ LIM then some (Sum.inr ((s103.1 ++ [(splL t125 (Int.toNat (IntKind.i64.wrap (((ix t27 s36.2).At) * 8))) (List.take (List.length t125 - Int.toNat (IntKind.i64.wrap (((ix t27 s36.2).At) * 8))) t144))]), (IntKind.i64.wrap (s103.2 + 1)))) else none) else none)) else none)) else none) else some (Sum.inl (s103.1)))
def fate_All.s5 (fu : Nat) (t27 : (List S_api_Fate)) (s36 : (List (List Int)) × Int) : ((List (List Int)) × Int) → Option (Sum (List (List Int)) ((List (List Int)) × Int)) := fun s69 => (if (decide (s69.2 < (List.length s36.1 : Int))) = true then (if 0 ≤ s69.2 ∧ s69.2 < (List.length s36.1 : Int) then ((fate_Values.f fu (ix t27 s36.2)).bind fun t93 => ((loopM (fate_All.s6 fu t27 s36 s69 t93) fu (s69.1, 0)).bind fun e104 => some (Sum.inr (e104, (IntKind.i64.wrap (s69.2 + 1)))))) else none) else some (Sum.inl (s69.1)))
def fate_All.s3 (fu : Nat) (t27 : (List S_api_Fate)) : ((List (List Int)) × Int) → Option (Sum (List (List Int)) ((List (List Int)) × Int)) := fun s36 => (if (decide (s36.2 < (List.length t27 : Int))) = true then (if 0 ≤ s36.2 ∧ s36.2 < (List.length t27 : Int) then ((loopM (fate_All.s5 fu t27 s36) fu ([], 0)).bind fun e70 => some (Sum.inr (e70, (IntKind.i64.wrap (s36.2 + 1))))) else none) else some (Sum.inl (s36.1)))
def fate_All.f (fu : Nat) (a0 : S_pmem_Device) (a1 : Int) : Option (List (List Int)) := ((fate_Count.f fu a0).bind fun t3 => (if (if (decide (t3 = 0)) = true then true else (decide (t3 > (mnI a1 64)))) = true then some ([]) else ((pmem_Device_Image.f fu a0).bind fun t10 => ((pmem_Device_Fates.f fu a0).bind fun t27 => ((loopM (fate_All.s3 fu t27) fu ([t10], 0)).bind fun e37 => some (e37))))))
theorem fate_All.ok (fu : Nat) (w : World) (a0 : S_pmem_Device) (G_0 : Nat) (V0_0 : Value) (R0_0 : Rd k_pmem_cell w V0_0 a0.cells) (V0_1 : Value) (R0_1 : Rd (kI .i64) w V0_1 a0.plan.list) (b_0 : Blk w G_0 139 [Seg.cell V0_0 R0_0.one, Seg.cell V0_1 R0_1.one, (sI a0.plan.at_), Seg.cell (.bool a0.off), Seg.cell (.bool a0.armed), (sI a0.left), (sI a0.steps)]) (a1 : Int) (r : (List (List Int))) (h : fate_All.f fu a0 a1 = some r) :
  Calls Try.prog 67 (([(pt G_0 0), .int .i64 a1] : List Value).toArray) w (fun e w' => ∃ v, e = .returned v ∧ ∃ u1 : Value, ∃ r2 : Rds (kI .u8) w' u1 r, v = u1 ∧ Gr w w') := by
 unfold fate_All.f at h
 have fB : Gr w w := Fr.refl _ _
 refine calls_cw Try.func67 rfl Try.ntmps67 rfl ?_
 refine cw_seq ?_
 refine cw_region ?_
 refine ol_val (v := .slice none 0 0) (xr_assign rfl rfl) rfl rfl rfl ?_
 refine ol_nil ?_
 refine cw_seq ?_
 refine cw_seq ?_
 refine cw_region ?_
 refine ol_val (v := (pt G_0 0)) (xr_move rfl rfl) rfl rfl rfl ?_
 obtain ⟨t3, k4, h⟩ := bs h
 refine ol_op (opv_call rfl cal61 (ac rfl an) (fate_Count.ok fu _ a0 G_0 V0_0 (R0_0) V0_1 (R0_1) b_0 _ k4)) rfl rfl rfl ?_
 rintro _ w6 ⟨rfl, q5⟩
 have b_0 := b_0.gr q5
 have R0_0 := R0_0.gr q5
 have R0_1 := R0_1.gr q5
 have fB := fB.gr q5
 refine ol_val (v := .int .i64 t3) (xr_assign rfl rfl) rfl rfl rfl ?_
 refine ol_nil ?_
 refine cw_seq ?_
 refine cw_mid (fun ρ' w' => ρ' 0 = (pt G_0 0) ∧ ρ' 24 = .bool (if (decide (t3 = 0)) = true then true else (decide (t3 > (mnI a1 64)))) ∧ w6 = w') ?_ ?_
 ·skip
  refine cw_region ?_
  refine ol_val (v := .int .i64 t3) (xr_move rfl rfl) rfl rfl rfl ?_
  refine ol_val (v := .bool (decide (t3 = 0))) (xr_eqI rfl Try.underlying3 rfl rfl rfl) rfl rfl rfl ?_
  refine ol_val (v := .bool (decide (t3 = 0))) (xr_move rfl rfl) rfl rfl rfl ?_
  rcases bt (decide (t3 = 0)) with c7 | c7
  ·skip
   refine ol_gskip rfl rfl rfl rfl rfl c7 ?_
   refine ol_gskip rfl rfl rfl rfl rfl c7 ?_
   refine ol_gskip rfl rfl rfl rfl rfl c7 ?_
   refine ol_gskip rfl rfl rfl rfl rfl c7 ?_
   refine ol_val (v := .bool true) (xr_pickT rfl rfl c7 rfl) rfl rfl rfl ?_
   refine ol_nil ?_
   refine thn_i ?_
   exact ⟨rfl, (rfl).trans (congrArg (fun z => (.bool z : Value)) (show true = (if (decide (t3 = 0)) = true then true else (decide (t3 > (mnI a1 64)))) from by rw [ite_t c7])), rfl⟩
  refine ol_gval (v := .int .i64 t3) (xr_move rfl rfl) rfl rfl rfl rfl rfl c7 ?_
  refine ol_gval (v := .int .i64 a1) (xr_move rfl rfl) rfl rfl rfl rfl rfl c7 ?_
  refine ol_gval (v := .int .i64 (mnI a1 64)) (xr_min2 rfl rfl rfl) rfl rfl rfl rfl rfl c7 ?_
  refine ol_gval (v := .bool (decide (t3 > (mnI a1 64)))) (xr_gtr rfl rfl rfl) rfl rfl rfl rfl rfl c7 ?_
  refine ol_val (v := .bool (decide (t3 > (mnI a1 64)))) (xr_pickF rfl rfl c7 rfl) rfl rfl rfl ?_
  refine ol_nil ?_
  refine thn_i ?_
  exact ⟨rfl, (rfl).trans (congrArg (fun z => (.bool z : Value)) (show (decide (t3 > (mnI a1 64))) = (if (decide (t3 = 0)) = true then true else (decide (t3 > (mnI a1 64)))) from by rw [ite_f c7])), rfl⟩
 rintro ρ8 _ ⟨e0, e24, rfl⟩
 rcases is h with ⟨c9, h⟩ | ⟨c9, h⟩
 ·refine cw_condT e24 c9 ?_
  refine cw_seq ?_
  refine cw_region ?_
  refine ol_val (v := .slice none 0 0) (xr_assign rfl rfl) rfl rfl rfl ?_
  refine ol_nil ?_
  refine cw_ret ?_
  repeat (first | with_reducible refine thn_r ?_ | with_reducible refine blk_r ?_)
  obtain rfl := Option.some.inj h
  refine fin_ret1 Try.results67 rfl ?_
  exact ⟨_, rfl, (.slice none 0 0), (Rds.nil (kI .u8) _), rfl, fB⟩
 refine cw_condF e24 c9 ?_
 refine cw_skip ?_
 refine cw_seq ?_
 refine cw_region ?_
 refine ol_val (v := (pt G_0 0)) (xr_move rfl e0) rfl rfl rfl ?_
 obtain ⟨t10, k11, h⟩ := bs h
 refine ol_op (opv_call rfl cal33 (ac rfl an) (pmem_Device_Image.ok fu _ a0 G_0 V0_0 (R0_0) V0_1 (R0_1) b_0 _ k11)) rfl rfl rfl ?_
 rintro u12 w16 ⟨_, o13, rfl, q15⟩
 have a17 := OffRV.call R0_0 o13 rfl
 have a18 := OffRV.call R0_1 o13 rfl
 have o13 := Own.base o13 fB.size
 have b_0 := b_0.gr q15
 have R0_0 := R0_0.gr q15
 have R0_1 := R0_1.gr q15
 have fB := fB.gr q15
 refine ol_op (opv_build1S rfl Try.underlying100 el43 rfl o13 rfl fB.size) rfl rfl rfl ?_
 rintro v19 w24 ⟨S21, q20, z22⟩
 have a25 := OffRV.new R0_0 z22 rfl
 have a26 := OffRV.new R0_1 z22 rfl
 have b_0 := b_0.gr q20
 have R0_0 := R0_0.gr q20
 have R0_1 := R0_1.gr q20
 have fB := fB.gr q20
 refine ol_val (v := v19) (xr_assign rfl rfl) rfl rfl rfl ?_
 refine ol_nil ?_
 refine cw_seq ?_
 refine cw_seq ?_
 refine cw_region ?_
 refine ol_val (v := (pt G_0 0)) (xr_move rfl e0) rfl rfl rfl ?_
 obtain ⟨t27, k28, h⟩ := bs h
 refine ol_op (opv_call rfl cal40 (ac rfl an) (pmem_Device_Fates.ok fu _ a0 G_0 V0_0 (R0_0) V0_1 (R0_1) b_0 _ k28)) rfl rfl rfl ?_
 rintro u29 w33 ⟨_, o30, rfl, q32⟩
 have a34 := OffRV.call R0_0 o30 rfl
 have a35 := OffRV.call R0_1 o30 rfl
 have o30 := Own.base o30 fB.size
 have b_0 := b_0.gr q32
 have S21 := S21.gr q32
 have R0_0 := R0_0.gr q32
 have R0_1 := R0_1.gr q32
 have fB := fB.gr q32
 refine ol_val (v := .int .i64 (List.length t27 : Int)) (xr_lenR rfl Try.underlying52 rfl o30.rd) rfl rfl rfl ?_
 refine ol_val (v := .int .i64 0) (xr_move rfl rfl) rfl rfl rfl ?_
 refine ol_nil ?_
 obtain ⟨e37, l38, h39⟩ := bs h
 refine cw_mid (fun ρ' w' => ∃ v40 : Value, ∃ o41 : OwnS (kI .u8) 43 5 w' w.heap.size w'.heap.size v40 e37, ∃ R0_0 : Rd k_pmem_cell w' V0_0 a0.cells, ∃ R0_1 : Rd (kI .i64) w' V0_1 a0.plan.list, OffRV V0_0 a0.cells v40 ∧ OffRV V0_1 a0.plan.list v40 ∧ ρ' 6 = v40 ∧ Blk w' G_0 139 [Seg.cell V0_0 R0_0.one, Seg.cell V0_1 R0_1.one, (sI a0.plan.at_), Seg.cell (.bool a0.off), Seg.cell (.bool a0.armed), (sI a0.left), (sI a0.steps)] ∧ Gr w w') ?_ ?_
 ·refine cw_block ?_
  refine cw_round (fun (s36 : (List (List Int)) × Int) ρ' w' => ∃ v45 : Value, ∃ o30 : Own k_api_Fate 55 w' w.heap.size u29 t27, ∃ o46 : OwnS (kI .u8) 43 5 w' w.heap.size w'.heap.size v45 s36.1, ∃ R0_0 : Rd k_pmem_cell w' V0_0 a0.cells, ∃ R0_1 : Rd (kI .i64) w' V0_1 a0.plan.list, OffRV V0_0 a0.cells v45 ∧ OffRV V0_1 a0.plan.list v45 ∧ ρ' 6 = v45 ∧ ρ' 29 = u29 ∧ ρ' 30 = .int .i64 (List.length t27 : Int) ∧ ρ' 31 = .int .i64 s36.2 ∧ Blk w' G_0 139 [Seg.cell V0_0 R0_0.one, Seg.cell V0_1 R0_1.one, (sI a0.plan.at_), Seg.cell (.bool a0.off), Seg.cell (.bool a0.armed), (sI a0.left), (sI a0.steps)] ∧ Gr w w') l38 ?_ ?_
  ·skip
   exact ⟨v19, o30, S21.bound, R0_0, R0_1, a25, a26, rfl, rfl, rfl, rfl, b_0, fB⟩
  rintro s36 x52 ρ50 w51 ⟨v45, o30, o46, R0_0, R0_1, a48, a49, e6, e29, e30, e31, b_0, fB⟩ h
  unfold fate_All.s3 at h
  refine cw_seq ?_
  refine cw_region ?_
  refine ol_val (v := .bool (decide (s36.2 < (List.length t27 : Int)))) (xr_lss rfl e31 e30) rfl rfl rfl ?_
  refine ol_nil ?_
  refine cw_seq ?_
  rcases is h with ⟨c53, h⟩ | ⟨c53, h⟩
  ·refine cw_condT rfl c53 ?_
   refine cw_skip ?_
   refine cw_seq ?_
   refine cw_block ?_
   refine cw_seq ?_
   refine cw_region ?_
   obtain ⟨g54, h⟩ := gs h
   refine ol_val (v := (pt ((sb u29)) (so u29 + Int.toNat s36.2 * 5))) (xr_indexR (K := k_api_Fate) (v := u29) rfl Try.underlying52 sz55 e29 o30.rd e31 g54.1 g54.2) rfl rfl rfl ?_
   refine ol_val (v := aggV [(sI ((ix t27 s36.2).At)), Seg.cell (.int .u64 ((ix t27 s36.2).Lasts)), Seg.cell (.bool ((ix t27 s36.2).Flushed)), Seg.cell (.int .u64 ((ix t27 s36.2).Sent)), Seg.cell (.int .u64 ((ix t27 s36.2).Stored))]) (xr_loadS (ss := [(sI ((ix t27 s36.2).At)), Seg.cell (.int .u64 ((ix t27 s36.2).Lasts)), Seg.cell (.bool ((ix t27 s36.2).Flushed)), Seg.cell (.int .u64 ((ix t27 s36.2).Sent)), Seg.cell (.int .u64 ((ix t27 s36.2).Stored))]) rfl ag55 sz55 rfl rfl (o30.rd.elem g54.1 g54.2)) rfl rfl rfl ?_
   refine ol_op (opv_alloc (ss := [(sI (0 : Int)), Seg.cell (.int .u64 (0 : Int)), Seg.cell (.bool false), Seg.cell (.int .u64 (0 : Int)), Seg.cell (.int .u64 (0 : Int))]) rfl ze55 rfl) rfl rfl rfl ?_
   rintro _ w60 ⟨G55, rfl, b56, q57, z58⟩
   have n61 := b_0.ne z58
   have a62 := Own.off_new o30 z58
   have a63 := OffR.new R0_0 z58 rfl
   have a64 := OffR.new R0_1 z58 rfl
   have z58 := Nat.le_trans fB.size z58
   have b_0 := b_0.gr q57
   have o30 := o30.gr q57
   have o46 := o46.gr q57
   have R0_0 := R0_0.gr q57
   have R0_1 := R0_1.gr q57
   have fB := fB.gr q57
   have f66 := a62
   have f67 := off_ty b56 o46.ow (by decide)
   have f67 := And.intro f67 (offi_b (e := 5) (H := w51.heap.size) b56 (by decide))
   refine ol_op0 (opv_store (ss' := [(sI ((ix t27 s36.2).At)), Seg.cell (.int .u64 ((ix t27 s36.2).Lasts)), Seg.cell (.bool ((ix t27 s36.2).Flushed)), Seg.cell (.int .u64 ((ix t27 s36.2).Sent)), Seg.cell (.int .u64 ((ix t27 s36.2).Stored))]) (xs := cellsOf [(sI ((ix t27 s36.2).At)), Seg.cell (.int .u64 ((ix t27 s36.2).Lasts)), Seg.cell (.bool ((ix t27 s36.2).Flushed)), Seg.cell (.int .u64 ((ix t27 s36.2).Sent)), Seg.cell (.int .u64 ((ix t27 s36.2).Stored))]) rfl sz55 rfl rfl rfl (len_cellsOf _) (one_cellsOf _) b56 (Spl.segs _ 0 5 [(sI ((ix t27 s36.2).At)), Seg.cell (.int .u64 ((ix t27 s36.2).Lasts)), Seg.cell (.bool ((ix t27 s36.2).Flushed)), Seg.cell (.int .u64 ((ix t27 s36.2).Sent)), Seg.cell (.int .u64 ((ix t27 s36.2).Stored))] rfl rfl)) rfl rfl ?_
   rintro _ w68 ⟨b56, q65⟩
   have b_0 := b_0.wr q65 n61
   have o30 := o30.wr q65 f66
   have o46 := o46.wr q65 f67
   have R0_0 := R0_0.wr q65 a63
   have R0_1 := R0_1.wr q65 a64
   have fB := fB.wr q65 z58
   refine ol_nil ?_
   refine cw_seq ?_
   refine cw_region ?_
   refine ol_val (v := .slice none 0 0) (xr_assign rfl rfl) rfl rfl rfl ?_
   refine ol_nil ?_
   refine cw_seq ?_
   refine cw_seq ?_
   refine cw_region ?_
   refine ol_val (v := v45) (xr_move rfl e6) rfl rfl rfl ?_
   refine ol_val (v := .int .i64 (List.length s36.1 : Int)) (xr_lenRs rfl Try.underlying100 rfl o46.rd) rfl rfl rfl ?_
   refine ol_val (v := .int .i64 0) (xr_move rfl rfl) rfl rfl rfl ?_
   refine ol_nil ?_
   obtain ⟨e70, l71, h72⟩ := bs h
   refine cw_mid (fun ρ' w' => ∃ v73 : Value, ∃ o30 : Own k_api_Fate 55 w' w.heap.size u29 t27, ∃ o74 : OwnS (kI .u8) 43 5 w' w.heap.size w'.heap.size v73 e70, ∃ R0_0 : Rd k_pmem_cell w' V0_0 a0.cells, ∃ R0_1 : Rd (kI .i64) w' V0_1 a0.plan.list, OffRV V0_0 a0.cells v73 ∧ OffRV V0_1 a0.plan.list v73 ∧ ρ' 9 = v73 ∧ ρ' 29 = u29 ∧ ρ' 30 = .int .i64 (List.length t27 : Int) ∧ ρ' 31 = .int .i64 s36.2 ∧ Blk w' G_0 139 [Seg.cell V0_0 R0_0.one, Seg.cell V0_1 R0_1.one, (sI a0.plan.at_), Seg.cell (.bool a0.off), Seg.cell (.bool a0.armed), (sI a0.left), (sI a0.steps)] ∧ Gr w w') ?_ ?_
   ·refine cw_block ?_
    refine cw_round (fun (s69 : (List (List Int)) × Int) ρ' w' => ∃ v78 : Value, ∃ o30 : Own k_api_Fate 55 w' w.heap.size u29 t27, ∃ o46 : OwnS (kI .u8) 43 5 w' w.heap.size w'.heap.size v45 s36.1, ∃ o79 : OwnS (kI .u8) 43 5 w' w.heap.size w'.heap.size v78 s69.1, ∃ R0_0 : Rd k_pmem_cell w' V0_0 a0.cells, ∃ R0_1 : Rd (kI .i64) w' V0_1 a0.plan.list, OffV v45 v78 ∧ OffRV V0_0 a0.cells v78 ∧ OffRV V0_1 a0.plan.list v78 ∧ ρ' 8 = (pt G55 0) ∧ ρ' 9 = v78 ∧ ρ' 29 = u29 ∧ ρ' 30 = .int .i64 (List.length t27 : Int) ∧ ρ' 31 = .int .i64 s36.2 ∧ ρ' 35 = v45 ∧ ρ' 36 = .int .i64 (List.length s36.1 : Int) ∧ ρ' 37 = .int .i64 s69.2 ∧ Blk w' G_0 139 [Seg.cell V0_0 R0_0.one, Seg.cell V0_1 R0_1.one, (sI a0.plan.at_), Seg.cell (.bool a0.off), Seg.cell (.bool a0.armed), (sI a0.left), (sI a0.steps)] ∧ Blk w' G55 55 [(sI ((ix t27 s36.2).At)), Seg.cell (.int .u64 ((ix t27 s36.2).Lasts)), Seg.cell (.bool ((ix t27 s36.2).Flushed)), Seg.cell (.int .u64 ((ix t27 s36.2).Sent)), Seg.cell (.int .u64 ((ix t27 s36.2).Stored))] ∧ Gr w w') l71 ?_ ?_
    ·skip
     exact ⟨(.slice none 0 0), o30, o46.bound, OwnS.nil _ _ _ _ _ _, R0_0, R0_1, (OffV.nil v45), (OffRV.nil _ _), (OffRV.nil _ _), rfl, rfl, e29, e30, e31, rfl, rfl, rfl, b_0, b56, fB⟩
    rintro s69 x86 ρ84 w85 ⟨v78, o30, o46, o79, R0_0, R0_1, a81, a82, a83, e8, e9, e29, e30, e31, e35, e36, e37, b_0, b56, fB⟩ h
    unfold fate_All.s5 at h
    refine cw_seq ?_
    refine cw_region ?_
    refine ol_val (v := .bool (decide (s69.2 < (List.length s36.1 : Int)))) (xr_lss rfl e37 e36) rfl rfl rfl ?_
    refine ol_nil ?_
    refine cw_seq ?_
    rcases is h with ⟨c87, h⟩ | ⟨c87, h⟩
    ·refine cw_condT rfl c87 ?_
     refine cw_skip ?_
     refine cw_seq ?_
     refine cw_block ?_
     refine cw_seq ?_
     refine cw_region ?_
     obtain ⟨g88, h⟩ := gs h
     refine ol_val (v := (pt ((sb v45)) (so v45 + Int.toNat s69.2 * 1))) (xr_indexRs (v := v45) rfl Try.underlying100 sz43 e35 o46.rd e37 g88.1 g88.2) rfl rfl rfl ?_
     refine ol_val (v := inner w85 v45 s69.2) (xr_load1 (v := inner w85 v45 s69.2) rfl ag43 rfl (o46.rd.elem g88.1 g88.2).1) rfl rfl rfl ?_
     have r89 : Rd (kI .u8) w85 (inner w85 v45 s69.2) (ix s36.1 s69.2) := (o46.rd.elem g88.1 g88.2).2
     have a90 := OwnS.offRV o46 g88.1 g88.2 o30 (by decide)
     have a91 := OwnS.offRV o46 g88.1 g88.2 o46.ow (by decide)
     have a92 := OwnS.offRV o46 g88.1 g88.2 o79.ow (by decide)
     refine ol_val (v := inner w85 v45 s69.2) (xr_assign rfl rfl) rfl rfl rfl ?_
     refine ol_nil ?_
     refine cw_seq ?_
     refine cw_region ?_
     refine ol_val (v := aggV [(sI ((ix t27 s36.2).At)), Seg.cell (.int .u64 ((ix t27 s36.2).Lasts)), Seg.cell (.bool ((ix t27 s36.2).Flushed)), Seg.cell (.int .u64 ((ix t27 s36.2).Sent)), Seg.cell (.int .u64 ((ix t27 s36.2).Stored))]) (xr_loadS (ss := [(sI ((ix t27 s36.2).At)), Seg.cell (.int .u64 ((ix t27 s36.2).Lasts)), Seg.cell (.bool ((ix t27 s36.2).Flushed)), Seg.cell (.int .u64 ((ix t27 s36.2).Sent)), Seg.cell (.int .u64 ((ix t27 s36.2).Stored))]) rfl ag55 sz55 rfl e8 (b56.segs 0 5 rfl)) rfl rfl rfl ?_
     obtain ⟨t93, k94, h⟩ := bs h
     refine ol_op (opv_call rfl cal50 (ac rfl an) (fate_Values.ok fu _ (ix t27 s36.2) _ k94)) rfl rfl rfl ?_
     rintro u95 w99 ⟨_, o96, rfl, q98⟩
     have a100 := OffRV.call R0_0 o96 rfl
     have a101 := OffRV.call R0_1 o96 rfl
     have a102 := OffRV.call r89 o96 rfl
     have o96 := Own.base o96 fB.size
     have b_0 := b_0.gr q98
     have b56 := b56.gr q98
     have o30 := o30.gr q98
     have o46 := o46.gr q98
     have o79 := o79.gr q98
     have R0_0 := R0_0.gr q98
     have R0_1 := R0_1.gr q98
     have r89 := r89.gr q98
     have fB := fB.gr q98
     refine ol_val (v := .int .i64 (List.length t93 : Int)) (xr_lenR rfl Try.underlying46 rfl o96.rd) rfl rfl rfl ?_
     refine ol_val (v := .int .i64 0) (xr_move rfl rfl) rfl rfl rfl ?_
     refine ol_nil ?_
     obtain ⟨e104, l105, h106⟩ := bs h
     refine cw_mid (fun ρ' w' => ∃ v107 : Value, ∃ o30 : Own k_api_Fate 55 w' w.heap.size u29 t27, ∃ o46 : OwnS (kI .u8) 43 5 w' w.heap.size w'.heap.size v45 s36.1, ∃ o108 : OwnS (kI .u8) 43 5 w' w.heap.size w'.heap.size v107 e104, ∃ R0_0 : Rd k_pmem_cell w' V0_0 a0.cells, ∃ R0_1 : Rd (kI .i64) w' V0_1 a0.plan.list, OffV v45 v107 ∧ OffRV V0_0 a0.cells v107 ∧ OffRV V0_1 a0.plan.list v107 ∧ ρ' 8 = (pt G55 0) ∧ ρ' 9 = v107 ∧ ρ' 29 = u29 ∧ ρ' 30 = .int .i64 (List.length t27 : Int) ∧ ρ' 31 = .int .i64 s36.2 ∧ ρ' 35 = v45 ∧ ρ' 36 = .int .i64 (List.length s36.1 : Int) ∧ ρ' 37 = .int .i64 s69.2 ∧ Blk w' G_0 139 [Seg.cell V0_0 R0_0.one, Seg.cell V0_1 R0_1.one, (sI a0.plan.at_), Seg.cell (.bool a0.off), Seg.cell (.bool a0.armed), (sI a0.left), (sI a0.steps)] ∧ Blk w' G55 55 [(sI ((ix t27 s36.2).At)), Seg.cell (.int .u64 ((ix t27 s36.2).Lasts)), Seg.cell (.bool ((ix t27 s36.2).Flushed)), Seg.cell (.int .u64 ((ix t27 s36.2).Sent)), Seg.cell (.int .u64 ((ix t27 s36.2).Stored))] ∧ Gr w w') ?_ ?_
     ·refine cw_block ?_
      refine cw_round (fun (s103 : (List (List Int)) × Int) ρ' w' => ∃ v113 : Value, ∃ o30 : Own k_api_Fate 55 w' w.heap.size u29 t27, ∃ o46 : OwnS (kI .u8) 43 5 w' w.heap.size w'.heap.size v45 s36.1, ∃ o96 : Own (kI .u64) 22 w' w.heap.size u95 t93, ∃ o114 : OwnS (kI .u8) 43 5 w' w.heap.size w'.heap.size v113 s103.1, ∃ R0_0 : Rd k_pmem_cell w' V0_0 a0.cells, ∃ R0_1 : Rd (kI .i64) w' V0_1 a0.plan.list, ∃ r89 : Rd (kI .u8) w' (inner w85 v45 s69.2) (ix s36.1 s69.2), OffV v45 v113 ∧ OffRV V0_0 a0.cells v113 ∧ OffRV V0_1 a0.plan.list v113 ∧ OffRV (inner w85 v45 s69.2) (ix s36.1 s69.2) v113 ∧ ρ' 8 = (pt G55 0) ∧ ρ' 9 = v113 ∧ ρ' 11 = inner w85 v45 s69.2 ∧ ρ' 29 = u29 ∧ ρ' 30 = .int .i64 (List.length t27 : Int) ∧ ρ' 31 = .int .i64 s36.2 ∧ ρ' 35 = v45 ∧ ρ' 36 = .int .i64 (List.length s36.1 : Int) ∧ ρ' 37 = .int .i64 s69.2 ∧ ρ' 42 = u95 ∧ ρ' 43 = .int .i64 (List.length t93 : Int) ∧ ρ' 44 = .int .i64 s103.2 ∧ Blk w' G_0 139 [Seg.cell V0_0 R0_0.one, Seg.cell V0_1 R0_1.one, (sI a0.plan.at_), Seg.cell (.bool a0.off), Seg.cell (.bool a0.armed), (sI a0.left), (sI a0.steps)] ∧ Blk w' G55 55 [(sI ((ix t27 s36.2).At)), Seg.cell (.int .u64 ((ix t27 s36.2).Lasts)), Seg.cell (.bool ((ix t27 s36.2).Flushed)), Seg.cell (.int .u64 ((ix t27 s36.2).Sent)), Seg.cell (.int .u64 ((ix t27 s36.2).Stored))] ∧ Gr w w') l105 ?_ ?_
      ·skip
       exact ⟨v78, o30, o46.bound, o96, o79.bound, R0_0, R0_1, r89, a81, a82, a83, a92, e8, e9, rfl, e29, e30, e31, e35, e36, e37, rfl, rfl, rfl, b_0, b56, fB⟩
      rintro s103 x122 ρ120 w121 ⟨v113, o30, o46, o96, o114, R0_0, R0_1, r89, a116, a117, a118, a119, e8, e9, e11, e29, e30, e31, e35, e36, e37, e42, e43, e44, b_0, b56, fB⟩ h
      unfold fate_All.s6 at h
      refine cw_seq ?_
      refine cw_region ?_
      refine ol_val (v := .bool (decide (s103.2 < (List.length t93 : Int)))) (xr_lss rfl e44 e43) rfl rfl rfl ?_
      refine ol_nil ?_
      refine cw_seq ?_
      rcases is h with ⟨c123, h⟩ | ⟨c123, h⟩
      ·refine cw_condT rfl c123 ?_
       refine cw_skip ?_
       refine cw_seq ?_
       refine cw_block ?_
       refine cw_seq ?_
       refine cw_region ?_
       obtain ⟨g124, h⟩ := gs h
       refine ol_val (v := (pt ((sb u95)) (so u95 + Int.toNat s103.2 * 1))) (xr_indexR (K := (kI .u64)) (v := u95) rfl Try.underlying46 sz22 e42 o96.rd e44 g124.1 g124.2) rfl rfl rfl ?_
       refine ol_val (v := .int .u64 (ix t93 s103.2)) (xr_load1 (v := .int .u64 (ix t93 s103.2)) rfl ag22 rfl (o96.rd.elem g124.1 g124.2)) rfl rfl rfl ?_
       refine ol_val (v := .int .u64 (ix t93 s103.2)) (xr_assign rfl rfl) rfl rfl rfl ?_
       refine ol_nil ?_
       refine cw_seq ?_
       refine cw_region ?_
       refine ol_val (v := inner w85 v45 s69.2) (xr_move rfl e11) rfl rfl rfl ?_
       obtain ⟨t125, k126, h⟩ := bs h
       refine ol_op (opv_call rfl cal111 (ac rfl an) (slices_Clone_2.ok fu _ (ix s36.1 s69.2) (inner w85 v45 s69.2) (r89) _ k126)) rfl rfl rfl ?_
       rintro u127 w131 ⟨_, o128, rfl, q130⟩
       have a132 := o128.geO
       have a133 := o128.geO
       have a134 := OffRV.call R0_0 o128 rfl
       have a135 := OffRV.call R0_1 o128 rfl
       have a136 := OffRV.call r89 o128 rfl
       have o128 := Own.base o128 fB.size
       have b_0 := b_0.gr q130
       have b56 := b56.gr q130
       have o30 := o30.gr q130
       have o46 := o46.gr q130
       have o96 := o96.gr q130
       have o114 := o114.gr q130
       have R0_0 := R0_0.gr q130
       have R0_1 := R0_1.gr q130
       have r89 := r89.gr q130
       have fB := fB.gr q130
       refine ol_val (v := u127) (xr_assign rfl rfl) rfl rfl rfl ?_
       refine ol_nil ?_
       refine cw_seq ?_
       obtain ⟨g138, h⟩ := gs h
       obtain ⟨t144, k145, h⟩ := bs h
       refine cw_drawL 8 [fun vz wz => vz = (u127 : Value), fun vz wz => vz = ((pt G55 0) : Value), fun vz wz => vz = (.int .i64 ((ix t27 s36.2).At) : Value), fun vz wz => vz = (.int .i64 (IntKind.i64.wrap (((ix t27 s36.2).At) * 8)) : Value), fun vz wz => ∃ r137 : Rd (kI .u8) wz (subv 1 u127 (Int.toNat (IntKind.i64.wrap (((ix t27 s36.2).At) * 8))) (List.length t125)) (cut t125 (IntKind.i64.wrap (((ix t27 s36.2).At) * 8)) (List.length t125 : Int)), vz = (subv 1 u127 (Int.toNat (IntKind.i64.wrap (((ix t27 s36.2).At) * 8))) (List.length t125) : Value), fun vz wz => vz = (.int .u64 (ix t93 s103.2) : Value), fun vz wz => ∃ v139 : Value, ∃ o141 : Own (kI .u64) 22 wz w.heap.size v139 [(ix t93 s103.2)], vz = (v139 : Value), fun vz wz => ∃ u146 : Value, ∃ o147 : Own (kI .u8) 5 wz w.heap.size u146 t144, vz = (u146 : Value)] mo rfl ⟨fun _ _ _ h _ => h, fun _ _ _ h _ => h, fun _ _ _ h _ => h, fun _ _ _ h _ => h, fun _ _ _ ⟨r137, h⟩ q => ⟨r137.gr q, h⟩, fun _ _ _ h _ => h, fun _ _ _ ⟨v139, o141, h⟩ q => ⟨v139, o141.gr q, h⟩, fun _ _ _ ⟨u146, o147, h⟩ q => ⟨u146, o147.gr q, h⟩, trivial⟩ ?_ ?_
       ·refine ⟨?_, ?_, ?_, ?_, ?_, ?_, ?_, ?_, trivial⟩
        ·intro ρz wz hz hk hd
         exact sk_val (v := u127) (xr_move rfl ((hk 14 rfl).trans rfl)) rfl rfl
        ·intro ρz wz hz hk hd
         exact sk_val (v := (pt G55 0)) (xr_fieldAddr (p := 0) (q := 0) rfl fl55_0 ((hk 8 rfl).trans e8)) rfl rfl
        ·intro ρz wz hz hk hd
         exact sk_val (v := .int .i64 ((ix t27 s36.2).At)) (xr_load1 (v := .int .i64 ((ix t27 s36.2).At)) rfl ag3 (hd 1 rfl 51 rfl) ((b56.gr hz).seg 0 rfl rfl)) rfl rfl
        ·intro ρz wz hz hk hd
         exact sk_val (v := .int .i64 (IntKind.i64.wrap (((ix t27 s36.2).At) * 8))) (xr_mul rfl (hd 2 rfl 52 rfl) rfl) rfl rfl
        ·intro ρz wz hz hk hd
         exact sk_val (xr_slice_l (K := (kI .u8)) (v := u127) rfl Try.underlying43 sz5 (hd 0 rfl 50 rfl) (o128.gr hz).rd (hd 3 rfl 53 rfl) g138.1 g138.2) rfl ⟨(o128.gr hz).rd.cut (lo := (IntKind.i64.wrap (((ix t27 s36.2).At) * 8))) (hi := (List.length t125 : Int)) g138.1 g138.2 (Int.le_refl _), rfl⟩
        ·intro ρz wz hz hk hd
         exact sk_val (v := .int .u64 (ix t93 s103.2)) (xr_move rfl ((hk 13 rfl).trans rfl)) rfl rfl
        ·intro ρz wz hz hk hd
         refine sk_op (opv_buildSlice (K := (kI .u64)) (xs := [(ix t93 s103.2)]) (vals := [.int .u64 (ix t93 s103.2)]) rfl Try.underlying46 el22 rfl rfl ⟨rfl, (hd 5 rfl 55 rfl), trivial⟩ rfl rfl rfl (Nat.le_trans fB.size hz.size)) rfl ?_
         rintro v139 wy ⟨o141, q140, z142⟩
         exact ⟨⟨v139, o141, rfl⟩, q140⟩
        intro ρz wz hz hk hd
        obtain ⟨v139, o141, d56⟩ := hd 6 rfl 56 rfl
        refine sk_op (opv_call rfl cal104 (ac d56 an) (octet_Octets.ok fu _ [(ix t93 s103.2)] v139 (o141.rd) _ k145)) rfl ?_
        rintro u146 wy ⟨_, o147, rfl, q149⟩
        exact ⟨⟨u146, Own.base o147 ((Nat.le_trans fB.size hz.size)), rfl⟩, q149⟩
       intro ρ150 w151 q152 hk hd
       have e8 := (hk 8 rfl).trans e8
       have e9 := (hk 9 rfl).trans e9
       have e11 := (hk 11 rfl).trans e11
       have e14 := (hk 14 rfl).trans rfl
       have e29 := (hk 29 rfl).trans e29
       have e30 := (hk 30 rfl).trans e30
       have e31 := (hk 31 rfl).trans e31
       have e35 := (hk 35 rfl).trans e35
       have e36 := (hk 36 rfl).trans e36
       have e37 := (hk 37 rfl).trans e37
       have e42 := (hk 42 rfl).trans e42
       have e43 := (hk 43 rfl).trans e43
       have e44 := (hk 44 rfl).trans e44
       obtain ⟨r153, e54⟩ := hd 4 rfl 54 rfl
       obtain ⟨u154, o155, e57⟩ := hd 7 rfl 57 rfl
       have b_0 := b_0.gr q152
       have b56 := b56.gr q152
       have o30 := o30.gr q152
       have o46 := o46.gr q152
       have o96 := o96.gr q152
       have o114 := o114.gr q152
       have o128 := o128.gr q152
       have R0_0 := R0_0.gr q152
       have R0_1 := R0_1.gr q152
       have r89 := r89.gr q152
       have fB := fB.gr q152
       obtain ⟨g158, h⟩ := gs h
       have f159 := off_ty b_0 o128 (by decide)
       have f160 := off_ty b56 o128 (by decide)
       have f161 := OffV.ty o30 o128 (by decide)
       have f162 := OffV.ty o46.ow o128 (by decide)
       have f162 := And.intro f162 (offi_ge (w := w151) (e := 5) a132)
       have f163 := OffV.ty o96 o128 (by decide)
       have f164 := OffV.ty o114.ow o128 (by decide)
       have f164 := And.intro f164 (offi_ge (w := w151) (e := 5) a133)
       have f165 := o128.geO
       refine ol_op (opv_copyCut rfl Try.underlying43 sz5 rfl e54 rfl e57 o128 g158.1 g158.2 o155.rd) rfl rfl rfl ?_
       rintro _ w166 ⟨rfl, o128, q157⟩
       have b_0 := b_0.wrO q157 f159
       have b56 := b56.wrO q157 f160
       have o30 := o30.wrV q157 f161
       have o46 := o46.wrV q157 f162
       have o96 := o96.wrV q157 f163
       have o114 := o114.wrV q157 f164
       have fB := fB.wrO q157 f165
       have R0_0 := R0_0.wrV q157 a134
       have R0_1 := R0_1.wrV q157 a135
       have r89 := r89.wrV q157 a136
       refine ol_nil ?_
       refine cw_region ?_
       refine ol_val (v := v113) (xr_move rfl e9) rfl rfl rfl ?_
       refine ol_val (v := u127) (xr_move rfl e14) rfl rfl rfl ?_
       refine ol_op (opv_build1S rfl Try.underlying100 el43 rfl o128 rfl fB.size) rfl rfl rfl ?_
       rintro v167 w172 ⟨S169, q168, z170⟩
       have a173 := OffV.new o46.ow z170
       have a174 := OffV.new o114.ow z170
       have a175 := OffRV.new R0_0 z170 rfl
       have a176 := OffRV.new R0_1 z170 rfl
       have a177 := OffRV.new r89 z170 rfl
       have b_0 := b_0.gr q168
       have b56 := b56.gr q168
       have o30 := o30.gr q168
       have o46 := o46.gr q168
       have o96 := o96.gr q168
       have o114 := o114.gr q168
       have R0_0 := R0_0.gr q168
       have R0_1 := R0_1.gr q168
       have r89 := r89.gr q168
       have fB := fB.gr q168
       obtain ⟨g182, h⟩ := gs h
       have f185 := off_ty b_0 o114.ow (by decide)
       have f186 := off_ty b56 o114.ow (by decide)
       have f187 := OffV.ty o30 o114.ow (by decide)
       have f188 := a116
       have f188 := And.intro f188 (offi_v (e := 5) (H := w121.heap.size) o114.ow (by decide))
       have f189 := OffV.ty o96 o114.ow (by decide)
       have f190 := o114.geO
       refine ol_op (opv_appendS rfl Try.underlying100 el43 rfl rfl rfl rfl o114 S169 (by decide) g182 fB.size) rfl rfl rfl ?_
       rintro v178 w191 ⟨S183, q180, n181⟩
       have a192 := OffV.app o46.ow f188.1 n181
       have a193 := OffRV.app R0_0 a117 n181 rfl
       have a194 := OffRV.app R0_1 a118 n181 rfl
       have a195 := OffRV.app r89 a119 n181 rfl
       have b_0 := b_0.wrO q180 f185
       have b56 := b56.wrO q180 f186
       have o30 := o30.wrV q180 f187
       have o46 := o46.wrV q180 f188
       have o96 := o96.wrV q180 f189
       have fB := fB.wrO q180 f190
       have R0_0 := R0_0.wrV q180 a117
       have R0_1 := R0_1.wrV q180 a118
       have r89 := r89.wrV q180 a119
       refine ol_val (v := v178) (xr_assign rfl rfl) rfl rfl rfl ?_
       refine ol_nil ?_
       refine blk_i ?_
       refine cw_region ?_
       refine ol_val (v := .int .i64 (IntKind.i64.wrap (s103.2 + 1))) (xr_add rfl e44 rfl) rfl rfl rfl ?_
       refine ol_val (v := .int .i64 (IntKind.i64.wrap (s103.2 + 1))) (xr_move rfl rfl) rfl rfl rfl ?_
       refine ol_nil ?_
       obtain rfl := Option.some.inj h
       refine lp_in ?_
       exact ⟨v178, o30, o46.bound, o96, S183.bound, R0_0, R0_1, r89, a192, a193, a194, a195, e8, rfl, e11, e29, e30, e31, e35, e36, e37, e42, e43, rfl, b_0, b56, fB⟩
      refine cw_condF rfl c123 ?_
      refine cw_exit ?_
      repeat (first | with_reducible refine thn_e ?_ | with_reducible refine blk_e rfl ?_)
      obtain rfl := Option.some.inj h
      refine lp_exit ?_
      rintro rfl
      refine thn_x ?_
      exact ⟨v113, o30, o46.bound, o114.bound, R0_0, R0_1, a116, a117, a118, e8, e9, e29, e30, e31, e35, e36, e37, b_0, b56, fB⟩
     rintro ρ196 w197 ⟨v107, o30, o46, o108, R0_0, R0_1, a110, a111, a112, e8, e9, e29, e30, e31, e35, e36, e37, b_0, b56, fB⟩
     have h := h106
     refine blk_i ?_
     refine cw_region ?_
     refine ol_val (v := .int .i64 (IntKind.i64.wrap (s69.2 + 1))) (xr_add rfl e37 rfl) rfl rfl rfl ?_
     refine ol_val (v := .int .i64 (IntKind.i64.wrap (s69.2 + 1))) (xr_move rfl rfl) rfl rfl rfl ?_
     refine ol_nil ?_
     obtain rfl := Option.some.inj h
     refine lp_in ?_
     exact ⟨v107, o30, o46.bound, o108.bound, R0_0, R0_1, a110, a111, a112, e8, e9, e29, e30, e31, e35, e36, rfl, b_0, b56, fB⟩
    refine cw_condF rfl c87 ?_
    refine cw_exit ?_
    repeat (first | with_reducible refine thn_e ?_ | with_reducible refine blk_e rfl ?_)
    obtain rfl := Option.some.inj h
    refine lp_exit ?_
    rintro rfl
    refine thn_x ?_
    exact ⟨v78, o30, o79.bound, R0_0, R0_1, a82, a83, e9, e29, e30, e31, b_0, fB⟩
   rintro ρ198 w199 ⟨v73, o30, o74, R0_0, R0_1, a76, a77, e9, e29, e30, e31, b_0, fB⟩
   have h := h72
   refine cw_region ?_
   refine ol_val (v := v73) (xr_move rfl e9) rfl rfl rfl ?_
   refine ol_val (v := v73) (xr_assign rfl rfl) rfl rfl rfl ?_
   refine ol_nil ?_
   refine blk_i ?_
   refine cw_region ?_
   refine ol_val (v := .int .i64 (IntKind.i64.wrap (s36.2 + 1))) (xr_add rfl e31 rfl) rfl rfl rfl ?_
   refine ol_val (v := .int .i64 (IntKind.i64.wrap (s36.2 + 1))) (xr_move rfl rfl) rfl rfl rfl ?_
   refine ol_nil ?_
   obtain rfl := Option.some.inj h
   refine lp_in ?_
   exact ⟨v73, o30, o74.bound, R0_0, R0_1, a76, a77, rfl, e29, e30, rfl, b_0, fB⟩
  refine cw_condF rfl c53 ?_
  refine cw_exit ?_
  repeat (first | with_reducible refine thn_e ?_ | with_reducible refine blk_e rfl ?_)
  obtain rfl := Option.some.inj h
  refine lp_exit ?_
  rintro rfl
  refine thn_x ?_
  exact ⟨v45, o46.bound, R0_0, R0_1, a48, a49, e6, b_0, fB⟩
 rintro ρ200 w201 ⟨v40, o41, R0_0, R0_1, a43, a44, e6, b_0, fB⟩
 have h := h39
 refine cw_seq ?_
 refine cw_region ?_
 refine ol_val (v := v40) (xr_move rfl e6) rfl rfl rfl ?_
 refine ol_val (v := v40) (xr_assign rfl rfl) rfl rfl rfl ?_
 refine ol_nil ?_
 refine cw_ret ?_
 repeat (first | with_reducible refine thn_r ?_ | with_reducible refine blk_r ?_)
 obtain rfl := Option.some.inj h
 refine fin_ret1 Try.results67 rfl ?_
 exact ⟨_, rfl, v40, o41.rd, rfl, fB⟩
def rickyardlaw06_FateCrashes.s0 (fu : Nat) (t280 : (List Int)) (t314 : (List (List Int))) : (Int × Int) → Option (Sum Int (Int × Int)) := fun s325 => (if (decide (s325.2 < (List.length t314 : Int))) = true then (if 0 ≤ s325.2 ∧ s325.2 < (List.length t314 : Int) then (((if (decide ((List.map toB (ix t314 s325.2)) = (List.map toB t280))) = true then some ((IntKind.i64.wrap (s325.1 + 1))) else some (s325.1)) : Option Int).bind fun x339 => some (Sum.inr (x339, (IntKind.i64.wrap (s325.2 + 1))))) else none) else some (Sum.inl (s325.1)))
def rickyardlaw06_FateCrashes.s1 (fu : Nat) (t394 : (List Int)) (t428 : (List (List Int))) : (Int × Int) → Option (Sum Int (Int × Int)) := fun s439 => (if (decide (s439.2 < (List.length t428 : Int))) = true then (if 0 ≤ s439.2 ∧ s439.2 < (List.length t428 : Int) then (((if (decide ((List.map toB (ix t428 s439.2)) = (List.map toB t394))) = true then some ((IntKind.i64.wrap (s439.1 + 1))) else some (s439.1)) : Option Int).bind fun x453 => some (Sum.inr (x453, (IntKind.i64.wrap (s439.2 + 1))))) else none) else some (Sum.inl (s439.1)))
def rickyardlaw06_FateCrashes.s2 (fu : Nat) (t556 : (List Int)) (t590 : (List (List Int))) : (Int × Int) → Option (Sum Int (Int × Int)) := fun s601 => (if (decide (s601.2 < (List.length t590 : Int))) = true then (if 0 ≤ s601.2 ∧ s601.2 < (List.length t590 : Int) then (((if (decide ((List.map toB (ix t590 s601.2)) = (List.map toB t556))) = true then some ((IntKind.i64.wrap (s601.1 + 1))) else some (s601.1)) : Option Int).bind fun x615 => some (Sum.inr (x615, (IntKind.i64.wrap (s601.2 + 1))))) else none) else some (Sum.inl (s601.1)))
def rickyardlaw06_FateCrashes.s3 (fu : Nat) (t670 : (List Int)) (t704 : (List (List Int))) : (Int × Int) → Option (Sum Int (Int × Int)) := fun s715 => (if (decide (s715.2 < (List.length t704 : Int))) = true then (if 0 ≤ s715.2 ∧ s715.2 < (List.length t704 : Int) then (((if (decide ((List.map toB (ix t704 s715.2)) = (List.map toB t670))) = true then some ((IntKind.i64.wrap (s715.1 + 1))) else some (s715.1)) : Option Int).bind fun x729 => some (Sum.inr (x729, (IntKind.i64.wrap (s715.2 + 1))))) else none) else some (Sum.inl (s715.1)))
def rickyardlaw06_FateCrashes.f (fu : Nat) (a0 : Int) (a1 : List S_rickyardlaw05_Act) (a2 : List Int) : Option Bool := ((((rickyardlaw06_awake.f fu).bind fun t3 => (if (!t3) = true then some (true) else some ((decide ((List.length a2 : Int) > 60))))) : Option Bool).bind fun x1 => (if x1 = true then ((rickyardlaw06_awake.f fu).bind fun t12 => some (t12)) else ((rickyardlaw06_made.f fu a0 a1).bind fun t16 => (Option.elim t16.1 (Option.elim t16.2 ((rickyardlaw06_made.f fu a0 a1).bind fun t28 => (Option.elim t28.1 (Option.elim t28.2 (some (true)) (fun m39 => some (true))) (fun m37 => (Option.elim t28.2 (some (true)) (fun m75 => some (true)))))) (fun m27 => ((rickyardlaw06_made.f fu a0 a1).bind fun t123 => (Option.elim t123.1 (Option.elim t123.2 (some (true)) (fun m134 => some (true))) (fun m132 => (Option.elim t123.2 (some (true)) (fun m170 => some (true)))))))) (fun m25 => (Option.elim t16.2 ((rickyardlaw06_made.f fu a0 a1).bind fun t208 => (Option.elim t208.1 (Option.elim t208.2 (some (true)) (fun m219 => some (true))) (fun m217 => (Option.elim t208.2 ((pmem_Device_Crash.f fu m217 a2).bind fun t262 => ((pmem_Device_Image.f fu t262).bind fun t280 => ((fate_Choose.f fu m25 t280).bind fun t287 => (((if (!t287.2) = true then some (true) else ((fate_May.f fu m25 t280).bind fun t298 => (if (!t298) = true then some (true) else ((pmem_Device_Fates.f fu m25).bind fun t303 => some ((!decide ((List.length t287.1 : Int) = (List.length t303 : Int)))))))) : Option Bool).bind fun x295 => (if x295 = true then some (false) else ((fate_All.f fu m25 64).bind fun t314 => ((fate_Count.f fu m25).bind fun t320 => (if (decide (t320 > 64)) = true then some ((decide ((List.length t314 : Int) = 0))) else ((loopM (rickyardlaw06_FateCrashes.s0 fu t280 t314) fu (0, 0)).bind fun e326 => some ((decide (e326 = 1)))))))))))) (fun m257 => ((pmem_Device_Crash.f fu m217 a2).bind fun t376 => ((pmem_Device_Image.f fu t376).bind fun t394 => ((fate_Choose.f fu m25 t394).bind fun t401 => (((if (!t401.2) = true then some (true) else ((fate_May.f fu m25 t394).bind fun t412 => (if (!t412) = true then some (true) else ((pmem_Device_Fates.f fu m25).bind fun t417 => some ((!decide ((List.length t401.1 : Int) = (List.length t417 : Int)))))))) : Option Bool).bind fun x409 => (if x409 = true then some (false) else ((fate_All.f fu m25 64).bind fun t428 => ((fate_Count.f fu m25).bind fun t434 => (if (decide (t434 > 64)) = true then some ((decide ((List.length t428 : Int) = 0))) else ((loopM (rickyardlaw06_FateCrashes.s1 fu t394 t428) fu (0, 0)).bind fun e440 => some ((decide (e440 = 1))))))))))))))))) (fun m207 => ((rickyardlaw06_made.f fu a0 a1).bind fun t484 => (Option.elim t484.1 (Option.elim t484.2 (some (true)) (fun m495 => some (true))) (fun m493 => (Option.elim t484.2 ((pmem_Device_Crash.f fu m493 a2).bind fun t538 => ((pmem_Device_Image.f fu t538).bind fun t556 => ((fate_Choose.f fu m25 t556).bind fun t563 => (((if (!t563.2) = true then some (true) else ((fate_May.f fu m25 t556).bind fun t574 => (if (!t574) = true then some (true) else ((pmem_Device_Fates.f fu m25).bind fun t579 => some ((!decide ((List.length t563.1 : Int) = (List.length t579 : Int)))))))) : Option Bool).bind fun x571 => (if x571 = true then some (false) else ((fate_All.f fu m25 64).bind fun t590 => ((fate_Count.f fu m25).bind fun t596 => (if (decide (t596 > 64)) = true then some ((decide ((List.length t590 : Int) = 0))) else ((loopM (rickyardlaw06_FateCrashes.s2 fu t556 t590) fu (0, 0)).bind fun e602 => some ((decide (e602 = 1)))))))))))) (fun m533 => ((pmem_Device_Crash.f fu m493 a2).bind fun t652 => ((pmem_Device_Image.f fu t652).bind fun t670 => ((fate_Choose.f fu m25 t670).bind fun t677 => (((if (!t677.2) = true then some (true) else ((fate_May.f fu m25 t670).bind fun t688 => (if (!t688) = true then some (true) else ((pmem_Device_Fates.f fu m25).bind fun t693 => some ((!decide ((List.length t677.1 : Int) = (List.length t693 : Int)))))))) : Option Bool).bind fun x685 => (if x685 = true then some (false) else ((fate_All.f fu m25 64).bind fun t704 => ((fate_Count.f fu m25).bind fun t710 => (if (decide (t710 > 64)) = true then some ((decide ((List.length t704 : Int) = 0))) else ((loopM (rickyardlaw06_FateCrashes.s3 fu t670 t704) fu (0, 0)).bind fun e716 => some ((decide (e716 = 1))))))))))))))))))))))))
theorem rickyardlaw06_FateCrashes.ok (fu : Nat) (w : World) (a0 : Int) (a1 : List S_rickyardlaw05_Act) (V1_0 : Value) (R1_0 : RdN 4 D_rickyardlaw05_Act w V1_0 a1) (a2 : List Int) (V2_0 : Value) (R2_0 : Rd (kI .i64) w V2_0 a2) (r : Bool) (h : rickyardlaw06_FateCrashes.f fu a0 a1 a2 = some r) :
  Calls Try.prog 17 (([.int .u8 a0, V1_0, V2_0] : List Value).toArray) w (fun e w' => ∃ v, e = .returned v ∧ v = .bool r ∧ Gr w w') := by
 unfold rickyardlaw06_FateCrashes.f at h
 have fB : Gr w w := Fr.refl _ _
 refine calls_cw Try.func17 rfl Try.ntmps17 rfl ?_
 refine cw_seq ?_
 refine cw_region ?_
 refine ol_val (v := .bool false) (xr_assign rfl rfl) rfl rfl rfl ?_
 refine ol_nil ?_
 refine cw_seq ?_
 refine cw_seq ?_
 obtain ⟨x1, j2, h⟩ := bs h
 refine cw_mid (fun ρ' w' => ρ' 0 = .int .u8 a0 ∧ ρ' 1 = V1_0 ∧ ρ' 2 = V2_0 ∧ ρ' 23 = .bool x1 ∧ Gr w w') ?_ ?_
 ·skip
  refine cw_region ?_
  obtain ⟨t3, k4, j2⟩ := bs j2
  refine ol_op (opv_call rfl cal49 an (rickyardlaw06_awake.ok fu _ _ k4)) rfl rfl rfl ?_
  rintro _ w6 ⟨rfl, q5⟩
  have fB := fB.gr q5
  refine ol_val (v := .bool (!t3)) (xr_not rfl rfl) rfl rfl rfl ?_
  refine ol_val (v := .bool (!t3)) (xr_move rfl rfl) rfl rfl rfl ?_
  rcases is j2 with ⟨c7, j2⟩ | ⟨c7, j2⟩
  ·skip
   refine ol_gskip rfl rfl rfl rfl rfl c7 ?_
   refine ol_gskip rfl rfl rfl rfl rfl c7 ?_
   refine ol_gskip rfl rfl rfl rfl rfl c7 ?_
   refine ol_val (v := .bool true) (xr_pickT rfl rfl c7 rfl) rfl rfl rfl ?_
   refine ol_nil ?_
   obtain rfl := Option.some.inj j2
   refine thn_i ?_
   exact ⟨rfl, rfl, rfl, rfl, q5⟩
  refine ol_gval (v := V2_0) (xr_move rfl rfl) rfl rfl rfl rfl rfl c7 ?_
  refine ol_gval (v := .int .i64 (List.length a2 : Int)) (xr_lenR rfl Try.underlying25 rfl (R2_0.gr fB)) rfl rfl rfl rfl rfl c7 ?_
  refine ol_gval (v := .bool (decide ((List.length a2 : Int) > 60))) (xr_gtr rfl rfl rfl) rfl rfl rfl rfl rfl c7 ?_
  refine ol_val (v := .bool (decide ((List.length a2 : Int) > 60))) (xr_pickF rfl rfl c7 rfl) rfl rfl rfl ?_
  refine ol_nil ?_
  obtain rfl := Option.some.inj j2
  refine thn_i ?_
  exact ⟨rfl, rfl, rfl, rfl, q5⟩
 rintro ρ8 w9 ⟨e0, e1, e2, e23, q10⟩
 have fB := fB.gr q10
 rcases is h with ⟨c11, h⟩ | ⟨c11, h⟩
 ·refine cw_condT e23 c11 ?_
  refine cw_seq ?_
  refine cw_region ?_
  obtain ⟨t12, k13, h⟩ := bs h
  refine ol_op (opv_call rfl cal49 an (rickyardlaw06_awake.ok fu _ _ k13)) rfl rfl rfl ?_
  rintro _ w15 ⟨rfl, q14⟩
  have fB := fB.gr q14
  refine ol_val (v := .bool t12) (xr_assign rfl rfl) rfl rfl rfl ?_
  refine ol_nil ?_
  refine cw_ret ?_
  repeat (first | with_reducible refine thn_r ?_ | with_reducible refine blk_r ?_)
  obtain rfl := Option.some.inj h
  refine fin_ret1 Try.results17 rfl ?_
  exact ⟨_, rfl, rfl, fB⟩
 refine cw_condF e23 c11 ?_
 refine cw_skip ?_
 refine cw_seq ?_
 refine cw_region ?_
 refine ol_val (v := .int .u8 a0) (xr_move rfl e0) rfl rfl rfl ?_
 refine ol_val (v := V1_0) (xr_move rfl e1) rfl rfl rfl ?_
 obtain ⟨t16, k17, h⟩ := bs h
 refine ol_op (opv_call rfl cal60 (ac rfl (ac rfl an)) (rickyardlaw06_made.ok fu _ a0 a1 V1_0 (RdN.gr R1_0 D_rickyardlaw05_Act.gr fB) _ k17)) rfl rfl rfl ?_
 rintro _ w23 ⟨u18, u20, p19, p21, rfl, q22⟩
 rcases en h with ⟨e24, h⟩ | ⟨m25, e24, h⟩
 ·obtain rfl := p19.1 e24
  rcases en h with ⟨e26, h⟩ | ⟨m27, e26, h⟩
  ·obtain rfl := p21.1 e26
   have fB := fB.gr q22
   refine ol_val (v := .tuple #[.pointer none, .pointer none]) (xr_move rfl rfl) rfl rfl rfl ?_
   refine ol_val (v := .pointer none) (xr_extract rfl rfl rfl) rfl rfl rfl ?_
   refine ol_val (v := .pointer none) (xr_extract rfl rfl rfl) rfl rfl rfl ?_
   refine ol_val (v := .pointer none) (xr_assign rfl rfl) rfl rfl rfl ?_
   refine ol_val (v := .pointer none) (xr_assign rfl rfl) rfl rfl rfl ?_
   refine ol_nil ?_
   refine cw_seq ?_
   refine cw_region ?_
   refine ol_val (v := .int .u8 a0) (xr_move rfl e0) rfl rfl rfl ?_
   refine ol_val (v := V1_0) (xr_move rfl e1) rfl rfl rfl ?_
   obtain ⟨t28, k29, h⟩ := bs h
   refine ol_op (opv_call rfl cal60 (ac rfl (ac rfl an)) (rickyardlaw06_made.ok fu _ a0 a1 V1_0 (RdN.gr R1_0 D_rickyardlaw05_Act.gr fB) _ k29)) rfl rfl rfl ?_
   rintro _ w35 ⟨u30, u32, p31, p33, rfl, q34⟩
   rcases en h with ⟨e36, h⟩ | ⟨m37, e36, h⟩
   ·obtain rfl := p31.1 e36
    rcases en h with ⟨e38, h⟩ | ⟨m39, e38, h⟩
    ·obtain rfl := p33.1 e38
     have fB := fB.gr q34
     refine ol_val (v := .tuple #[.pointer none, .pointer none]) (xr_move rfl rfl) rfl rfl rfl ?_
     refine ol_val (v := .pointer none) (xr_extract rfl rfl rfl) rfl rfl rfl ?_
     refine ol_val (v := .pointer none) (xr_extract rfl rfl rfl) rfl rfl rfl ?_
     refine ol_val (v := .pointer none) (xr_assign rfl rfl) rfl rfl rfl ?_
     refine ol_val (v := .pointer none) (xr_assign rfl rfl) rfl rfl rfl ?_
     refine ol_nil ?_
     refine cw_seq ?_
     refine cw_seq ?_
     refine cw_mid (fun ρ' w' => ρ' 2 = V2_0 ∧ ρ' 7 = .pointer none ∧ ρ' 9 = .pointer none ∧ ρ' 42 = .bool true ∧ w35 = w') ?_ ?_
     ·skip
      refine cw_region ?_
      refine ol_val (v := .pointer none) (xr_move rfl rfl) rfl rfl rfl ?_
      refine ol_val (v := .bool true) (xr_eqP (b := true) rfl Try.underlying30 rfl rfl (by simp) (by simp)) rfl rfl rfl ?_
      refine ol_val (v := .bool true) (xr_move rfl rfl) rfl rfl rfl ?_
      refine ol_gskip rfl rfl rfl rfl rfl rfl ?_
      refine ol_gskip rfl rfl rfl rfl rfl rfl ?_
      refine ol_val (v := .bool true) (xr_pickT rfl rfl rfl rfl) rfl rfl rfl ?_
      refine ol_nil ?_
      refine thn_i ?_
      exact ⟨e2, rfl, rfl, rfl, rfl⟩
     rintro ρ40 _ ⟨e2, e7, e9, e42, rfl⟩
     refine cw_condT e42 rfl ?_
     refine cw_seq ?_
     refine cw_region ?_
     refine ol_val (v := .bool true) (xr_assign rfl rfl) rfl rfl rfl ?_
     refine ol_nil ?_
     refine cw_ret ?_
     repeat (first | with_reducible refine thn_r ?_ | with_reducible refine blk_r ?_)
     obtain rfl := Option.some.inj h
     refine fin_ret1 Try.results17 rfl ?_
     exact ⟨_, rfl, rfl, fB⟩
    obtain ⟨G41, u45, u48, u51, u54, u57, o46, o49, o52, o55, o58, a60, a61, a62, rfl, z42, b43⟩ := p33.2 _ e38
    have o46 := Own.base o46 fB.size
    have o49 := Own.base o49 fB.size
    have o52 := Own.base o52 fB.size
    have o55 := Own.base o55 fB.size
    have o58 := Own.base o58 fB.size
    have z42 := Nat.le_trans fB.size z42
    have fB := fB.gr q34
    refine ol_val (v := .tuple #[.pointer none, (pt G41 0)]) (xr_move rfl rfl) rfl rfl rfl ?_
    refine ol_val (v := .pointer none) (xr_extract rfl rfl rfl) rfl rfl rfl ?_
    refine ol_val (v := (pt G41 0)) (xr_extract rfl rfl rfl) rfl rfl rfl ?_
    refine ol_val (v := .pointer none) (xr_assign rfl rfl) rfl rfl rfl ?_
    refine ol_val (v := (pt G41 0)) (xr_assign rfl rfl) rfl rfl rfl ?_
    refine ol_nil ?_
    refine cw_seq ?_
    refine cw_seq ?_
    refine cw_mid (fun ρ' w' => ρ' 2 = V2_0 ∧ ρ' 7 = .pointer none ∧ ρ' 9 = .pointer none ∧ ρ' 42 = .bool true ∧ w35 = w') ?_ ?_
    ·skip
     refine cw_region ?_
     refine ol_val (v := .pointer none) (xr_move rfl rfl) rfl rfl rfl ?_
     refine ol_val (v := .bool true) (xr_eqP (b := true) rfl Try.underlying30 rfl rfl (by simp) (by simp)) rfl rfl rfl ?_
     refine ol_val (v := .bool true) (xr_move rfl rfl) rfl rfl rfl ?_
     refine ol_gskip rfl rfl rfl rfl rfl rfl ?_
     refine ol_gskip rfl rfl rfl rfl rfl rfl ?_
     refine ol_val (v := .bool true) (xr_pickT rfl rfl rfl rfl) rfl rfl rfl ?_
     refine ol_nil ?_
     refine thn_i ?_
     exact ⟨e2, rfl, rfl, rfl, rfl⟩
    rintro ρ63 _ ⟨e2, e7, e9, e42, rfl⟩
    refine cw_condT e42 rfl ?_
    refine cw_seq ?_
    refine cw_region ?_
    refine ol_val (v := .bool true) (xr_assign rfl rfl) rfl rfl rfl ?_
    refine ol_nil ?_
    refine cw_ret ?_
    repeat (first | with_reducible refine thn_r ?_ | with_reducible refine blk_r ?_)
    obtain rfl := Option.some.inj h
    refine fin_ret1 Try.results17 rfl ?_
    exact ⟨_, rfl, rfl, fB⟩
   obtain ⟨G64, u68, u71, o69, o72, rfl, z65, b66⟩ := p31.2 _ e36
   rcases en h with ⟨e74, h⟩ | ⟨m75, e74, h⟩
   ·obtain rfl := p33.1 e74
    have o69 := Own.base o69 fB.size
    have o72 := Own.base o72 fB.size
    have z65 := Nat.le_trans fB.size z65
    have fB := fB.gr q34
    refine ol_val (v := .tuple #[(pt G64 0), .pointer none]) (xr_move rfl rfl) rfl rfl rfl ?_
    refine ol_val (v := (pt G64 0)) (xr_extract rfl rfl rfl) rfl rfl rfl ?_
    refine ol_val (v := .pointer none) (xr_extract rfl rfl rfl) rfl rfl rfl ?_
    refine ol_val (v := (pt G64 0)) (xr_assign rfl rfl) rfl rfl rfl ?_
    refine ol_val (v := .pointer none) (xr_assign rfl rfl) rfl rfl rfl ?_
    refine ol_nil ?_
    refine cw_seq ?_
    refine cw_seq ?_
    refine cw_mid (fun ρ' w' => ρ' 2 = V2_0 ∧ ρ' 7 = .pointer none ∧ ρ' 9 = (pt G64 0) ∧ ρ' 42 = .bool true ∧ w35 = w') ?_ ?_
    ·skip
     refine cw_region ?_
     refine ol_val (v := .pointer none) (xr_move rfl rfl) rfl rfl rfl ?_
     refine ol_val (v := .bool true) (xr_eqP (b := true) rfl Try.underlying30 rfl rfl (by simp) (by simp)) rfl rfl rfl ?_
     refine ol_val (v := .bool true) (xr_move rfl rfl) rfl rfl rfl ?_
     refine ol_gskip rfl rfl rfl rfl rfl rfl ?_
     refine ol_gskip rfl rfl rfl rfl rfl rfl ?_
     refine ol_val (v := .bool true) (xr_pickT rfl rfl rfl rfl) rfl rfl rfl ?_
     refine ol_nil ?_
     refine thn_i ?_
     exact ⟨e2, rfl, rfl, rfl, rfl⟩
    rintro ρ76 _ ⟨e2, e7, e9, e42, rfl⟩
    refine cw_condT e42 rfl ?_
    refine cw_seq ?_
    refine cw_region ?_
    refine ol_val (v := .bool true) (xr_assign rfl rfl) rfl rfl rfl ?_
    refine ol_nil ?_
    refine cw_ret ?_
    repeat (first | with_reducible refine thn_r ?_ | with_reducible refine blk_r ?_)
    obtain rfl := Option.some.inj h
    refine fin_ret1 Try.results17 rfl ?_
    exact ⟨_, rfl, rfl, fB⟩
   obtain ⟨G77, u81, u84, u87, u90, u93, o82, o85, o88, o91, o94, a96, a97, a98, rfl, z78, b79⟩ := p33.2 _ e74
   have o69 := Own.base o69 fB.size
   have o72 := Own.base o72 fB.size
   have o82 := Own.base o82 fB.size
   have o85 := Own.base o85 fB.size
   have o88 := Own.base o88 fB.size
   have o91 := Own.base o91 fB.size
   have o94 := Own.base o94 fB.size
   have z65 := Nat.le_trans fB.size z65
   have z78 := Nat.le_trans fB.size z78
   have fB := fB.gr q34
   have n99 := Blk.neT b66 b79 (by decide)
   refine ol_val (v := .tuple #[(pt G64 0), (pt G77 0)]) (xr_move rfl rfl) rfl rfl rfl ?_
   refine ol_val (v := (pt G64 0)) (xr_extract rfl rfl rfl) rfl rfl rfl ?_
   refine ol_val (v := (pt G77 0)) (xr_extract rfl rfl rfl) rfl rfl rfl ?_
   refine ol_val (v := (pt G64 0)) (xr_assign rfl rfl) rfl rfl rfl ?_
   refine ol_val (v := (pt G77 0)) (xr_assign rfl rfl) rfl rfl rfl ?_
   refine ol_nil ?_
   refine cw_seq ?_
   refine cw_seq ?_
   refine cw_mid (fun ρ' w' => ρ' 2 = V2_0 ∧ ρ' 7 = .pointer none ∧ ρ' 9 = (pt G64 0) ∧ ρ' 42 = .bool true ∧ w35 = w') ?_ ?_
   ·skip
    refine cw_region ?_
    refine ol_val (v := .pointer none) (xr_move rfl rfl) rfl rfl rfl ?_
    refine ol_val (v := .bool true) (xr_eqP (b := true) rfl Try.underlying30 rfl rfl (by simp) (by simp)) rfl rfl rfl ?_
    refine ol_val (v := .bool true) (xr_move rfl rfl) rfl rfl rfl ?_
    refine ol_gskip rfl rfl rfl rfl rfl rfl ?_
    refine ol_gskip rfl rfl rfl rfl rfl rfl ?_
    refine ol_val (v := .bool true) (xr_pickT rfl rfl rfl rfl) rfl rfl rfl ?_
    refine ol_nil ?_
    refine thn_i ?_
    exact ⟨e2, rfl, rfl, rfl, rfl⟩
   rintro ρ100 _ ⟨e2, e7, e9, e42, rfl⟩
   refine cw_condT e42 rfl ?_
   refine cw_seq ?_
   refine cw_region ?_
   refine ol_val (v := .bool true) (xr_assign rfl rfl) rfl rfl rfl ?_
   refine ol_nil ?_
   refine cw_ret ?_
   repeat (first | with_reducible refine thn_r ?_ | with_reducible refine blk_r ?_)
   obtain rfl := Option.some.inj h
   refine fin_ret1 Try.results17 rfl ?_
   exact ⟨_, rfl, rfl, fB⟩
  obtain ⟨G101, u105, u108, u111, u114, u117, o106, o109, o112, o115, o118, a120, a121, a122, rfl, z102, b103⟩ := p21.2 _ e26
  have o106 := Own.base o106 fB.size
  have o109 := Own.base o109 fB.size
  have o112 := Own.base o112 fB.size
  have o115 := Own.base o115 fB.size
  have o118 := Own.base o118 fB.size
  have z102 := Nat.le_trans fB.size z102
  have fB := fB.gr q22
  refine ol_val (v := .tuple #[.pointer none, (pt G101 0)]) (xr_move rfl rfl) rfl rfl rfl ?_
  refine ol_val (v := .pointer none) (xr_extract rfl rfl rfl) rfl rfl rfl ?_
  refine ol_val (v := (pt G101 0)) (xr_extract rfl rfl rfl) rfl rfl rfl ?_
  refine ol_val (v := .pointer none) (xr_assign rfl rfl) rfl rfl rfl ?_
  refine ol_val (v := (pt G101 0)) (xr_assign rfl rfl) rfl rfl rfl ?_
  refine ol_nil ?_
  refine cw_seq ?_
  refine cw_region ?_
  refine ol_val (v := .int .u8 a0) (xr_move rfl e0) rfl rfl rfl ?_
  refine ol_val (v := V1_0) (xr_move rfl e1) rfl rfl rfl ?_
  obtain ⟨t123, k124, h⟩ := bs h
  refine ol_op (opv_call rfl cal60 (ac rfl (ac rfl an)) (rickyardlaw06_made.ok fu _ a0 a1 V1_0 (RdN.gr R1_0 D_rickyardlaw05_Act.gr fB) _ k124)) rfl rfl rfl ?_
  rintro _ w130 ⟨u125, u127, p126, p128, rfl, q129⟩
  rcases en h with ⟨e131, h⟩ | ⟨m132, e131, h⟩
  ·obtain rfl := p126.1 e131
   rcases en h with ⟨e133, h⟩ | ⟨m134, e133, h⟩
   ·obtain rfl := p128.1 e133
    have fB := fB.gr q129
    refine ol_val (v := .tuple #[.pointer none, .pointer none]) (xr_move rfl rfl) rfl rfl rfl ?_
    refine ol_val (v := .pointer none) (xr_extract rfl rfl rfl) rfl rfl rfl ?_
    refine ol_val (v := .pointer none) (xr_extract rfl rfl rfl) rfl rfl rfl ?_
    refine ol_val (v := .pointer none) (xr_assign rfl rfl) rfl rfl rfl ?_
    refine ol_val (v := .pointer none) (xr_assign rfl rfl) rfl rfl rfl ?_
    refine ol_nil ?_
    refine cw_seq ?_
    refine cw_seq ?_
    refine cw_mid (fun ρ' w' => ρ' 2 = V2_0 ∧ ρ' 7 = .pointer none ∧ ρ' 9 = .pointer none ∧ ρ' 42 = .bool true ∧ w130 = w') ?_ ?_
    ·skip
     refine cw_region ?_
     refine ol_val (v := .pointer none) (xr_move rfl rfl) rfl rfl rfl ?_
     refine ol_val (v := .bool true) (xr_eqP (b := true) rfl Try.underlying30 rfl rfl (by simp) (by simp)) rfl rfl rfl ?_
     refine ol_val (v := .bool true) (xr_move rfl rfl) rfl rfl rfl ?_
     refine ol_gskip rfl rfl rfl rfl rfl rfl ?_
     refine ol_gskip rfl rfl rfl rfl rfl rfl ?_
     refine ol_val (v := .bool true) (xr_pickT rfl rfl rfl rfl) rfl rfl rfl ?_
     refine ol_nil ?_
     refine thn_i ?_
     exact ⟨e2, rfl, rfl, rfl, rfl⟩
    rintro ρ135 _ ⟨e2, e7, e9, e42, rfl⟩
    refine cw_condT e42 rfl ?_
    refine cw_seq ?_
    refine cw_region ?_
    refine ol_val (v := .bool true) (xr_assign rfl rfl) rfl rfl rfl ?_
    refine ol_nil ?_
    refine cw_ret ?_
    repeat (first | with_reducible refine thn_r ?_ | with_reducible refine blk_r ?_)
    obtain rfl := Option.some.inj h
    refine fin_ret1 Try.results17 rfl ?_
    exact ⟨_, rfl, rfl, fB⟩
   obtain ⟨G136, u140, u143, u146, u149, u152, o141, o144, o147, o150, o153, a155, a156, a157, rfl, z137, b138⟩ := p128.2 _ e133
   have o141 := Own.base o141 fB.size
   have o144 := Own.base o144 fB.size
   have o147 := Own.base o147 fB.size
   have o150 := Own.base o150 fB.size
   have o153 := Own.base o153 fB.size
   have z137 := Nat.le_trans fB.size z137
   have fB := fB.gr q129
   refine ol_val (v := .tuple #[.pointer none, (pt G136 0)]) (xr_move rfl rfl) rfl rfl rfl ?_
   refine ol_val (v := .pointer none) (xr_extract rfl rfl rfl) rfl rfl rfl ?_
   refine ol_val (v := (pt G136 0)) (xr_extract rfl rfl rfl) rfl rfl rfl ?_
   refine ol_val (v := .pointer none) (xr_assign rfl rfl) rfl rfl rfl ?_
   refine ol_val (v := (pt G136 0)) (xr_assign rfl rfl) rfl rfl rfl ?_
   refine ol_nil ?_
   refine cw_seq ?_
   refine cw_seq ?_
   refine cw_mid (fun ρ' w' => ρ' 2 = V2_0 ∧ ρ' 7 = .pointer none ∧ ρ' 9 = .pointer none ∧ ρ' 42 = .bool true ∧ w130 = w') ?_ ?_
   ·skip
    refine cw_region ?_
    refine ol_val (v := .pointer none) (xr_move rfl rfl) rfl rfl rfl ?_
    refine ol_val (v := .bool true) (xr_eqP (b := true) rfl Try.underlying30 rfl rfl (by simp) (by simp)) rfl rfl rfl ?_
    refine ol_val (v := .bool true) (xr_move rfl rfl) rfl rfl rfl ?_
    refine ol_gskip rfl rfl rfl rfl rfl rfl ?_
    refine ol_gskip rfl rfl rfl rfl rfl rfl ?_
    refine ol_val (v := .bool true) (xr_pickT rfl rfl rfl rfl) rfl rfl rfl ?_
    refine ol_nil ?_
    refine thn_i ?_
    exact ⟨e2, rfl, rfl, rfl, rfl⟩
   rintro ρ158 _ ⟨e2, e7, e9, e42, rfl⟩
   refine cw_condT e42 rfl ?_
   refine cw_seq ?_
   refine cw_region ?_
   refine ol_val (v := .bool true) (xr_assign rfl rfl) rfl rfl rfl ?_
   refine ol_nil ?_
   refine cw_ret ?_
   repeat (first | with_reducible refine thn_r ?_ | with_reducible refine blk_r ?_)
   obtain rfl := Option.some.inj h
   refine fin_ret1 Try.results17 rfl ?_
   exact ⟨_, rfl, rfl, fB⟩
  obtain ⟨G159, u163, u166, o164, o167, rfl, z160, b161⟩ := p126.2 _ e131
  rcases en h with ⟨e169, h⟩ | ⟨m170, e169, h⟩
  ·obtain rfl := p128.1 e169
   have o164 := Own.base o164 fB.size
   have o167 := Own.base o167 fB.size
   have z160 := Nat.le_trans fB.size z160
   have fB := fB.gr q129
   refine ol_val (v := .tuple #[(pt G159 0), .pointer none]) (xr_move rfl rfl) rfl rfl rfl ?_
   refine ol_val (v := (pt G159 0)) (xr_extract rfl rfl rfl) rfl rfl rfl ?_
   refine ol_val (v := .pointer none) (xr_extract rfl rfl rfl) rfl rfl rfl ?_
   refine ol_val (v := (pt G159 0)) (xr_assign rfl rfl) rfl rfl rfl ?_
   refine ol_val (v := .pointer none) (xr_assign rfl rfl) rfl rfl rfl ?_
   refine ol_nil ?_
   refine cw_seq ?_
   refine cw_seq ?_
   refine cw_mid (fun ρ' w' => ρ' 2 = V2_0 ∧ ρ' 7 = .pointer none ∧ ρ' 9 = (pt G159 0) ∧ ρ' 42 = .bool true ∧ w130 = w') ?_ ?_
   ·skip
    refine cw_region ?_
    refine ol_val (v := .pointer none) (xr_move rfl rfl) rfl rfl rfl ?_
    refine ol_val (v := .bool true) (xr_eqP (b := true) rfl Try.underlying30 rfl rfl (by simp) (by simp)) rfl rfl rfl ?_
    refine ol_val (v := .bool true) (xr_move rfl rfl) rfl rfl rfl ?_
    refine ol_gskip rfl rfl rfl rfl rfl rfl ?_
    refine ol_gskip rfl rfl rfl rfl rfl rfl ?_
    refine ol_val (v := .bool true) (xr_pickT rfl rfl rfl rfl) rfl rfl rfl ?_
    refine ol_nil ?_
    refine thn_i ?_
    exact ⟨e2, rfl, rfl, rfl, rfl⟩
   rintro ρ171 _ ⟨e2, e7, e9, e42, rfl⟩
   refine cw_condT e42 rfl ?_
   refine cw_seq ?_
   refine cw_region ?_
   refine ol_val (v := .bool true) (xr_assign rfl rfl) rfl rfl rfl ?_
   refine ol_nil ?_
   refine cw_ret ?_
   repeat (first | with_reducible refine thn_r ?_ | with_reducible refine blk_r ?_)
   obtain rfl := Option.some.inj h
   refine fin_ret1 Try.results17 rfl ?_
   exact ⟨_, rfl, rfl, fB⟩
  obtain ⟨G172, u176, u179, u182, u185, u188, o177, o180, o183, o186, o189, a191, a192, a193, rfl, z173, b174⟩ := p128.2 _ e169
  have o164 := Own.base o164 fB.size
  have o167 := Own.base o167 fB.size
  have o177 := Own.base o177 fB.size
  have o180 := Own.base o180 fB.size
  have o183 := Own.base o183 fB.size
  have o186 := Own.base o186 fB.size
  have o189 := Own.base o189 fB.size
  have z160 := Nat.le_trans fB.size z160
  have z173 := Nat.le_trans fB.size z173
  have fB := fB.gr q129
  have n194 := Blk.neT b161 b174 (by decide)
  refine ol_val (v := .tuple #[(pt G159 0), (pt G172 0)]) (xr_move rfl rfl) rfl rfl rfl ?_
  refine ol_val (v := (pt G159 0)) (xr_extract rfl rfl rfl) rfl rfl rfl ?_
  refine ol_val (v := (pt G172 0)) (xr_extract rfl rfl rfl) rfl rfl rfl ?_
  refine ol_val (v := (pt G159 0)) (xr_assign rfl rfl) rfl rfl rfl ?_
  refine ol_val (v := (pt G172 0)) (xr_assign rfl rfl) rfl rfl rfl ?_
  refine ol_nil ?_
  refine cw_seq ?_
  refine cw_seq ?_
  refine cw_mid (fun ρ' w' => ρ' 2 = V2_0 ∧ ρ' 7 = .pointer none ∧ ρ' 9 = (pt G159 0) ∧ ρ' 42 = .bool true ∧ w130 = w') ?_ ?_
  ·skip
   refine cw_region ?_
   refine ol_val (v := .pointer none) (xr_move rfl rfl) rfl rfl rfl ?_
   refine ol_val (v := .bool true) (xr_eqP (b := true) rfl Try.underlying30 rfl rfl (by simp) (by simp)) rfl rfl rfl ?_
   refine ol_val (v := .bool true) (xr_move rfl rfl) rfl rfl rfl ?_
   refine ol_gskip rfl rfl rfl rfl rfl rfl ?_
   refine ol_gskip rfl rfl rfl rfl rfl rfl ?_
   refine ol_val (v := .bool true) (xr_pickT rfl rfl rfl rfl) rfl rfl rfl ?_
   refine ol_nil ?_
   refine thn_i ?_
   exact ⟨e2, rfl, rfl, rfl, rfl⟩
  rintro ρ195 _ ⟨e2, e7, e9, e42, rfl⟩
  refine cw_condT e42 rfl ?_
  refine cw_seq ?_
  refine cw_region ?_
  refine ol_val (v := .bool true) (xr_assign rfl rfl) rfl rfl rfl ?_
  refine ol_nil ?_
  refine cw_ret ?_
  repeat (first | with_reducible refine thn_r ?_ | with_reducible refine blk_r ?_)
  obtain rfl := Option.some.inj h
  refine fin_ret1 Try.results17 rfl ?_
  exact ⟨_, rfl, rfl, fB⟩
 obtain ⟨G196, u200, u203, o201, o204, rfl, z197, b198⟩ := p19.2 _ e24
 rcases en h with ⟨e206, h⟩ | ⟨m207, e206, h⟩
 ·obtain rfl := p21.1 e206
  have o201 := Own.base o201 fB.size
  have o204 := Own.base o204 fB.size
  have z197 := Nat.le_trans fB.size z197
  have fB := fB.gr q22
  refine ol_val (v := .tuple #[(pt G196 0), .pointer none]) (xr_move rfl rfl) rfl rfl rfl ?_
  refine ol_val (v := (pt G196 0)) (xr_extract rfl rfl rfl) rfl rfl rfl ?_
  refine ol_val (v := .pointer none) (xr_extract rfl rfl rfl) rfl rfl rfl ?_
  refine ol_val (v := (pt G196 0)) (xr_assign rfl rfl) rfl rfl rfl ?_
  refine ol_val (v := .pointer none) (xr_assign rfl rfl) rfl rfl rfl ?_
  refine ol_nil ?_
  refine cw_seq ?_
  refine cw_region ?_
  refine ol_val (v := .int .u8 a0) (xr_move rfl e0) rfl rfl rfl ?_
  refine ol_val (v := V1_0) (xr_move rfl e1) rfl rfl rfl ?_
  obtain ⟨t208, k209, h⟩ := bs h
  refine ol_op (opv_call rfl cal60 (ac rfl (ac rfl an)) (rickyardlaw06_made.ok fu _ a0 a1 V1_0 (RdN.gr R1_0 D_rickyardlaw05_Act.gr fB) _ k209)) rfl rfl rfl ?_
  rintro _ w215 ⟨u210, u212, p211, p213, rfl, q214⟩
  rcases en h with ⟨e216, h⟩ | ⟨m217, e216, h⟩
  ·obtain rfl := p211.1 e216
   rcases en h with ⟨e218, h⟩ | ⟨m219, e218, h⟩
   ·obtain rfl := p213.1 e218
    have b198 := b198.gr q214
    have o201 := o201.gr q214
    have o204 := o204.gr q214
    have fB := fB.gr q214
    refine ol_val (v := .tuple #[.pointer none, .pointer none]) (xr_move rfl rfl) rfl rfl rfl ?_
    refine ol_val (v := .pointer none) (xr_extract rfl rfl rfl) rfl rfl rfl ?_
    refine ol_val (v := .pointer none) (xr_extract rfl rfl rfl) rfl rfl rfl ?_
    refine ol_val (v := .pointer none) (xr_assign rfl rfl) rfl rfl rfl ?_
    refine ol_val (v := .pointer none) (xr_assign rfl rfl) rfl rfl rfl ?_
    refine ol_nil ?_
    refine cw_seq ?_
    refine cw_seq ?_
    refine cw_mid (fun ρ' w' => ρ' 2 = V2_0 ∧ ρ' 7 = (pt G196 0) ∧ ρ' 9 = .pointer none ∧ ρ' 42 = .bool true ∧ w215 = w') ?_ ?_
    ·skip
     refine cw_region ?_
     refine ol_val (v := (pt G196 0)) (xr_move rfl rfl) rfl rfl rfl ?_
     refine ol_val (v := .bool false) (xr_eqP (b := false) rfl Try.underlying30 rfl rfl (by simp) (by simp)) rfl rfl rfl ?_
     refine ol_val (v := .bool false) (xr_move rfl rfl) rfl rfl rfl ?_
     refine ol_gval (v := .pointer none) (xr_move rfl rfl) rfl rfl rfl rfl rfl rfl ?_
     refine ol_gval (v := .bool true) (xr_eqP (b := true) rfl Try.underlying30 rfl rfl (by simp) (by simp)) rfl rfl rfl rfl rfl rfl ?_
     refine ol_val (v := .bool true) (xr_pickF rfl rfl rfl rfl) rfl rfl rfl ?_
     refine ol_nil ?_
     refine thn_i ?_
     exact ⟨e2, rfl, rfl, rfl, rfl⟩
    rintro ρ220 _ ⟨e2, e7, e9, e42, rfl⟩
    refine cw_condT e42 rfl ?_
    refine cw_seq ?_
    refine cw_region ?_
    refine ol_val (v := .bool true) (xr_assign rfl rfl) rfl rfl rfl ?_
    refine ol_nil ?_
    refine cw_ret ?_
    repeat (first | with_reducible refine thn_r ?_ | with_reducible refine blk_r ?_)
    obtain rfl := Option.some.inj h
    refine fin_ret1 Try.results17 rfl ?_
    exact ⟨_, rfl, rfl, fB⟩
   obtain ⟨G221, u225, u228, u231, u234, u237, o226, o229, o232, o235, o238, a240, a241, a242, rfl, z222, b223⟩ := p213.2 _ e218
   have a243 := OffV.call o204 o238
   have o226 := Own.base o226 fB.size
   have o229 := Own.base o229 fB.size
   have o232 := Own.base o232 fB.size
   have o235 := Own.base o235 fB.size
   have o238 := Own.base o238 fB.size
   have n244 := b198.ne z222
   have z222 := Nat.le_trans fB.size z222
   have b198 := b198.gr q214
   have o201 := o201.gr q214
   have o204 := o204.gr q214
   have fB := fB.gr q214
   refine ol_val (v := .tuple #[.pointer none, (pt G221 0)]) (xr_move rfl rfl) rfl rfl rfl ?_
   refine ol_val (v := .pointer none) (xr_extract rfl rfl rfl) rfl rfl rfl ?_
   refine ol_val (v := (pt G221 0)) (xr_extract rfl rfl rfl) rfl rfl rfl ?_
   refine ol_val (v := .pointer none) (xr_assign rfl rfl) rfl rfl rfl ?_
   refine ol_val (v := (pt G221 0)) (xr_assign rfl rfl) rfl rfl rfl ?_
   refine ol_nil ?_
   refine cw_seq ?_
   refine cw_seq ?_
   refine cw_mid (fun ρ' w' => ρ' 2 = V2_0 ∧ ρ' 7 = (pt G196 0) ∧ ρ' 9 = .pointer none ∧ ρ' 42 = .bool true ∧ w215 = w') ?_ ?_
   ·skip
    refine cw_region ?_
    refine ol_val (v := (pt G196 0)) (xr_move rfl rfl) rfl rfl rfl ?_
    refine ol_val (v := .bool false) (xr_eqP (b := false) rfl Try.underlying30 rfl rfl (by simp) (by simp)) rfl rfl rfl ?_
    refine ol_val (v := .bool false) (xr_move rfl rfl) rfl rfl rfl ?_
    refine ol_gval (v := .pointer none) (xr_move rfl rfl) rfl rfl rfl rfl rfl rfl ?_
    refine ol_gval (v := .bool true) (xr_eqP (b := true) rfl Try.underlying30 rfl rfl (by simp) (by simp)) rfl rfl rfl rfl rfl rfl ?_
    refine ol_val (v := .bool true) (xr_pickF rfl rfl rfl rfl) rfl rfl rfl ?_
    refine ol_nil ?_
    refine thn_i ?_
    exact ⟨e2, rfl, rfl, rfl, rfl⟩
   rintro ρ245 _ ⟨e2, e7, e9, e42, rfl⟩
   refine cw_condT e42 rfl ?_
   refine cw_seq ?_
   refine cw_region ?_
   refine ol_val (v := .bool true) (xr_assign rfl rfl) rfl rfl rfl ?_
   refine ol_nil ?_
   refine cw_ret ?_
   repeat (first | with_reducible refine thn_r ?_ | with_reducible refine blk_r ?_)
   obtain rfl := Option.some.inj h
   refine fin_ret1 Try.results17 rfl ?_
   exact ⟨_, rfl, rfl, fB⟩
  obtain ⟨G246, u250, u253, o251, o254, rfl, z247, b248⟩ := p211.2 _ e216
  rcases en h with ⟨e256, h⟩ | ⟨m257, e256, h⟩
  ·obtain rfl := p213.1 e256
   have a258 := OffV.call o201 o251
   have a259 := OffV.call o204 o254
   have o251 := Own.base o251 fB.size
   have o254 := Own.base o254 fB.size
   have n260 := b198.ne z247
   have z247 := Nat.le_trans fB.size z247
   have b198 := b198.gr q214
   have o201 := o201.gr q214
   have o204 := o204.gr q214
   have fB := fB.gr q214
   refine ol_val (v := .tuple #[(pt G246 0), .pointer none]) (xr_move rfl rfl) rfl rfl rfl ?_
   refine ol_val (v := (pt G246 0)) (xr_extract rfl rfl rfl) rfl rfl rfl ?_
   refine ol_val (v := .pointer none) (xr_extract rfl rfl rfl) rfl rfl rfl ?_
   refine ol_val (v := (pt G246 0)) (xr_assign rfl rfl) rfl rfl rfl ?_
   refine ol_val (v := .pointer none) (xr_assign rfl rfl) rfl rfl rfl ?_
   refine ol_nil ?_
   refine cw_seq ?_
   refine cw_seq ?_
   refine cw_mid (fun ρ' w' => ρ' 2 = V2_0 ∧ ρ' 7 = (pt G196 0) ∧ ρ' 9 = (pt G246 0) ∧ ρ' 42 = .bool false ∧ w215 = w') ?_ ?_
   ·skip
    refine cw_region ?_
    refine ol_val (v := (pt G196 0)) (xr_move rfl rfl) rfl rfl rfl ?_
    refine ol_val (v := .bool false) (xr_eqP (b := false) rfl Try.underlying30 rfl rfl (by simp) (by simp)) rfl rfl rfl ?_
    refine ol_val (v := .bool false) (xr_move rfl rfl) rfl rfl rfl ?_
    refine ol_gval (v := (pt G246 0)) (xr_move rfl rfl) rfl rfl rfl rfl rfl rfl ?_
    refine ol_gval (v := .bool false) (xr_eqP (b := false) rfl Try.underlying30 rfl rfl (by simp) (by simp)) rfl rfl rfl rfl rfl rfl ?_
    refine ol_val (v := .bool false) (xr_pickF rfl rfl rfl rfl) rfl rfl rfl ?_
    refine ol_nil ?_
    refine thn_i ?_
    exact ⟨e2, rfl, rfl, rfl, rfl⟩
   rintro ρ261 _ ⟨e2, e7, e9, e42, rfl⟩
   refine cw_condF e42 rfl ?_
   refine cw_skip ?_
   refine cw_seq ?_
   refine cw_region ?_
   refine ol_val (v := (pt G246 0)) (xr_move rfl e9) rfl rfl rfl ?_
   refine ol_val (v := V2_0) (xr_move rfl e2) rfl rfl rfl ?_
   obtain ⟨t262, k263, h⟩ := bs h
   have f273 := (nb_or n260 (nb_or (nb_off (off_ty b198 o251 (by decide))) (nb_off (off_ty b198 o254 (by decide)))))
   have f274 := (vo_or (vo_eq (off_ty b248 o201 (by decide))) (vo_or (vo_own a258) (vo_own (OffV.ty o201 o254 (by decide)))))
   have f275 := (vo_or (vo_eq (off_ty b248 o204 (by decide))) (vo_or (vo_own (OffV.ty o204 o251 (by decide))) (vo_own a259)))
   have c276 : ∀ k, (k = G246 ∨ some k = Value.ownBlock u250 ∨ some k = Value.ownBlock u253) → w.heap.size ≤ k := (cv_or (cv_eq z247) (cv_or (cv_own o251.geO) (cv_own o254.geO)))
   refine ol_op (opv_call rfl cal32 (ac rfl (ac rfl an)) (pmem_Device_Crash.ok fu _ m217 G246 u250 (Own.base o251 (Nat.zero_le _)) u253 (Own.base o254 (Nat.zero_le _)) b248 a2 V2_0 (R2_0.gr fB) (OffR.new R2_0 z247 rfl) (OffRV.call R2_0 o251 rfl) (OffRV.call R2_0 o254 rfl) _ k263)) rfl rfl rfl ?_
   rintro _ w277 ⟨u265, u269, o266, m267, o270, m271, rfl, b248, q264⟩
   have a278 := ov_new o201 f274 m267
   have a279 := ov_new o204 f275 m271
   have o266 := Own.rebase o266 (fun g hg => (m267 g hg).elim (fun x => Nat.le_trans fB.size x) (c276 g))
   have o270 := Own.rebase o270 (fun g hg => (m271 g hg).elim (fun x => Nat.le_trans fB.size x) (c276 g))
   have b198 := b198.fr q264 f273
   have o201 := o201.fr q264 f274
   have o204 := o204.fr q264 f275
   have fB := fB.call q264 (fun k h => .inl (c276 k h))
   refine ol_nil ?_
   refine cw_seq ?_
   refine cw_region ?_
   refine ol_val (v := (pt G246 0)) (xr_move rfl e9) rfl rfl rfl ?_
   obtain ⟨t280, k281, h⟩ := bs h
   refine ol_op (opv_call rfl cal33 (ac rfl an) (pmem_Device_Image.ok fu _ t262 G246 u265 (o266.rd) u269 (o270.rd) b248 _ k281)) rfl rfl rfl ?_
   rintro u282 w286 ⟨_, o283, rfl, q285⟩
   have o283 := Own.base o283 fB.size
   have b198 := b198.gr q285
   have o201 := o201.gr q285
   have o204 := o204.gr q285
   have fB := fB.gr q285
   refine ol_val (v := u282) (xr_assign rfl rfl) rfl rfl rfl ?_
   refine ol_nil ?_
   refine cw_seq ?_
   refine cw_region ?_
   refine ol_val (v := (pt G196 0)) (xr_move rfl e7) rfl rfl rfl ?_
   refine ol_val (v := u282) (xr_move rfl rfl) rfl rfl rfl ?_
   obtain ⟨t287, k288, h⟩ := bs h
   refine ol_op (opv_call rfl cal63 (ac rfl (ac rfl an)) (fate_Choose.ok fu _ m25 G196 u200 (o201.rd) u203 (o204.rd) b198 t280 u282 (o283.rd) _ k288)) rfl rfl rfl ?_
   rintro _ w293 ⟨u289, o290, rfl, q292⟩
   have a294 := OffV.call o204 o290
   have o290 := Own.base o290 fB.size
   have b198 := b198.gr q292
   have o201 := o201.gr q292
   have o204 := o204.gr q292
   have o283 := o283.gr q292
   have fB := fB.gr q292
   refine ol_val (v := .tuple #[u289, .bool t287.2]) (xr_move rfl rfl) rfl rfl rfl ?_
   refine ol_val (v := u289) (xr_extract rfl rfl rfl) rfl rfl rfl ?_
   refine ol_val (v := .bool t287.2) (xr_extract rfl rfl rfl) rfl rfl rfl ?_
   refine ol_val (v := u289) (xr_assign rfl rfl) rfl rfl rfl ?_
   refine ol_val (v := .bool t287.2) (xr_assign rfl rfl) rfl rfl rfl ?_
   refine ol_nil ?_
   refine cw_seq ?_
   refine cw_seq ?_
   obtain ⟨x295, j296, h⟩ := bs h
   refine cw_mid (fun ρ' w' => ρ' 7 = (pt G196 0) ∧ ρ' 11 = u282 ∧ ρ' 69 = .bool x295 ∧ Gr w293 w') ?_ ?_
   ·skip
    refine cw_region ?_
    refine ol_val (v := .bool t287.2) (xr_move rfl rfl) rfl rfl rfl ?_
    refine ol_val (v := .bool (!t287.2)) (xr_not rfl rfl) rfl rfl rfl ?_
    refine ol_val (v := .bool (!t287.2)) (xr_move rfl rfl) rfl rfl rfl ?_
    rcases is j296 with ⟨c297, j296⟩ | ⟨c297, j296⟩
    ·skip
     refine ol_gskip rfl rfl rfl rfl rfl c297 ?_
     refine ol_gskip rfl rfl rfl rfl rfl c297 ?_
     refine ol_gskip rfl rfl rfl rfl rfl c297 ?_
     refine ol_gskip rfl rfl rfl rfl rfl c297 ?_
     refine ol_val (v := .bool true) (xr_pickT rfl rfl c297 rfl) rfl rfl rfl ?_
     refine ol_val (v := .bool true) (xr_move rfl rfl) rfl rfl rfl ?_
     refine ol_gskip rfl rfl rfl rfl rfl rfl ?_
     refine ol_gskip rfl rfl rfl rfl rfl rfl ?_
     refine ol_gskip rfl rfl rfl rfl rfl rfl ?_
     refine ol_gskip rfl rfl rfl rfl rfl rfl ?_
     refine ol_gskip rfl rfl rfl rfl rfl rfl ?_
     refine ol_gskip rfl rfl rfl rfl rfl rfl ?_
     refine ol_val (v := .bool true) (xr_pickT rfl rfl rfl rfl) rfl rfl rfl ?_
     refine ol_nil ?_
     obtain rfl := Option.some.inj j296
     refine thn_i ?_
     exact ⟨e7, rfl, rfl, Fr.refl _ _⟩
    refine ol_gval (v := (pt G196 0)) (xr_move rfl e7) rfl rfl rfl rfl rfl c297 ?_
    refine ol_gval (v := u282) (xr_move rfl rfl) rfl rfl rfl rfl rfl c297 ?_
    obtain ⟨t298, k299, j296⟩ := bs j296
    refine ol_gop (opv_call rfl cal65 (ac rfl (ac rfl an)) (fate_May.ok fu _ m25 G196 u200 (o201.rd) u203 (o204.rd) b198 t280 u282 (o283.rd) _ k299)) rfl rfl rfl rfl rfl c297 ?_
    rintro _ w301 ⟨rfl, q300⟩
    have b198 := b198.gr q300
    have o201 := o201.gr q300
    have o204 := o204.gr q300
    have o283 := o283.gr q300
    have o290 := o290.gr q300
    have fB := fB.gr q300
    refine ol_gval (v := .bool (!t298)) (xr_not rfl rfl) rfl rfl rfl rfl rfl c297 ?_
    refine ol_val (v := .bool (!t298)) (xr_pickF rfl rfl c297 rfl) rfl rfl rfl ?_
    refine ol_val (v := .bool (!t298)) (xr_move rfl rfl) rfl rfl rfl ?_
    rcases is j296 with ⟨c302, j296⟩ | ⟨c302, j296⟩
    ·skip
     refine ol_gskip rfl rfl rfl rfl rfl c302 ?_
     refine ol_gskip rfl rfl rfl rfl rfl c302 ?_
     refine ol_gskip rfl rfl rfl rfl rfl c302 ?_
     refine ol_gskip rfl rfl rfl rfl rfl c302 ?_
     refine ol_gskip rfl rfl rfl rfl rfl c302 ?_
     refine ol_gskip rfl rfl rfl rfl rfl c302 ?_
     refine ol_val (v := .bool true) (xr_pickT rfl rfl c302 rfl) rfl rfl rfl ?_
     refine ol_nil ?_
     obtain rfl := Option.some.inj j296
     refine thn_i ?_
     exact ⟨e7, rfl, rfl, q300⟩
    refine ol_gval (v := u289) (xr_move rfl rfl) rfl rfl rfl rfl rfl c302 ?_
    refine ol_gval (v := .int .i64 (List.length t287.1 : Int)) (xr_lenR rfl Try.underlying25 rfl o290.rd) rfl rfl rfl rfl rfl c302 ?_
    refine ol_gval (v := (pt G196 0)) (xr_move rfl e7) rfl rfl rfl rfl rfl c302 ?_
    obtain ⟨t303, k304, j296⟩ := bs j296
    refine ol_gop (opv_call rfl cal40 (ac rfl an) (pmem_Device_Fates.ok fu _ m25 G196 u200 (o201.rd) u203 (o204.rd) b198 _ k304)) rfl rfl rfl rfl rfl c302 ?_
    rintro u305 w309 ⟨_, o306, rfl, q308⟩
    have o306 := Own.base o306 fB.size
    have b198 := b198.gr q308
    have o201 := o201.gr q308
    have o204 := o204.gr q308
    have o283 := o283.gr q308
    have fB := fB.gr q308
    refine ol_gval (v := .int .i64 (List.length t303 : Int)) (xr_lenR rfl Try.underlying52 rfl o306.rd) rfl rfl rfl rfl rfl c302 ?_
    refine ol_gval (v := .bool (!decide ((List.length t287.1 : Int) = (List.length t303 : Int)))) (xr_neI rfl Try.underlying3 rfl rfl rfl) rfl rfl rfl rfl rfl c302 ?_
    refine ol_val (v := .bool (!decide ((List.length t287.1 : Int) = (List.length t303 : Int)))) (xr_pickF rfl rfl c302 rfl) rfl rfl rfl ?_
    refine ol_nil ?_
    obtain rfl := Option.some.inj j296
    refine thn_i ?_
    exact ⟨e7, rfl, rfl, (q300.gr q308)⟩
   rintro ρ310 w311 ⟨e7, e11, e69, q312⟩
   have b198 := b198.gr q312
   have o201 := o201.gr q312
   have o204 := o204.gr q312
   have o283 := o283.gr q312
   have fB := fB.gr q312
   rcases is h with ⟨c313, h⟩ | ⟨c313, h⟩
   ·refine cw_condT e69 c313 ?_
    refine cw_seq ?_
    refine cw_region ?_
    refine ol_val (v := .bool false) (xr_assign rfl rfl) rfl rfl rfl ?_
    refine ol_nil ?_
    refine cw_ret ?_
    repeat (first | with_reducible refine thn_r ?_ | with_reducible refine blk_r ?_)
    obtain rfl := Option.some.inj h
    refine fin_ret1 Try.results17 rfl ?_
    exact ⟨_, rfl, rfl, fB⟩
   refine cw_condF e69 c313 ?_
   refine cw_skip ?_
   refine cw_seq ?_
   refine cw_region ?_
   refine ol_val (v := (pt G196 0)) (xr_move rfl e7) rfl rfl rfl ?_
   obtain ⟨t314, k315, h⟩ := bs h
   refine ol_op (opv_call rfl cal67 (ac rfl (ac rfl an)) (fate_All.ok fu _ m25 G196 u200 (o201.rd) u203 (o204.rd) b198 64 _ k315)) rfl rfl rfl ?_
   rintro u316 w319 ⟨_, r317, rfl, q318⟩
   have b198 := b198.gr q318
   have o201 := o201.gr q318
   have o204 := o204.gr q318
   have o283 := o283.gr q318
   have fB := fB.gr q318
   refine ol_val (v := u316) (xr_assign rfl rfl) rfl rfl rfl ?_
   refine ol_nil ?_
   refine cw_seq ?_
   refine cw_seq ?_
   refine cw_region ?_
   refine ol_val (v := (pt G196 0)) (xr_move rfl e7) rfl rfl rfl ?_
   obtain ⟨t320, k321, h⟩ := bs h
   refine ol_op (opv_call rfl cal61 (ac rfl an) (fate_Count.ok fu _ m25 G196 u200 (o201.rd) u203 (o204.rd) b198 _ k321)) rfl rfl rfl ?_
   rintro _ w323 ⟨rfl, q322⟩
   have o283 := o283.gr q322
   have r317 := r317.gr q322
   have fB := fB.gr q322
   refine ol_val (v := .bool (decide (t320 > 64))) (xr_gtr rfl rfl rfl) rfl rfl rfl ?_
   refine ol_nil ?_
   rcases is h with ⟨c324, h⟩ | ⟨c324, h⟩
   ·refine cw_condT rfl c324 ?_
    refine cw_seq ?_
    refine cw_region ?_
    refine ol_val (v := u316) (xr_move rfl rfl) rfl rfl rfl ?_
    refine ol_val (v := .int .i64 (List.length t314 : Int)) (xr_lenRs rfl Try.underlying100 rfl r317) rfl rfl rfl ?_
    refine ol_val (v := .bool (decide ((List.length t314 : Int) = 0))) (xr_eqI rfl Try.underlying3 rfl rfl rfl) rfl rfl rfl ?_
    refine ol_val (v := .bool (decide ((List.length t314 : Int) = 0))) (xr_assign rfl rfl) rfl rfl rfl ?_
    refine ol_nil ?_
    refine cw_ret ?_
    repeat (first | with_reducible refine thn_r ?_ | with_reducible refine blk_r ?_)
    obtain rfl := Option.some.inj h
    refine fin_ret1 Try.results17 rfl ?_
    exact ⟨_, rfl, rfl, fB⟩
   refine cw_condF rfl c324 ?_
   refine cw_skip ?_
   refine cw_seq ?_
   refine cw_region ?_
   refine ol_val (v := .int .i64 0) (xr_assign rfl rfl) rfl rfl rfl ?_
   refine ol_nil ?_
   refine cw_seq ?_
   refine cw_seq ?_
   refine cw_region ?_
   refine ol_val (v := .int .i64 0) (xr_assign rfl rfl) rfl rfl rfl ?_
   refine ol_nil ?_
   obtain ⟨e326, l327, h328⟩ := bs h
   refine cw_mid (fun ρ' w' => ρ' 15 = .int .i64 e326 ∧ Gr w w') ?_ ?_
   ·refine cw_block ?_
    refine cw_round (fun (s325 : Int × Int) ρ' w' => ∃ o283 : Own (kI .u8) 5 w' w.heap.size u282 t280, ∃ r317 : Rds (kI .u8) w' u316 t314, ρ' 11 = u282 ∧ ρ' 14 = u316 ∧ ρ' 15 = .int .i64 s325.1 ∧ ρ' 16 = .int .i64 s325.2 ∧ Gr w w') l327 ?_ ?_
    ·skip
     exact ⟨o283, r317, e11, rfl, rfl, rfl, fB⟩
    rintro s325 x331 ρ329 w330 ⟨o283, r317, e11, e14, e15, e16, fB⟩ h
    unfold rickyardlaw06_FateCrashes.s0 at h
    refine cw_seq ?_
    refine cw_seq ?_
    refine cw_region ?_
    refine ol_val (v := .int .i64 s325.2) (xr_move rfl e16) rfl rfl rfl ?_
    refine ol_val (v := u316) (xr_move rfl e14) rfl rfl rfl ?_
    refine ol_val (v := .int .i64 (List.length t314 : Int)) (xr_lenRs rfl Try.underlying100 rfl r317) rfl rfl rfl ?_
    refine ol_val (v := .bool (decide (s325.2 < (List.length t314 : Int)))) (xr_lss rfl rfl rfl) rfl rfl rfl ?_
    refine ol_nil ?_
    rcases is h with ⟨c332, h⟩ | ⟨c332, h⟩
    ·refine cw_condT rfl c332 ?_
     refine cw_skip ?_
     refine cw_seq ?_
     refine cw_block ?_
     refine cw_seq ?_
     obtain ⟨g333, h⟩ := gs h
     refine cw_drawL 7 [fun vz wz => vz = (u316 : Value), fun vz wz => vz = (.int .i64 s325.2 : Value), fun vz wz => vz = ((pt ((sb u316)) (so u316 + Int.toNat s325.2 * 1)) : Value), fun vz wz => ∃ u335 : Value, ∃ r334 : Rd (kI .u8) wz u335 (ix t314 s325.2), vz = (u335 : Value), fun vz wz => vz = (sv (List.map toB (ix t314 s325.2)) : Value), fun vz wz => vz = (u282 : Value), fun vz wz => vz = (sv (List.map toB t280) : Value)] mo rfl ⟨fun _ _ _ h _ => h, fun _ _ _ h _ => h, fun _ _ _ h _ => h, fun _ _ _ ⟨u335, r334, h⟩ q => ⟨u335, r334.gr q, h⟩, fun _ _ _ h _ => h, fun _ _ _ h _ => h, fun _ _ _ h _ => h, trivial⟩ ?_ ?_
     ·refine ⟨?_, ?_, ?_, ?_, ?_, ?_, ?_, trivial⟩
      ·intro ρz wz hz hk hd
       exact sk_val (v := u316) (xr_move rfl ((hk 14 rfl).trans e14)) rfl rfl
      ·intro ρz wz hz hk hd
       exact sk_val (v := .int .i64 s325.2) (xr_move rfl ((hk 16 rfl).trans e16)) rfl rfl
      ·intro ρz wz hz hk hd
       exact sk_val (xr_indexRs (v := u316) rfl Try.underlying100 sz43 (hd 0 rfl 84 rfl) (r317.gr hz) (hd 1 rfl 85 rfl) g333.1 g333.2) rfl rfl
      ·intro ρz wz hz hk hd
       exact sk_val (xr_load1 (v := inner wz u316 s325.2) rfl ag43 (hd 2 rfl 86 rfl) ((r317.gr hz).elem g333.1 g333.2).1) rfl ⟨_, ((r317.gr hz).elem g333.1 g333.2).2, rfl⟩
      ·intro ρz wz hz hk hd
       obtain ⟨u335, r334, d87⟩ := hd 3 rfl 87 rfl
       exact sk_val (v := sv (List.map toB (ix t314 s325.2))) (xr_toStr rfl Try.underlying43 Try.underlying5 Try.underlying9 d87 r334) rfl rfl
      ·intro ρz wz hz hk hd
       exact sk_val (v := u282) (xr_move rfl ((hk 11 rfl).trans e11)) rfl rfl
      intro ρz wz hz hk hd
      exact sk_val (v := sv (List.map toB t280)) (xr_toStr rfl Try.underlying43 Try.underlying5 Try.underlying9 (hd 5 rfl 89 rfl) (o283.gr hz).rd) rfl rfl
     intro ρ336 w337 q338 hk hd
     have e11 := (hk 11 rfl).trans e11
     have e14 := (hk 14 rfl).trans e14
     have e15 := (hk 15 rfl).trans e15
     have e16 := (hk 16 rfl).trans e16
     have e88 := hd 4 rfl 88 rfl
     have e90 := hd 6 rfl 90 rfl
     have o283 := o283.gr q338
     have r317 := r317.gr q338
     have fB := fB.gr q338
     refine ol_val (v := .bool (decide ((List.map toB (ix t314 s325.2)) = (List.map toB t280)))) (xr_eqStr rfl Try.underlying9 e88 e90) rfl rfl rfl ?_
     refine ol_nil ?_
     obtain ⟨x339, j340, h341⟩ := bs h
     refine cw_mid (fun ρ' w' => ∃ o283 : Own (kI .u8) 5 w' w.heap.size u282 t280, ∃ r317 : Rds (kI .u8) w' u316 t314, ρ' 11 = u282 ∧ ρ' 14 = u316 ∧ ρ' 15 = .int .i64 x339 ∧ ρ' 16 = .int .i64 s325.2 ∧ Gr w w') ?_ ?_
     ·have h := j340
      rcases is h with ⟨c342, h⟩ | ⟨c342, h⟩
      ·refine cw_condT rfl c342 ?_
       refine cw_region ?_
       refine ol_val (v := .int .i64 s325.1) (xr_move rfl e15) rfl rfl rfl ?_
       refine ol_val (v := .int .i64 (IntKind.i64.wrap (s325.1 + 1))) (xr_add rfl rfl rfl) rfl rfl rfl ?_
       refine ol_val (v := .int .i64 (IntKind.i64.wrap (s325.1 + 1))) (xr_assign rfl rfl) rfl rfl rfl ?_
       refine ol_nil ?_
       obtain rfl := Option.some.inj h
       refine thn_i ?_
       exact ⟨o283, r317, e11, e14, rfl, e16, fB⟩
      refine cw_condF rfl c342 ?_
      refine cw_skip ?_
      obtain rfl := Option.some.inj h
      refine thn_i ?_
      exact ⟨o283, r317, e11, e14, e15, e16, fB⟩
     rintro ρ343 w344 ⟨o283, r317, e11, e14, e15, e16, fB⟩
     have h := h341
     refine blk_i ?_
     refine cw_region ?_
     refine ol_val (v := .int .i64 s325.2) (xr_move rfl e16) rfl rfl rfl ?_
     refine ol_val (v := .int .i64 (IntKind.i64.wrap (s325.2 + 1))) (xr_add rfl rfl rfl) rfl rfl rfl ?_
     refine ol_val (v := .int .i64 (IntKind.i64.wrap (s325.2 + 1))) (xr_assign rfl rfl) rfl rfl rfl ?_
     refine ol_nil ?_
     obtain rfl := Option.some.inj h
     refine lp_in ?_
     exact ⟨o283, r317, e11, e14, e15, rfl, fB⟩
    refine cw_condF rfl c332 ?_
    refine cw_exit ?_
    repeat (first | with_reducible refine thn_e ?_ | with_reducible refine blk_e rfl ?_)
    obtain rfl := Option.some.inj h
    refine lp_exit ?_
    rintro rfl
    refine thn_x ?_
    exact ⟨e15, fB⟩
   rintro ρ345 w346 ⟨e15, fB⟩
   have h := h328
   refine cw_seq ?_
   refine cw_region ?_
   refine ol_val (v := .int .i64 e326) (xr_move rfl e15) rfl rfl rfl ?_
   refine ol_val (v := .bool (decide (e326 = 1))) (xr_eqI rfl Try.underlying3 rfl rfl rfl) rfl rfl rfl ?_
   refine ol_val (v := .bool (decide (e326 = 1))) (xr_assign rfl rfl) rfl rfl rfl ?_
   refine ol_nil ?_
   refine cw_ret ?_
   repeat (first | with_reducible refine thn_r ?_ | with_reducible refine blk_r ?_)
   obtain rfl := Option.some.inj h
   refine fin_ret1 Try.results17 rfl ?_
   exact ⟨_, rfl, rfl, fB⟩
  obtain ⟨G347, u351, u354, u357, u360, u363, o352, o355, o358, o361, o364, a366, a367, a368, rfl, z348, b349⟩ := p213.2 _ e256
  have a369 := OffV.call o201 o251
  have a370 := OffV.call o204 o254
  have a371 := OffV.call o204 o364
  have o251 := Own.base o251 fB.size
  have o254 := Own.base o254 fB.size
  have o352 := Own.base o352 fB.size
  have o355 := Own.base o355 fB.size
  have o358 := Own.base o358 fB.size
  have o361 := Own.base o361 fB.size
  have o364 := Own.base o364 fB.size
  have n372 := b198.ne z247
  have z247 := Nat.le_trans fB.size z247
  have n373 := b198.ne z348
  have z348 := Nat.le_trans fB.size z348
  have b198 := b198.gr q214
  have o201 := o201.gr q214
  have o204 := o204.gr q214
  have fB := fB.gr q214
  have n374 := Blk.neT b248 b349 (by decide)
  refine ol_val (v := .tuple #[(pt G246 0), (pt G347 0)]) (xr_move rfl rfl) rfl rfl rfl ?_
  refine ol_val (v := (pt G246 0)) (xr_extract rfl rfl rfl) rfl rfl rfl ?_
  refine ol_val (v := (pt G347 0)) (xr_extract rfl rfl rfl) rfl rfl rfl ?_
  refine ol_val (v := (pt G246 0)) (xr_assign rfl rfl) rfl rfl rfl ?_
  refine ol_val (v := (pt G347 0)) (xr_assign rfl rfl) rfl rfl rfl ?_
  refine ol_nil ?_
  refine cw_seq ?_
  refine cw_seq ?_
  refine cw_mid (fun ρ' w' => ρ' 2 = V2_0 ∧ ρ' 7 = (pt G196 0) ∧ ρ' 9 = (pt G246 0) ∧ ρ' 42 = .bool false ∧ w215 = w') ?_ ?_
  ·skip
   refine cw_region ?_
   refine ol_val (v := (pt G196 0)) (xr_move rfl rfl) rfl rfl rfl ?_
   refine ol_val (v := .bool false) (xr_eqP (b := false) rfl Try.underlying30 rfl rfl (by simp) (by simp)) rfl rfl rfl ?_
   refine ol_val (v := .bool false) (xr_move rfl rfl) rfl rfl rfl ?_
   refine ol_gval (v := (pt G246 0)) (xr_move rfl rfl) rfl rfl rfl rfl rfl rfl ?_
   refine ol_gval (v := .bool false) (xr_eqP (b := false) rfl Try.underlying30 rfl rfl (by simp) (by simp)) rfl rfl rfl rfl rfl rfl ?_
   refine ol_val (v := .bool false) (xr_pickF rfl rfl rfl rfl) rfl rfl rfl ?_
   refine ol_nil ?_
   refine thn_i ?_
   exact ⟨e2, rfl, rfl, rfl, rfl⟩
  rintro ρ375 _ ⟨e2, e7, e9, e42, rfl⟩
  refine cw_condF e42 rfl ?_
  refine cw_skip ?_
  refine cw_seq ?_
  refine cw_region ?_
  refine ol_val (v := (pt G246 0)) (xr_move rfl e9) rfl rfl rfl ?_
  refine ol_val (v := V2_0) (xr_move rfl e2) rfl rfl rfl ?_
  obtain ⟨t376, k377, h⟩ := bs h
  have f387 := (nb_or n372 (nb_or (nb_off (off_ty b198 o251 (by decide))) (nb_off (off_ty b198 o254 (by decide)))))
  have f388 := (vo_or (vo_eq (off_ty b248 o201 (by decide))) (vo_or (vo_own a369) (vo_own (OffV.ty o201 o254 (by decide)))))
  have f389 := (vo_or (vo_eq (off_ty b248 o204 (by decide))) (vo_or (vo_own (OffV.ty o204 o251 (by decide))) (vo_own a370)))
  have c390 : ∀ k, (k = G246 ∨ some k = Value.ownBlock u250 ∨ some k = Value.ownBlock u253) → w.heap.size ≤ k := (cv_or (cv_eq z247) (cv_or (cv_own o251.geO) (cv_own o254.geO)))
  refine ol_op (opv_call rfl cal32 (ac rfl (ac rfl an)) (pmem_Device_Crash.ok fu _ m217 G246 u250 (Own.base o251 (Nat.zero_le _)) u253 (Own.base o254 (Nat.zero_le _)) b248 a2 V2_0 (R2_0.gr fB) (OffR.new R2_0 z247 rfl) (OffRV.call R2_0 o251 rfl) (OffRV.call R2_0 o254 rfl) _ k377)) rfl rfl rfl ?_
  rintro _ w391 ⟨u379, u383, o380, m381, o384, m385, rfl, b248, q378⟩
  have a392 := ov_new o201 f388 m381
  have a393 := ov_new o204 f389 m385
  have o380 := Own.rebase o380 (fun g hg => (m381 g hg).elim (fun x => Nat.le_trans fB.size x) (c390 g))
  have o384 := Own.rebase o384 (fun g hg => (m385 g hg).elim (fun x => Nat.le_trans fB.size x) (c390 g))
  have b198 := b198.fr q378 f387
  have o201 := o201.fr q378 f388
  have o204 := o204.fr q378 f389
  have fB := fB.call q378 (fun k h => .inl (c390 k h))
  refine ol_nil ?_
  refine cw_seq ?_
  refine cw_region ?_
  refine ol_val (v := (pt G246 0)) (xr_move rfl e9) rfl rfl rfl ?_
  obtain ⟨t394, k395, h⟩ := bs h
  refine ol_op (opv_call rfl cal33 (ac rfl an) (pmem_Device_Image.ok fu _ t376 G246 u379 (o380.rd) u383 (o384.rd) b248 _ k395)) rfl rfl rfl ?_
  rintro u396 w400 ⟨_, o397, rfl, q399⟩
  have o397 := Own.base o397 fB.size
  have b198 := b198.gr q399
  have o201 := o201.gr q399
  have o204 := o204.gr q399
  have fB := fB.gr q399
  refine ol_val (v := u396) (xr_assign rfl rfl) rfl rfl rfl ?_
  refine ol_nil ?_
  refine cw_seq ?_
  refine cw_region ?_
  refine ol_val (v := (pt G196 0)) (xr_move rfl e7) rfl rfl rfl ?_
  refine ol_val (v := u396) (xr_move rfl rfl) rfl rfl rfl ?_
  obtain ⟨t401, k402, h⟩ := bs h
  refine ol_op (opv_call rfl cal63 (ac rfl (ac rfl an)) (fate_Choose.ok fu _ m25 G196 u200 (o201.rd) u203 (o204.rd) b198 t394 u396 (o397.rd) _ k402)) rfl rfl rfl ?_
  rintro _ w407 ⟨u403, o404, rfl, q406⟩
  have a408 := OffV.call o204 o404
  have o404 := Own.base o404 fB.size
  have b198 := b198.gr q406
  have o201 := o201.gr q406
  have o204 := o204.gr q406
  have o397 := o397.gr q406
  have fB := fB.gr q406
  refine ol_val (v := .tuple #[u403, .bool t401.2]) (xr_move rfl rfl) rfl rfl rfl ?_
  refine ol_val (v := u403) (xr_extract rfl rfl rfl) rfl rfl rfl ?_
  refine ol_val (v := .bool t401.2) (xr_extract rfl rfl rfl) rfl rfl rfl ?_
  refine ol_val (v := u403) (xr_assign rfl rfl) rfl rfl rfl ?_
  refine ol_val (v := .bool t401.2) (xr_assign rfl rfl) rfl rfl rfl ?_
  refine ol_nil ?_
  refine cw_seq ?_
  refine cw_seq ?_
  obtain ⟨x409, j410, h⟩ := bs h
  refine cw_mid (fun ρ' w' => ρ' 7 = (pt G196 0) ∧ ρ' 11 = u396 ∧ ρ' 69 = .bool x409 ∧ Gr w407 w') ?_ ?_
  ·skip
   refine cw_region ?_
   refine ol_val (v := .bool t401.2) (xr_move rfl rfl) rfl rfl rfl ?_
   refine ol_val (v := .bool (!t401.2)) (xr_not rfl rfl) rfl rfl rfl ?_
   refine ol_val (v := .bool (!t401.2)) (xr_move rfl rfl) rfl rfl rfl ?_
   rcases is j410 with ⟨c411, j410⟩ | ⟨c411, j410⟩
   ·skip
    refine ol_gskip rfl rfl rfl rfl rfl c411 ?_
    refine ol_gskip rfl rfl rfl rfl rfl c411 ?_
    refine ol_gskip rfl rfl rfl rfl rfl c411 ?_
    refine ol_gskip rfl rfl rfl rfl rfl c411 ?_
    refine ol_val (v := .bool true) (xr_pickT rfl rfl c411 rfl) rfl rfl rfl ?_
    refine ol_val (v := .bool true) (xr_move rfl rfl) rfl rfl rfl ?_
    refine ol_gskip rfl rfl rfl rfl rfl rfl ?_
    refine ol_gskip rfl rfl rfl rfl rfl rfl ?_
    refine ol_gskip rfl rfl rfl rfl rfl rfl ?_
    refine ol_gskip rfl rfl rfl rfl rfl rfl ?_
    refine ol_gskip rfl rfl rfl rfl rfl rfl ?_
    refine ol_gskip rfl rfl rfl rfl rfl rfl ?_
    refine ol_val (v := .bool true) (xr_pickT rfl rfl rfl rfl) rfl rfl rfl ?_
    refine ol_nil ?_
    obtain rfl := Option.some.inj j410
    refine thn_i ?_
    exact ⟨e7, rfl, rfl, Fr.refl _ _⟩
   refine ol_gval (v := (pt G196 0)) (xr_move rfl e7) rfl rfl rfl rfl rfl c411 ?_
   refine ol_gval (v := u396) (xr_move rfl rfl) rfl rfl rfl rfl rfl c411 ?_
   obtain ⟨t412, k413, j410⟩ := bs j410
   refine ol_gop (opv_call rfl cal65 (ac rfl (ac rfl an)) (fate_May.ok fu _ m25 G196 u200 (o201.rd) u203 (o204.rd) b198 t394 u396 (o397.rd) _ k413)) rfl rfl rfl rfl rfl c411 ?_
   rintro _ w415 ⟨rfl, q414⟩
   have b198 := b198.gr q414
   have o201 := o201.gr q414
   have o204 := o204.gr q414
   have o397 := o397.gr q414
   have o404 := o404.gr q414
   have fB := fB.gr q414
   refine ol_gval (v := .bool (!t412)) (xr_not rfl rfl) rfl rfl rfl rfl rfl c411 ?_
   refine ol_val (v := .bool (!t412)) (xr_pickF rfl rfl c411 rfl) rfl rfl rfl ?_
   refine ol_val (v := .bool (!t412)) (xr_move rfl rfl) rfl rfl rfl ?_
   rcases is j410 with ⟨c416, j410⟩ | ⟨c416, j410⟩
   ·skip
    refine ol_gskip rfl rfl rfl rfl rfl c416 ?_
    refine ol_gskip rfl rfl rfl rfl rfl c416 ?_
    refine ol_gskip rfl rfl rfl rfl rfl c416 ?_
    refine ol_gskip rfl rfl rfl rfl rfl c416 ?_
    refine ol_gskip rfl rfl rfl rfl rfl c416 ?_
    refine ol_gskip rfl rfl rfl rfl rfl c416 ?_
    refine ol_val (v := .bool true) (xr_pickT rfl rfl c416 rfl) rfl rfl rfl ?_
    refine ol_nil ?_
    obtain rfl := Option.some.inj j410
    refine thn_i ?_
    exact ⟨e7, rfl, rfl, q414⟩
   refine ol_gval (v := u403) (xr_move rfl rfl) rfl rfl rfl rfl rfl c416 ?_
   refine ol_gval (v := .int .i64 (List.length t401.1 : Int)) (xr_lenR rfl Try.underlying25 rfl o404.rd) rfl rfl rfl rfl rfl c416 ?_
   refine ol_gval (v := (pt G196 0)) (xr_move rfl e7) rfl rfl rfl rfl rfl c416 ?_
   obtain ⟨t417, k418, j410⟩ := bs j410
   refine ol_gop (opv_call rfl cal40 (ac rfl an) (pmem_Device_Fates.ok fu _ m25 G196 u200 (o201.rd) u203 (o204.rd) b198 _ k418)) rfl rfl rfl rfl rfl c416 ?_
   rintro u419 w423 ⟨_, o420, rfl, q422⟩
   have o420 := Own.base o420 fB.size
   have b198 := b198.gr q422
   have o201 := o201.gr q422
   have o204 := o204.gr q422
   have o397 := o397.gr q422
   have fB := fB.gr q422
   refine ol_gval (v := .int .i64 (List.length t417 : Int)) (xr_lenR rfl Try.underlying52 rfl o420.rd) rfl rfl rfl rfl rfl c416 ?_
   refine ol_gval (v := .bool (!decide ((List.length t401.1 : Int) = (List.length t417 : Int)))) (xr_neI rfl Try.underlying3 rfl rfl rfl) rfl rfl rfl rfl rfl c416 ?_
   refine ol_val (v := .bool (!decide ((List.length t401.1 : Int) = (List.length t417 : Int)))) (xr_pickF rfl rfl c416 rfl) rfl rfl rfl ?_
   refine ol_nil ?_
   obtain rfl := Option.some.inj j410
   refine thn_i ?_
   exact ⟨e7, rfl, rfl, (q414.gr q422)⟩
  rintro ρ424 w425 ⟨e7, e11, e69, q426⟩
  have b198 := b198.gr q426
  have o201 := o201.gr q426
  have o204 := o204.gr q426
  have o397 := o397.gr q426
  have fB := fB.gr q426
  rcases is h with ⟨c427, h⟩ | ⟨c427, h⟩
  ·refine cw_condT e69 c427 ?_
   refine cw_seq ?_
   refine cw_region ?_
   refine ol_val (v := .bool false) (xr_assign rfl rfl) rfl rfl rfl ?_
   refine ol_nil ?_
   refine cw_ret ?_
   repeat (first | with_reducible refine thn_r ?_ | with_reducible refine blk_r ?_)
   obtain rfl := Option.some.inj h
   refine fin_ret1 Try.results17 rfl ?_
   exact ⟨_, rfl, rfl, fB⟩
  refine cw_condF e69 c427 ?_
  refine cw_skip ?_
  refine cw_seq ?_
  refine cw_region ?_
  refine ol_val (v := (pt G196 0)) (xr_move rfl e7) rfl rfl rfl ?_
  obtain ⟨t428, k429, h⟩ := bs h
  refine ol_op (opv_call rfl cal67 (ac rfl (ac rfl an)) (fate_All.ok fu _ m25 G196 u200 (o201.rd) u203 (o204.rd) b198 64 _ k429)) rfl rfl rfl ?_
  rintro u430 w433 ⟨_, r431, rfl, q432⟩
  have b198 := b198.gr q432
  have o201 := o201.gr q432
  have o204 := o204.gr q432
  have o397 := o397.gr q432
  have fB := fB.gr q432
  refine ol_val (v := u430) (xr_assign rfl rfl) rfl rfl rfl ?_
  refine ol_nil ?_
  refine cw_seq ?_
  refine cw_seq ?_
  refine cw_region ?_
  refine ol_val (v := (pt G196 0)) (xr_move rfl e7) rfl rfl rfl ?_
  obtain ⟨t434, k435, h⟩ := bs h
  refine ol_op (opv_call rfl cal61 (ac rfl an) (fate_Count.ok fu _ m25 G196 u200 (o201.rd) u203 (o204.rd) b198 _ k435)) rfl rfl rfl ?_
  rintro _ w437 ⟨rfl, q436⟩
  have o397 := o397.gr q436
  have r431 := r431.gr q436
  have fB := fB.gr q436
  refine ol_val (v := .bool (decide (t434 > 64))) (xr_gtr rfl rfl rfl) rfl rfl rfl ?_
  refine ol_nil ?_
  rcases is h with ⟨c438, h⟩ | ⟨c438, h⟩
  ·refine cw_condT rfl c438 ?_
   refine cw_seq ?_
   refine cw_region ?_
   refine ol_val (v := u430) (xr_move rfl rfl) rfl rfl rfl ?_
   refine ol_val (v := .int .i64 (List.length t428 : Int)) (xr_lenRs rfl Try.underlying100 rfl r431) rfl rfl rfl ?_
   refine ol_val (v := .bool (decide ((List.length t428 : Int) = 0))) (xr_eqI rfl Try.underlying3 rfl rfl rfl) rfl rfl rfl ?_
   refine ol_val (v := .bool (decide ((List.length t428 : Int) = 0))) (xr_assign rfl rfl) rfl rfl rfl ?_
   refine ol_nil ?_
   refine cw_ret ?_
   repeat (first | with_reducible refine thn_r ?_ | with_reducible refine blk_r ?_)
   obtain rfl := Option.some.inj h
   refine fin_ret1 Try.results17 rfl ?_
   exact ⟨_, rfl, rfl, fB⟩
  refine cw_condF rfl c438 ?_
  refine cw_skip ?_
  refine cw_seq ?_
  refine cw_region ?_
  refine ol_val (v := .int .i64 0) (xr_assign rfl rfl) rfl rfl rfl ?_
  refine ol_nil ?_
  refine cw_seq ?_
  refine cw_seq ?_
  refine cw_region ?_
  refine ol_val (v := .int .i64 0) (xr_assign rfl rfl) rfl rfl rfl ?_
  refine ol_nil ?_
  obtain ⟨e440, l441, h442⟩ := bs h
  refine cw_mid (fun ρ' w' => ρ' 15 = .int .i64 e440 ∧ Gr w w') ?_ ?_
  ·refine cw_block ?_
   refine cw_round (fun (s439 : Int × Int) ρ' w' => ∃ o397 : Own (kI .u8) 5 w' w.heap.size u396 t394, ∃ r431 : Rds (kI .u8) w' u430 t428, ρ' 11 = u396 ∧ ρ' 14 = u430 ∧ ρ' 15 = .int .i64 s439.1 ∧ ρ' 16 = .int .i64 s439.2 ∧ Gr w w') l441 ?_ ?_
   ·skip
    exact ⟨o397, r431, e11, rfl, rfl, rfl, fB⟩
   rintro s439 x445 ρ443 w444 ⟨o397, r431, e11, e14, e15, e16, fB⟩ h
   unfold rickyardlaw06_FateCrashes.s1 at h
   refine cw_seq ?_
   refine cw_seq ?_
   refine cw_region ?_
   refine ol_val (v := .int .i64 s439.2) (xr_move rfl e16) rfl rfl rfl ?_
   refine ol_val (v := u430) (xr_move rfl e14) rfl rfl rfl ?_
   refine ol_val (v := .int .i64 (List.length t428 : Int)) (xr_lenRs rfl Try.underlying100 rfl r431) rfl rfl rfl ?_
   refine ol_val (v := .bool (decide (s439.2 < (List.length t428 : Int)))) (xr_lss rfl rfl rfl) rfl rfl rfl ?_
   refine ol_nil ?_
   rcases is h with ⟨c446, h⟩ | ⟨c446, h⟩
   ·refine cw_condT rfl c446 ?_
    refine cw_skip ?_
    refine cw_seq ?_
    refine cw_block ?_
    refine cw_seq ?_
    obtain ⟨g447, h⟩ := gs h
    refine cw_drawL 7 [fun vz wz => vz = (u430 : Value), fun vz wz => vz = (.int .i64 s439.2 : Value), fun vz wz => vz = ((pt ((sb u430)) (so u430 + Int.toNat s439.2 * 1)) : Value), fun vz wz => ∃ u449 : Value, ∃ r448 : Rd (kI .u8) wz u449 (ix t428 s439.2), vz = (u449 : Value), fun vz wz => vz = (sv (List.map toB (ix t428 s439.2)) : Value), fun vz wz => vz = (u396 : Value), fun vz wz => vz = (sv (List.map toB t394) : Value)] mo rfl ⟨fun _ _ _ h _ => h, fun _ _ _ h _ => h, fun _ _ _ h _ => h, fun _ _ _ ⟨u449, r448, h⟩ q => ⟨u449, r448.gr q, h⟩, fun _ _ _ h _ => h, fun _ _ _ h _ => h, fun _ _ _ h _ => h, trivial⟩ ?_ ?_
    ·refine ⟨?_, ?_, ?_, ?_, ?_, ?_, ?_, trivial⟩
     ·intro ρz wz hz hk hd
      exact sk_val (v := u430) (xr_move rfl ((hk 14 rfl).trans e14)) rfl rfl
     ·intro ρz wz hz hk hd
      exact sk_val (v := .int .i64 s439.2) (xr_move rfl ((hk 16 rfl).trans e16)) rfl rfl
     ·intro ρz wz hz hk hd
      exact sk_val (xr_indexRs (v := u430) rfl Try.underlying100 sz43 (hd 0 rfl 84 rfl) (r431.gr hz) (hd 1 rfl 85 rfl) g447.1 g447.2) rfl rfl
     ·intro ρz wz hz hk hd
      exact sk_val (xr_load1 (v := inner wz u430 s439.2) rfl ag43 (hd 2 rfl 86 rfl) ((r431.gr hz).elem g447.1 g447.2).1) rfl ⟨_, ((r431.gr hz).elem g447.1 g447.2).2, rfl⟩
     ·intro ρz wz hz hk hd
      obtain ⟨u449, r448, d87⟩ := hd 3 rfl 87 rfl
      exact sk_val (v := sv (List.map toB (ix t428 s439.2))) (xr_toStr rfl Try.underlying43 Try.underlying5 Try.underlying9 d87 r448) rfl rfl
     ·intro ρz wz hz hk hd
      exact sk_val (v := u396) (xr_move rfl ((hk 11 rfl).trans e11)) rfl rfl
     intro ρz wz hz hk hd
     exact sk_val (v := sv (List.map toB t394)) (xr_toStr rfl Try.underlying43 Try.underlying5 Try.underlying9 (hd 5 rfl 89 rfl) (o397.gr hz).rd) rfl rfl
    intro ρ450 w451 q452 hk hd
    have e11 := (hk 11 rfl).trans e11
    have e14 := (hk 14 rfl).trans e14
    have e15 := (hk 15 rfl).trans e15
    have e16 := (hk 16 rfl).trans e16
    have e88 := hd 4 rfl 88 rfl
    have e90 := hd 6 rfl 90 rfl
    have o397 := o397.gr q452
    have r431 := r431.gr q452
    have fB := fB.gr q452
    refine ol_val (v := .bool (decide ((List.map toB (ix t428 s439.2)) = (List.map toB t394)))) (xr_eqStr rfl Try.underlying9 e88 e90) rfl rfl rfl ?_
    refine ol_nil ?_
    obtain ⟨x453, j454, h455⟩ := bs h
    refine cw_mid (fun ρ' w' => ∃ o397 : Own (kI .u8) 5 w' w.heap.size u396 t394, ∃ r431 : Rds (kI .u8) w' u430 t428, ρ' 11 = u396 ∧ ρ' 14 = u430 ∧ ρ' 15 = .int .i64 x453 ∧ ρ' 16 = .int .i64 s439.2 ∧ Gr w w') ?_ ?_
    ·have h := j454
     rcases is h with ⟨c456, h⟩ | ⟨c456, h⟩
     ·refine cw_condT rfl c456 ?_
      refine cw_region ?_
      refine ol_val (v := .int .i64 s439.1) (xr_move rfl e15) rfl rfl rfl ?_
      refine ol_val (v := .int .i64 (IntKind.i64.wrap (s439.1 + 1))) (xr_add rfl rfl rfl) rfl rfl rfl ?_
      refine ol_val (v := .int .i64 (IntKind.i64.wrap (s439.1 + 1))) (xr_assign rfl rfl) rfl rfl rfl ?_
      refine ol_nil ?_
      obtain rfl := Option.some.inj h
      refine thn_i ?_
      exact ⟨o397, r431, e11, e14, rfl, e16, fB⟩
     refine cw_condF rfl c456 ?_
     refine cw_skip ?_
     obtain rfl := Option.some.inj h
     refine thn_i ?_
     exact ⟨o397, r431, e11, e14, e15, e16, fB⟩
    rintro ρ457 w458 ⟨o397, r431, e11, e14, e15, e16, fB⟩
    have h := h455
    refine blk_i ?_
    refine cw_region ?_
    refine ol_val (v := .int .i64 s439.2) (xr_move rfl e16) rfl rfl rfl ?_
    refine ol_val (v := .int .i64 (IntKind.i64.wrap (s439.2 + 1))) (xr_add rfl rfl rfl) rfl rfl rfl ?_
    refine ol_val (v := .int .i64 (IntKind.i64.wrap (s439.2 + 1))) (xr_assign rfl rfl) rfl rfl rfl ?_
    refine ol_nil ?_
    obtain rfl := Option.some.inj h
    refine lp_in ?_
    exact ⟨o397, r431, e11, e14, e15, rfl, fB⟩
   refine cw_condF rfl c446 ?_
   refine cw_exit ?_
   repeat (first | with_reducible refine thn_e ?_ | with_reducible refine blk_e rfl ?_)
   obtain rfl := Option.some.inj h
   refine lp_exit ?_
   rintro rfl
   refine thn_x ?_
   exact ⟨e15, fB⟩
  rintro ρ459 w460 ⟨e15, fB⟩
  have h := h442
  refine cw_seq ?_
  refine cw_region ?_
  refine ol_val (v := .int .i64 e440) (xr_move rfl e15) rfl rfl rfl ?_
  refine ol_val (v := .bool (decide (e440 = 1))) (xr_eqI rfl Try.underlying3 rfl rfl rfl) rfl rfl rfl ?_
  refine ol_val (v := .bool (decide (e440 = 1))) (xr_assign rfl rfl) rfl rfl rfl ?_
  refine ol_nil ?_
  refine cw_ret ?_
  repeat (first | with_reducible refine thn_r ?_ | with_reducible refine blk_r ?_)
  obtain rfl := Option.some.inj h
  refine fin_ret1 Try.results17 rfl ?_
  exact ⟨_, rfl, rfl, fB⟩
 obtain ⟨G461, u465, u468, u471, u474, u477, o466, o469, o472, o475, o478, a480, a481, a482, rfl, z462, b463⟩ := p21.2 _ e206
 have o201 := Own.base o201 fB.size
 have o204 := Own.base o204 fB.size
 have o466 := Own.base o466 fB.size
 have o469 := Own.base o469 fB.size
 have o472 := Own.base o472 fB.size
 have o475 := Own.base o475 fB.size
 have o478 := Own.base o478 fB.size
 have z197 := Nat.le_trans fB.size z197
 have z462 := Nat.le_trans fB.size z462
 have fB := fB.gr q22
 have n483 := Blk.neT b198 b463 (by decide)
 refine ol_val (v := .tuple #[(pt G196 0), (pt G461 0)]) (xr_move rfl rfl) rfl rfl rfl ?_
 refine ol_val (v := (pt G196 0)) (xr_extract rfl rfl rfl) rfl rfl rfl ?_
 refine ol_val (v := (pt G461 0)) (xr_extract rfl rfl rfl) rfl rfl rfl ?_
 refine ol_val (v := (pt G196 0)) (xr_assign rfl rfl) rfl rfl rfl ?_
 refine ol_val (v := (pt G461 0)) (xr_assign rfl rfl) rfl rfl rfl ?_
 refine ol_nil ?_
 refine cw_seq ?_
 refine cw_region ?_
 refine ol_val (v := .int .u8 a0) (xr_move rfl e0) rfl rfl rfl ?_
 refine ol_val (v := V1_0) (xr_move rfl e1) rfl rfl rfl ?_
 obtain ⟨t484, k485, h⟩ := bs h
 refine ol_op (opv_call rfl cal60 (ac rfl (ac rfl an)) (rickyardlaw06_made.ok fu _ a0 a1 V1_0 (RdN.gr R1_0 D_rickyardlaw05_Act.gr fB) _ k485)) rfl rfl rfl ?_
 rintro _ w491 ⟨u486, u488, p487, p489, rfl, q490⟩
 rcases en h with ⟨e492, h⟩ | ⟨m493, e492, h⟩
 ·obtain rfl := p487.1 e492
  rcases en h with ⟨e494, h⟩ | ⟨m495, e494, h⟩
  ·obtain rfl := p489.1 e494
   have b198 := b198.gr q490
   have o201 := o201.gr q490
   have o204 := o204.gr q490
   have fB := fB.gr q490
   refine ol_val (v := .tuple #[.pointer none, .pointer none]) (xr_move rfl rfl) rfl rfl rfl ?_
   refine ol_val (v := .pointer none) (xr_extract rfl rfl rfl) rfl rfl rfl ?_
   refine ol_val (v := .pointer none) (xr_extract rfl rfl rfl) rfl rfl rfl ?_
   refine ol_val (v := .pointer none) (xr_assign rfl rfl) rfl rfl rfl ?_
   refine ol_val (v := .pointer none) (xr_assign rfl rfl) rfl rfl rfl ?_
   refine ol_nil ?_
   refine cw_seq ?_
   refine cw_seq ?_
   refine cw_mid (fun ρ' w' => ρ' 2 = V2_0 ∧ ρ' 7 = (pt G196 0) ∧ ρ' 9 = .pointer none ∧ ρ' 42 = .bool true ∧ w491 = w') ?_ ?_
   ·skip
    refine cw_region ?_
    refine ol_val (v := (pt G196 0)) (xr_move rfl rfl) rfl rfl rfl ?_
    refine ol_val (v := .bool false) (xr_eqP (b := false) rfl Try.underlying30 rfl rfl (by simp) (by simp)) rfl rfl rfl ?_
    refine ol_val (v := .bool false) (xr_move rfl rfl) rfl rfl rfl ?_
    refine ol_gval (v := .pointer none) (xr_move rfl rfl) rfl rfl rfl rfl rfl rfl ?_
    refine ol_gval (v := .bool true) (xr_eqP (b := true) rfl Try.underlying30 rfl rfl (by simp) (by simp)) rfl rfl rfl rfl rfl rfl ?_
    refine ol_val (v := .bool true) (xr_pickF rfl rfl rfl rfl) rfl rfl rfl ?_
    refine ol_nil ?_
    refine thn_i ?_
    exact ⟨e2, rfl, rfl, rfl, rfl⟩
   rintro ρ496 _ ⟨e2, e7, e9, e42, rfl⟩
   refine cw_condT e42 rfl ?_
   refine cw_seq ?_
   refine cw_region ?_
   refine ol_val (v := .bool true) (xr_assign rfl rfl) rfl rfl rfl ?_
   refine ol_nil ?_
   refine cw_ret ?_
   repeat (first | with_reducible refine thn_r ?_ | with_reducible refine blk_r ?_)
   obtain rfl := Option.some.inj h
   refine fin_ret1 Try.results17 rfl ?_
   exact ⟨_, rfl, rfl, fB⟩
  obtain ⟨G497, u501, u504, u507, u510, u513, o502, o505, o508, o511, o514, a516, a517, a518, rfl, z498, b499⟩ := p489.2 _ e494
  have a519 := OffV.call o204 o514
  have o502 := Own.base o502 fB.size
  have o505 := Own.base o505 fB.size
  have o508 := Own.base o508 fB.size
  have o511 := Own.base o511 fB.size
  have o514 := Own.base o514 fB.size
  have n520 := b198.ne z498
  have z498 := Nat.le_trans fB.size z498
  have b198 := b198.gr q490
  have o201 := o201.gr q490
  have o204 := o204.gr q490
  have fB := fB.gr q490
  refine ol_val (v := .tuple #[.pointer none, (pt G497 0)]) (xr_move rfl rfl) rfl rfl rfl ?_
  refine ol_val (v := .pointer none) (xr_extract rfl rfl rfl) rfl rfl rfl ?_
  refine ol_val (v := (pt G497 0)) (xr_extract rfl rfl rfl) rfl rfl rfl ?_
  refine ol_val (v := .pointer none) (xr_assign rfl rfl) rfl rfl rfl ?_
  refine ol_val (v := (pt G497 0)) (xr_assign rfl rfl) rfl rfl rfl ?_
  refine ol_nil ?_
  refine cw_seq ?_
  refine cw_seq ?_
  refine cw_mid (fun ρ' w' => ρ' 2 = V2_0 ∧ ρ' 7 = (pt G196 0) ∧ ρ' 9 = .pointer none ∧ ρ' 42 = .bool true ∧ w491 = w') ?_ ?_
  ·skip
   refine cw_region ?_
   refine ol_val (v := (pt G196 0)) (xr_move rfl rfl) rfl rfl rfl ?_
   refine ol_val (v := .bool false) (xr_eqP (b := false) rfl Try.underlying30 rfl rfl (by simp) (by simp)) rfl rfl rfl ?_
   refine ol_val (v := .bool false) (xr_move rfl rfl) rfl rfl rfl ?_
   refine ol_gval (v := .pointer none) (xr_move rfl rfl) rfl rfl rfl rfl rfl rfl ?_
   refine ol_gval (v := .bool true) (xr_eqP (b := true) rfl Try.underlying30 rfl rfl (by simp) (by simp)) rfl rfl rfl rfl rfl rfl ?_
   refine ol_val (v := .bool true) (xr_pickF rfl rfl rfl rfl) rfl rfl rfl ?_
   refine ol_nil ?_
   refine thn_i ?_
   exact ⟨e2, rfl, rfl, rfl, rfl⟩
  rintro ρ521 _ ⟨e2, e7, e9, e42, rfl⟩
  refine cw_condT e42 rfl ?_
  refine cw_seq ?_
  refine cw_region ?_
  refine ol_val (v := .bool true) (xr_assign rfl rfl) rfl rfl rfl ?_
  refine ol_nil ?_
  refine cw_ret ?_
  repeat (first | with_reducible refine thn_r ?_ | with_reducible refine blk_r ?_)
  obtain rfl := Option.some.inj h
  refine fin_ret1 Try.results17 rfl ?_
  exact ⟨_, rfl, rfl, fB⟩
 obtain ⟨G522, u526, u529, o527, o530, rfl, z523, b524⟩ := p487.2 _ e492
 rcases en h with ⟨e532, h⟩ | ⟨m533, e532, h⟩
 ·obtain rfl := p489.1 e532
  have a534 := OffV.call o201 o527
  have a535 := OffV.call o204 o530
  have o527 := Own.base o527 fB.size
  have o530 := Own.base o530 fB.size
  have n536 := b198.ne z523
  have z523 := Nat.le_trans fB.size z523
  have b198 := b198.gr q490
  have o201 := o201.gr q490
  have o204 := o204.gr q490
  have fB := fB.gr q490
  refine ol_val (v := .tuple #[(pt G522 0), .pointer none]) (xr_move rfl rfl) rfl rfl rfl ?_
  refine ol_val (v := (pt G522 0)) (xr_extract rfl rfl rfl) rfl rfl rfl ?_
  refine ol_val (v := .pointer none) (xr_extract rfl rfl rfl) rfl rfl rfl ?_
  refine ol_val (v := (pt G522 0)) (xr_assign rfl rfl) rfl rfl rfl ?_
  refine ol_val (v := .pointer none) (xr_assign rfl rfl) rfl rfl rfl ?_
  refine ol_nil ?_
  refine cw_seq ?_
  refine cw_seq ?_
  refine cw_mid (fun ρ' w' => ρ' 2 = V2_0 ∧ ρ' 7 = (pt G196 0) ∧ ρ' 9 = (pt G522 0) ∧ ρ' 42 = .bool false ∧ w491 = w') ?_ ?_
  ·skip
   refine cw_region ?_
   refine ol_val (v := (pt G196 0)) (xr_move rfl rfl) rfl rfl rfl ?_
   refine ol_val (v := .bool false) (xr_eqP (b := false) rfl Try.underlying30 rfl rfl (by simp) (by simp)) rfl rfl rfl ?_
   refine ol_val (v := .bool false) (xr_move rfl rfl) rfl rfl rfl ?_
   refine ol_gval (v := (pt G522 0)) (xr_move rfl rfl) rfl rfl rfl rfl rfl rfl ?_
   refine ol_gval (v := .bool false) (xr_eqP (b := false) rfl Try.underlying30 rfl rfl (by simp) (by simp)) rfl rfl rfl rfl rfl rfl ?_
   refine ol_val (v := .bool false) (xr_pickF rfl rfl rfl rfl) rfl rfl rfl ?_
   refine ol_nil ?_
   refine thn_i ?_
   exact ⟨e2, rfl, rfl, rfl, rfl⟩
  rintro ρ537 _ ⟨e2, e7, e9, e42, rfl⟩
  refine cw_condF e42 rfl ?_
  refine cw_skip ?_
  refine cw_seq ?_
  refine cw_region ?_
  refine ol_val (v := (pt G522 0)) (xr_move rfl e9) rfl rfl rfl ?_
  refine ol_val (v := V2_0) (xr_move rfl e2) rfl rfl rfl ?_
  obtain ⟨t538, k539, h⟩ := bs h
  have f549 := (nb_or n536 (nb_or (nb_off (off_ty b198 o527 (by decide))) (nb_off (off_ty b198 o530 (by decide)))))
  have f550 := (vo_or (vo_eq (off_ty b524 o201 (by decide))) (vo_or (vo_own a534) (vo_own (OffV.ty o201 o530 (by decide)))))
  have f551 := (vo_or (vo_eq (off_ty b524 o204 (by decide))) (vo_or (vo_own (OffV.ty o204 o527 (by decide))) (vo_own a535)))
  have c552 : ∀ k, (k = G522 ∨ some k = Value.ownBlock u526 ∨ some k = Value.ownBlock u529) → w.heap.size ≤ k := (cv_or (cv_eq z523) (cv_or (cv_own o527.geO) (cv_own o530.geO)))
  refine ol_op (opv_call rfl cal32 (ac rfl (ac rfl an)) (pmem_Device_Crash.ok fu _ m493 G522 u526 (Own.base o527 (Nat.zero_le _)) u529 (Own.base o530 (Nat.zero_le _)) b524 a2 V2_0 (R2_0.gr fB) (OffR.new R2_0 z523 rfl) (OffRV.call R2_0 o527 rfl) (OffRV.call R2_0 o530 rfl) _ k539)) rfl rfl rfl ?_
  rintro _ w553 ⟨u541, u545, o542, m543, o546, m547, rfl, b524, q540⟩
  have a554 := ov_new o201 f550 m543
  have a555 := ov_new o204 f551 m547
  have o542 := Own.rebase o542 (fun g hg => (m543 g hg).elim (fun x => Nat.le_trans fB.size x) (c552 g))
  have o546 := Own.rebase o546 (fun g hg => (m547 g hg).elim (fun x => Nat.le_trans fB.size x) (c552 g))
  have b198 := b198.fr q540 f549
  have o201 := o201.fr q540 f550
  have o204 := o204.fr q540 f551
  have fB := fB.call q540 (fun k h => .inl (c552 k h))
  refine ol_nil ?_
  refine cw_seq ?_
  refine cw_region ?_
  refine ol_val (v := (pt G522 0)) (xr_move rfl e9) rfl rfl rfl ?_
  obtain ⟨t556, k557, h⟩ := bs h
  refine ol_op (opv_call rfl cal33 (ac rfl an) (pmem_Device_Image.ok fu _ t538 G522 u541 (o542.rd) u545 (o546.rd) b524 _ k557)) rfl rfl rfl ?_
  rintro u558 w562 ⟨_, o559, rfl, q561⟩
  have o559 := Own.base o559 fB.size
  have b198 := b198.gr q561
  have o201 := o201.gr q561
  have o204 := o204.gr q561
  have fB := fB.gr q561
  refine ol_val (v := u558) (xr_assign rfl rfl) rfl rfl rfl ?_
  refine ol_nil ?_
  refine cw_seq ?_
  refine cw_region ?_
  refine ol_val (v := (pt G196 0)) (xr_move rfl e7) rfl rfl rfl ?_
  refine ol_val (v := u558) (xr_move rfl rfl) rfl rfl rfl ?_
  obtain ⟨t563, k564, h⟩ := bs h
  refine ol_op (opv_call rfl cal63 (ac rfl (ac rfl an)) (fate_Choose.ok fu _ m25 G196 u200 (o201.rd) u203 (o204.rd) b198 t556 u558 (o559.rd) _ k564)) rfl rfl rfl ?_
  rintro _ w569 ⟨u565, o566, rfl, q568⟩
  have a570 := OffV.call o204 o566
  have o566 := Own.base o566 fB.size
  have b198 := b198.gr q568
  have o201 := o201.gr q568
  have o204 := o204.gr q568
  have o559 := o559.gr q568
  have fB := fB.gr q568
  refine ol_val (v := .tuple #[u565, .bool t563.2]) (xr_move rfl rfl) rfl rfl rfl ?_
  refine ol_val (v := u565) (xr_extract rfl rfl rfl) rfl rfl rfl ?_
  refine ol_val (v := .bool t563.2) (xr_extract rfl rfl rfl) rfl rfl rfl ?_
  refine ol_val (v := u565) (xr_assign rfl rfl) rfl rfl rfl ?_
  refine ol_val (v := .bool t563.2) (xr_assign rfl rfl) rfl rfl rfl ?_
  refine ol_nil ?_
  refine cw_seq ?_
  refine cw_seq ?_
  obtain ⟨x571, j572, h⟩ := bs h
  refine cw_mid (fun ρ' w' => ρ' 7 = (pt G196 0) ∧ ρ' 11 = u558 ∧ ρ' 69 = .bool x571 ∧ Gr w569 w') ?_ ?_
  ·skip
   refine cw_region ?_
   refine ol_val (v := .bool t563.2) (xr_move rfl rfl) rfl rfl rfl ?_
   refine ol_val (v := .bool (!t563.2)) (xr_not rfl rfl) rfl rfl rfl ?_
   refine ol_val (v := .bool (!t563.2)) (xr_move rfl rfl) rfl rfl rfl ?_
   rcases is j572 with ⟨c573, j572⟩ | ⟨c573, j572⟩
   ·skip
    refine ol_gskip rfl rfl rfl rfl rfl c573 ?_
    refine ol_gskip rfl rfl rfl rfl rfl c573 ?_
    refine ol_gskip rfl rfl rfl rfl rfl c573 ?_
    refine ol_gskip rfl rfl rfl rfl rfl c573 ?_
    refine ol_val (v := .bool true) (xr_pickT rfl rfl c573 rfl) rfl rfl rfl ?_
    refine ol_val (v := .bool true) (xr_move rfl rfl) rfl rfl rfl ?_
    refine ol_gskip rfl rfl rfl rfl rfl rfl ?_
    refine ol_gskip rfl rfl rfl rfl rfl rfl ?_
    refine ol_gskip rfl rfl rfl rfl rfl rfl ?_
    refine ol_gskip rfl rfl rfl rfl rfl rfl ?_
    refine ol_gskip rfl rfl rfl rfl rfl rfl ?_
    refine ol_gskip rfl rfl rfl rfl rfl rfl ?_
    refine ol_val (v := .bool true) (xr_pickT rfl rfl rfl rfl) rfl rfl rfl ?_
    refine ol_nil ?_
    obtain rfl := Option.some.inj j572
    refine thn_i ?_
    exact ⟨e7, rfl, rfl, Fr.refl _ _⟩
   refine ol_gval (v := (pt G196 0)) (xr_move rfl e7) rfl rfl rfl rfl rfl c573 ?_
   refine ol_gval (v := u558) (xr_move rfl rfl) rfl rfl rfl rfl rfl c573 ?_
   obtain ⟨t574, k575, j572⟩ := bs j572
   refine ol_gop (opv_call rfl cal65 (ac rfl (ac rfl an)) (fate_May.ok fu _ m25 G196 u200 (o201.rd) u203 (o204.rd) b198 t556 u558 (o559.rd) _ k575)) rfl rfl rfl rfl rfl c573 ?_
   rintro _ w577 ⟨rfl, q576⟩
   have b198 := b198.gr q576
   have o201 := o201.gr q576
   have o204 := o204.gr q576
   have o559 := o559.gr q576
   have o566 := o566.gr q576
   have fB := fB.gr q576
   refine ol_gval (v := .bool (!t574)) (xr_not rfl rfl) rfl rfl rfl rfl rfl c573 ?_
   refine ol_val (v := .bool (!t574)) (xr_pickF rfl rfl c573 rfl) rfl rfl rfl ?_
   refine ol_val (v := .bool (!t574)) (xr_move rfl rfl) rfl rfl rfl ?_
   rcases is j572 with ⟨c578, j572⟩ | ⟨c578, j572⟩
   ·skip
    refine ol_gskip rfl rfl rfl rfl rfl c578 ?_
    refine ol_gskip rfl rfl rfl rfl rfl c578 ?_
    refine ol_gskip rfl rfl rfl rfl rfl c578 ?_
    refine ol_gskip rfl rfl rfl rfl rfl c578 ?_
    refine ol_gskip rfl rfl rfl rfl rfl c578 ?_
    refine ol_gskip rfl rfl rfl rfl rfl c578 ?_
    refine ol_val (v := .bool true) (xr_pickT rfl rfl c578 rfl) rfl rfl rfl ?_
    refine ol_nil ?_
    obtain rfl := Option.some.inj j572
    refine thn_i ?_
    exact ⟨e7, rfl, rfl, q576⟩
   refine ol_gval (v := u565) (xr_move rfl rfl) rfl rfl rfl rfl rfl c578 ?_
   refine ol_gval (v := .int .i64 (List.length t563.1 : Int)) (xr_lenR rfl Try.underlying25 rfl o566.rd) rfl rfl rfl rfl rfl c578 ?_
   refine ol_gval (v := (pt G196 0)) (xr_move rfl e7) rfl rfl rfl rfl rfl c578 ?_
   obtain ⟨t579, k580, j572⟩ := bs j572
   refine ol_gop (opv_call rfl cal40 (ac rfl an) (pmem_Device_Fates.ok fu _ m25 G196 u200 (o201.rd) u203 (o204.rd) b198 _ k580)) rfl rfl rfl rfl rfl c578 ?_
   rintro u581 w585 ⟨_, o582, rfl, q584⟩
   have o582 := Own.base o582 fB.size
   have b198 := b198.gr q584
   have o201 := o201.gr q584
   have o204 := o204.gr q584
   have o559 := o559.gr q584
   have fB := fB.gr q584
   refine ol_gval (v := .int .i64 (List.length t579 : Int)) (xr_lenR rfl Try.underlying52 rfl o582.rd) rfl rfl rfl rfl rfl c578 ?_
   refine ol_gval (v := .bool (!decide ((List.length t563.1 : Int) = (List.length t579 : Int)))) (xr_neI rfl Try.underlying3 rfl rfl rfl) rfl rfl rfl rfl rfl c578 ?_
   refine ol_val (v := .bool (!decide ((List.length t563.1 : Int) = (List.length t579 : Int)))) (xr_pickF rfl rfl c578 rfl) rfl rfl rfl ?_
   refine ol_nil ?_
   obtain rfl := Option.some.inj j572
   refine thn_i ?_
   exact ⟨e7, rfl, rfl, (q576.gr q584)⟩
  rintro ρ586 w587 ⟨e7, e11, e69, q588⟩
  have b198 := b198.gr q588
  have o201 := o201.gr q588
  have o204 := o204.gr q588
  have o559 := o559.gr q588
  have fB := fB.gr q588
  rcases is h with ⟨c589, h⟩ | ⟨c589, h⟩
  ·refine cw_condT e69 c589 ?_
   refine cw_seq ?_
   refine cw_region ?_
   refine ol_val (v := .bool false) (xr_assign rfl rfl) rfl rfl rfl ?_
   refine ol_nil ?_
   refine cw_ret ?_
   repeat (first | with_reducible refine thn_r ?_ | with_reducible refine blk_r ?_)
   obtain rfl := Option.some.inj h
   refine fin_ret1 Try.results17 rfl ?_
   exact ⟨_, rfl, rfl, fB⟩
  refine cw_condF e69 c589 ?_
  refine cw_skip ?_
  refine cw_seq ?_
  refine cw_region ?_
  refine ol_val (v := (pt G196 0)) (xr_move rfl e7) rfl rfl rfl ?_
  obtain ⟨t590, k591, h⟩ := bs h
  refine ol_op (opv_call rfl cal67 (ac rfl (ac rfl an)) (fate_All.ok fu _ m25 G196 u200 (o201.rd) u203 (o204.rd) b198 64 _ k591)) rfl rfl rfl ?_
  rintro u592 w595 ⟨_, r593, rfl, q594⟩
  have b198 := b198.gr q594
  have o201 := o201.gr q594
  have o204 := o204.gr q594
  have o559 := o559.gr q594
  have fB := fB.gr q594
  refine ol_val (v := u592) (xr_assign rfl rfl) rfl rfl rfl ?_
  refine ol_nil ?_
  refine cw_seq ?_
  refine cw_seq ?_
  refine cw_region ?_
  refine ol_val (v := (pt G196 0)) (xr_move rfl e7) rfl rfl rfl ?_
  obtain ⟨t596, k597, h⟩ := bs h
  refine ol_op (opv_call rfl cal61 (ac rfl an) (fate_Count.ok fu _ m25 G196 u200 (o201.rd) u203 (o204.rd) b198 _ k597)) rfl rfl rfl ?_
  rintro _ w599 ⟨rfl, q598⟩
  have o559 := o559.gr q598
  have r593 := r593.gr q598
  have fB := fB.gr q598
  refine ol_val (v := .bool (decide (t596 > 64))) (xr_gtr rfl rfl rfl) rfl rfl rfl ?_
  refine ol_nil ?_
  rcases is h with ⟨c600, h⟩ | ⟨c600, h⟩
  ·refine cw_condT rfl c600 ?_
   refine cw_seq ?_
   refine cw_region ?_
   refine ol_val (v := u592) (xr_move rfl rfl) rfl rfl rfl ?_
   refine ol_val (v := .int .i64 (List.length t590 : Int)) (xr_lenRs rfl Try.underlying100 rfl r593) rfl rfl rfl ?_
   refine ol_val (v := .bool (decide ((List.length t590 : Int) = 0))) (xr_eqI rfl Try.underlying3 rfl rfl rfl) rfl rfl rfl ?_
   refine ol_val (v := .bool (decide ((List.length t590 : Int) = 0))) (xr_assign rfl rfl) rfl rfl rfl ?_
   refine ol_nil ?_
   refine cw_ret ?_
   repeat (first | with_reducible refine thn_r ?_ | with_reducible refine blk_r ?_)
   obtain rfl := Option.some.inj h
   refine fin_ret1 Try.results17 rfl ?_
   exact ⟨_, rfl, rfl, fB⟩
  refine cw_condF rfl c600 ?_
  refine cw_skip ?_
  refine cw_seq ?_
  refine cw_region ?_
  refine ol_val (v := .int .i64 0) (xr_assign rfl rfl) rfl rfl rfl ?_
  refine ol_nil ?_
  refine cw_seq ?_
  refine cw_seq ?_
  refine cw_region ?_
  refine ol_val (v := .int .i64 0) (xr_assign rfl rfl) rfl rfl rfl ?_
  refine ol_nil ?_
  obtain ⟨e602, l603, h604⟩ := bs h
  refine cw_mid (fun ρ' w' => ρ' 15 = .int .i64 e602 ∧ Gr w w') ?_ ?_
  ·refine cw_block ?_
   refine cw_round (fun (s601 : Int × Int) ρ' w' => ∃ o559 : Own (kI .u8) 5 w' w.heap.size u558 t556, ∃ r593 : Rds (kI .u8) w' u592 t590, ρ' 11 = u558 ∧ ρ' 14 = u592 ∧ ρ' 15 = .int .i64 s601.1 ∧ ρ' 16 = .int .i64 s601.2 ∧ Gr w w') l603 ?_ ?_
   ·skip
    exact ⟨o559, r593, e11, rfl, rfl, rfl, fB⟩
   rintro s601 x607 ρ605 w606 ⟨o559, r593, e11, e14, e15, e16, fB⟩ h
   unfold rickyardlaw06_FateCrashes.s2 at h
   refine cw_seq ?_
   refine cw_seq ?_
   refine cw_region ?_
   refine ol_val (v := .int .i64 s601.2) (xr_move rfl e16) rfl rfl rfl ?_
   refine ol_val (v := u592) (xr_move rfl e14) rfl rfl rfl ?_
   refine ol_val (v := .int .i64 (List.length t590 : Int)) (xr_lenRs rfl Try.underlying100 rfl r593) rfl rfl rfl ?_
   refine ol_val (v := .bool (decide (s601.2 < (List.length t590 : Int)))) (xr_lss rfl rfl rfl) rfl rfl rfl ?_
   refine ol_nil ?_
   rcases is h with ⟨c608, h⟩ | ⟨c608, h⟩
   ·refine cw_condT rfl c608 ?_
    refine cw_skip ?_
    refine cw_seq ?_
    refine cw_block ?_
    refine cw_seq ?_
    obtain ⟨g609, h⟩ := gs h
    refine cw_drawL 7 [fun vz wz => vz = (u592 : Value), fun vz wz => vz = (.int .i64 s601.2 : Value), fun vz wz => vz = ((pt ((sb u592)) (so u592 + Int.toNat s601.2 * 1)) : Value), fun vz wz => ∃ u611 : Value, ∃ r610 : Rd (kI .u8) wz u611 (ix t590 s601.2), vz = (u611 : Value), fun vz wz => vz = (sv (List.map toB (ix t590 s601.2)) : Value), fun vz wz => vz = (u558 : Value), fun vz wz => vz = (sv (List.map toB t556) : Value)] mo rfl ⟨fun _ _ _ h _ => h, fun _ _ _ h _ => h, fun _ _ _ h _ => h, fun _ _ _ ⟨u611, r610, h⟩ q => ⟨u611, r610.gr q, h⟩, fun _ _ _ h _ => h, fun _ _ _ h _ => h, fun _ _ _ h _ => h, trivial⟩ ?_ ?_
    ·refine ⟨?_, ?_, ?_, ?_, ?_, ?_, ?_, trivial⟩
     ·intro ρz wz hz hk hd
      exact sk_val (v := u592) (xr_move rfl ((hk 14 rfl).trans e14)) rfl rfl
     ·intro ρz wz hz hk hd
      exact sk_val (v := .int .i64 s601.2) (xr_move rfl ((hk 16 rfl).trans e16)) rfl rfl
     ·intro ρz wz hz hk hd
      exact sk_val (xr_indexRs (v := u592) rfl Try.underlying100 sz43 (hd 0 rfl 84 rfl) (r593.gr hz) (hd 1 rfl 85 rfl) g609.1 g609.2) rfl rfl
     ·intro ρz wz hz hk hd
      exact sk_val (xr_load1 (v := inner wz u592 s601.2) rfl ag43 (hd 2 rfl 86 rfl) ((r593.gr hz).elem g609.1 g609.2).1) rfl ⟨_, ((r593.gr hz).elem g609.1 g609.2).2, rfl⟩
     ·intro ρz wz hz hk hd
      obtain ⟨u611, r610, d87⟩ := hd 3 rfl 87 rfl
      exact sk_val (v := sv (List.map toB (ix t590 s601.2))) (xr_toStr rfl Try.underlying43 Try.underlying5 Try.underlying9 d87 r610) rfl rfl
     ·intro ρz wz hz hk hd
      exact sk_val (v := u558) (xr_move rfl ((hk 11 rfl).trans e11)) rfl rfl
     intro ρz wz hz hk hd
     exact sk_val (v := sv (List.map toB t556)) (xr_toStr rfl Try.underlying43 Try.underlying5 Try.underlying9 (hd 5 rfl 89 rfl) (o559.gr hz).rd) rfl rfl
    intro ρ612 w613 q614 hk hd
    have e11 := (hk 11 rfl).trans e11
    have e14 := (hk 14 rfl).trans e14
    have e15 := (hk 15 rfl).trans e15
    have e16 := (hk 16 rfl).trans e16
    have e88 := hd 4 rfl 88 rfl
    have e90 := hd 6 rfl 90 rfl
    have o559 := o559.gr q614
    have r593 := r593.gr q614
    have fB := fB.gr q614
    refine ol_val (v := .bool (decide ((List.map toB (ix t590 s601.2)) = (List.map toB t556)))) (xr_eqStr rfl Try.underlying9 e88 e90) rfl rfl rfl ?_
    refine ol_nil ?_
    obtain ⟨x615, j616, h617⟩ := bs h
    refine cw_mid (fun ρ' w' => ∃ o559 : Own (kI .u8) 5 w' w.heap.size u558 t556, ∃ r593 : Rds (kI .u8) w' u592 t590, ρ' 11 = u558 ∧ ρ' 14 = u592 ∧ ρ' 15 = .int .i64 x615 ∧ ρ' 16 = .int .i64 s601.2 ∧ Gr w w') ?_ ?_
    ·have h := j616
     rcases is h with ⟨c618, h⟩ | ⟨c618, h⟩
     ·refine cw_condT rfl c618 ?_
      refine cw_region ?_
      refine ol_val (v := .int .i64 s601.1) (xr_move rfl e15) rfl rfl rfl ?_
      refine ol_val (v := .int .i64 (IntKind.i64.wrap (s601.1 + 1))) (xr_add rfl rfl rfl) rfl rfl rfl ?_
      refine ol_val (v := .int .i64 (IntKind.i64.wrap (s601.1 + 1))) (xr_assign rfl rfl) rfl rfl rfl ?_
      refine ol_nil ?_
      obtain rfl := Option.some.inj h
      refine thn_i ?_
      exact ⟨o559, r593, e11, e14, rfl, e16, fB⟩
     refine cw_condF rfl c618 ?_
     refine cw_skip ?_
     obtain rfl := Option.some.inj h
     refine thn_i ?_
     exact ⟨o559, r593, e11, e14, e15, e16, fB⟩
    rintro ρ619 w620 ⟨o559, r593, e11, e14, e15, e16, fB⟩
    have h := h617
    refine blk_i ?_
    refine cw_region ?_
    refine ol_val (v := .int .i64 s601.2) (xr_move rfl e16) rfl rfl rfl ?_
    refine ol_val (v := .int .i64 (IntKind.i64.wrap (s601.2 + 1))) (xr_add rfl rfl rfl) rfl rfl rfl ?_
    refine ol_val (v := .int .i64 (IntKind.i64.wrap (s601.2 + 1))) (xr_assign rfl rfl) rfl rfl rfl ?_
    refine ol_nil ?_
    obtain rfl := Option.some.inj h
    refine lp_in ?_
    exact ⟨o559, r593, e11, e14, e15, rfl, fB⟩
   refine cw_condF rfl c608 ?_
   refine cw_exit ?_
   repeat (first | with_reducible refine thn_e ?_ | with_reducible refine blk_e rfl ?_)
   obtain rfl := Option.some.inj h
   refine lp_exit ?_
   rintro rfl
   refine thn_x ?_
   exact ⟨e15, fB⟩
  rintro ρ621 w622 ⟨e15, fB⟩
  have h := h604
  refine cw_seq ?_
  refine cw_region ?_
  refine ol_val (v := .int .i64 e602) (xr_move rfl e15) rfl rfl rfl ?_
  refine ol_val (v := .bool (decide (e602 = 1))) (xr_eqI rfl Try.underlying3 rfl rfl rfl) rfl rfl rfl ?_
  refine ol_val (v := .bool (decide (e602 = 1))) (xr_assign rfl rfl) rfl rfl rfl ?_
  refine ol_nil ?_
  refine cw_ret ?_
  repeat (first | with_reducible refine thn_r ?_ | with_reducible refine blk_r ?_)
  obtain rfl := Option.some.inj h
  refine fin_ret1 Try.results17 rfl ?_
  exact ⟨_, rfl, rfl, fB⟩
 obtain ⟨G623, u627, u630, u633, u636, u639, o628, o631, o634, o637, o640, a642, a643, a644, rfl, z624, b625⟩ := p489.2 _ e532
 have a645 := OffV.call o201 o527
 have a646 := OffV.call o204 o530
 have a647 := OffV.call o204 o640
 have o527 := Own.base o527 fB.size
 have o530 := Own.base o530 fB.size
 have o628 := Own.base o628 fB.size
 have o631 := Own.base o631 fB.size
 have o634 := Own.base o634 fB.size
 have o637 := Own.base o637 fB.size
 have o640 := Own.base o640 fB.size
 have n648 := b198.ne z523
 have z523 := Nat.le_trans fB.size z523
 have n649 := b198.ne z624
 have z624 := Nat.le_trans fB.size z624
 have b198 := b198.gr q490
 have o201 := o201.gr q490
 have o204 := o204.gr q490
 have fB := fB.gr q490
 have n650 := Blk.neT b524 b625 (by decide)
 refine ol_val (v := .tuple #[(pt G522 0), (pt G623 0)]) (xr_move rfl rfl) rfl rfl rfl ?_
 refine ol_val (v := (pt G522 0)) (xr_extract rfl rfl rfl) rfl rfl rfl ?_
 refine ol_val (v := (pt G623 0)) (xr_extract rfl rfl rfl) rfl rfl rfl ?_
 refine ol_val (v := (pt G522 0)) (xr_assign rfl rfl) rfl rfl rfl ?_
 refine ol_val (v := (pt G623 0)) (xr_assign rfl rfl) rfl rfl rfl ?_
 refine ol_nil ?_
 refine cw_seq ?_
 refine cw_seq ?_
 refine cw_mid (fun ρ' w' => ρ' 2 = V2_0 ∧ ρ' 7 = (pt G196 0) ∧ ρ' 9 = (pt G522 0) ∧ ρ' 42 = .bool false ∧ w491 = w') ?_ ?_
 ·skip
  refine cw_region ?_
  refine ol_val (v := (pt G196 0)) (xr_move rfl rfl) rfl rfl rfl ?_
  refine ol_val (v := .bool false) (xr_eqP (b := false) rfl Try.underlying30 rfl rfl (by simp) (by simp)) rfl rfl rfl ?_
  refine ol_val (v := .bool false) (xr_move rfl rfl) rfl rfl rfl ?_
  refine ol_gval (v := (pt G522 0)) (xr_move rfl rfl) rfl rfl rfl rfl rfl rfl ?_
  refine ol_gval (v := .bool false) (xr_eqP (b := false) rfl Try.underlying30 rfl rfl (by simp) (by simp)) rfl rfl rfl rfl rfl rfl ?_
  refine ol_val (v := .bool false) (xr_pickF rfl rfl rfl rfl) rfl rfl rfl ?_
  refine ol_nil ?_
  refine thn_i ?_
  exact ⟨e2, rfl, rfl, rfl, rfl⟩
 rintro ρ651 _ ⟨e2, e7, e9, e42, rfl⟩
 refine cw_condF e42 rfl ?_
 refine cw_skip ?_
 refine cw_seq ?_
 refine cw_region ?_
 refine ol_val (v := (pt G522 0)) (xr_move rfl e9) rfl rfl rfl ?_
 refine ol_val (v := V2_0) (xr_move rfl e2) rfl rfl rfl ?_
 obtain ⟨t652, k653, h⟩ := bs h
 have f663 := (nb_or n648 (nb_or (nb_off (off_ty b198 o527 (by decide))) (nb_off (off_ty b198 o530 (by decide)))))
 have f664 := (vo_or (vo_eq (off_ty b524 o201 (by decide))) (vo_or (vo_own a645) (vo_own (OffV.ty o201 o530 (by decide)))))
 have f665 := (vo_or (vo_eq (off_ty b524 o204 (by decide))) (vo_or (vo_own (OffV.ty o204 o527 (by decide))) (vo_own a646)))
 have c666 : ∀ k, (k = G522 ∨ some k = Value.ownBlock u526 ∨ some k = Value.ownBlock u529) → w.heap.size ≤ k := (cv_or (cv_eq z523) (cv_or (cv_own o527.geO) (cv_own o530.geO)))
 refine ol_op (opv_call rfl cal32 (ac rfl (ac rfl an)) (pmem_Device_Crash.ok fu _ m493 G522 u526 (Own.base o527 (Nat.zero_le _)) u529 (Own.base o530 (Nat.zero_le _)) b524 a2 V2_0 (R2_0.gr fB) (OffR.new R2_0 z523 rfl) (OffRV.call R2_0 o527 rfl) (OffRV.call R2_0 o530 rfl) _ k653)) rfl rfl rfl ?_
 rintro _ w667 ⟨u655, u659, o656, m657, o660, m661, rfl, b524, q654⟩
 have a668 := ov_new o201 f664 m657
 have a669 := ov_new o204 f665 m661
 have o656 := Own.rebase o656 (fun g hg => (m657 g hg).elim (fun x => Nat.le_trans fB.size x) (c666 g))
 have o660 := Own.rebase o660 (fun g hg => (m661 g hg).elim (fun x => Nat.le_trans fB.size x) (c666 g))
 have b198 := b198.fr q654 f663
 have o201 := o201.fr q654 f664
 have o204 := o204.fr q654 f665
 have fB := fB.call q654 (fun k h => .inl (c666 k h))
 refine ol_nil ?_
 refine cw_seq ?_
 refine cw_region ?_
 refine ol_val (v := (pt G522 0)) (xr_move rfl e9) rfl rfl rfl ?_
 obtain ⟨t670, k671, h⟩ := bs h
 refine ol_op (opv_call rfl cal33 (ac rfl an) (pmem_Device_Image.ok fu _ t652 G522 u655 (o656.rd) u659 (o660.rd) b524 _ k671)) rfl rfl rfl ?_
 rintro u672 w676 ⟨_, o673, rfl, q675⟩
 have o673 := Own.base o673 fB.size
 have b198 := b198.gr q675
 have o201 := o201.gr q675
 have o204 := o204.gr q675
 have fB := fB.gr q675
 refine ol_val (v := u672) (xr_assign rfl rfl) rfl rfl rfl ?_
 refine ol_nil ?_
 refine cw_seq ?_
 refine cw_region ?_
 refine ol_val (v := (pt G196 0)) (xr_move rfl e7) rfl rfl rfl ?_
 refine ol_val (v := u672) (xr_move rfl rfl) rfl rfl rfl ?_
 obtain ⟨t677, k678, h⟩ := bs h
 refine ol_op (opv_call rfl cal63 (ac rfl (ac rfl an)) (fate_Choose.ok fu _ m25 G196 u200 (o201.rd) u203 (o204.rd) b198 t670 u672 (o673.rd) _ k678)) rfl rfl rfl ?_
 rintro _ w683 ⟨u679, o680, rfl, q682⟩
 have a684 := OffV.call o204 o680
 have o680 := Own.base o680 fB.size
 have b198 := b198.gr q682
 have o201 := o201.gr q682
 have o204 := o204.gr q682
 have o673 := o673.gr q682
 have fB := fB.gr q682
 refine ol_val (v := .tuple #[u679, .bool t677.2]) (xr_move rfl rfl) rfl rfl rfl ?_
 refine ol_val (v := u679) (xr_extract rfl rfl rfl) rfl rfl rfl ?_
 refine ol_val (v := .bool t677.2) (xr_extract rfl rfl rfl) rfl rfl rfl ?_
 refine ol_val (v := u679) (xr_assign rfl rfl) rfl rfl rfl ?_
 refine ol_val (v := .bool t677.2) (xr_assign rfl rfl) rfl rfl rfl ?_
 refine ol_nil ?_
 refine cw_seq ?_
 refine cw_seq ?_
 obtain ⟨x685, j686, h⟩ := bs h
 refine cw_mid (fun ρ' w' => ρ' 7 = (pt G196 0) ∧ ρ' 11 = u672 ∧ ρ' 69 = .bool x685 ∧ Gr w683 w') ?_ ?_
 ·skip
  refine cw_region ?_
  refine ol_val (v := .bool t677.2) (xr_move rfl rfl) rfl rfl rfl ?_
  refine ol_val (v := .bool (!t677.2)) (xr_not rfl rfl) rfl rfl rfl ?_
  refine ol_val (v := .bool (!t677.2)) (xr_move rfl rfl) rfl rfl rfl ?_
  rcases is j686 with ⟨c687, j686⟩ | ⟨c687, j686⟩
  ·skip
   refine ol_gskip rfl rfl rfl rfl rfl c687 ?_
   refine ol_gskip rfl rfl rfl rfl rfl c687 ?_
   refine ol_gskip rfl rfl rfl rfl rfl c687 ?_
   refine ol_gskip rfl rfl rfl rfl rfl c687 ?_
   refine ol_val (v := .bool true) (xr_pickT rfl rfl c687 rfl) rfl rfl rfl ?_
   refine ol_val (v := .bool true) (xr_move rfl rfl) rfl rfl rfl ?_
   refine ol_gskip rfl rfl rfl rfl rfl rfl ?_
   refine ol_gskip rfl rfl rfl rfl rfl rfl ?_
   refine ol_gskip rfl rfl rfl rfl rfl rfl ?_
   refine ol_gskip rfl rfl rfl rfl rfl rfl ?_
   refine ol_gskip rfl rfl rfl rfl rfl rfl ?_
   refine ol_gskip rfl rfl rfl rfl rfl rfl ?_
   refine ol_val (v := .bool true) (xr_pickT rfl rfl rfl rfl) rfl rfl rfl ?_
   refine ol_nil ?_
   obtain rfl := Option.some.inj j686
   refine thn_i ?_
   exact ⟨e7, rfl, rfl, Fr.refl _ _⟩
  refine ol_gval (v := (pt G196 0)) (xr_move rfl e7) rfl rfl rfl rfl rfl c687 ?_
  refine ol_gval (v := u672) (xr_move rfl rfl) rfl rfl rfl rfl rfl c687 ?_
  obtain ⟨t688, k689, j686⟩ := bs j686
  refine ol_gop (opv_call rfl cal65 (ac rfl (ac rfl an)) (fate_May.ok fu _ m25 G196 u200 (o201.rd) u203 (o204.rd) b198 t670 u672 (o673.rd) _ k689)) rfl rfl rfl rfl rfl c687 ?_
  rintro _ w691 ⟨rfl, q690⟩
  have b198 := b198.gr q690
  have o201 := o201.gr q690
  have o204 := o204.gr q690
  have o673 := o673.gr q690
  have o680 := o680.gr q690
  have fB := fB.gr q690
  refine ol_gval (v := .bool (!t688)) (xr_not rfl rfl) rfl rfl rfl rfl rfl c687 ?_
  refine ol_val (v := .bool (!t688)) (xr_pickF rfl rfl c687 rfl) rfl rfl rfl ?_
  refine ol_val (v := .bool (!t688)) (xr_move rfl rfl) rfl rfl rfl ?_
  rcases is j686 with ⟨c692, j686⟩ | ⟨c692, j686⟩
  ·skip
   refine ol_gskip rfl rfl rfl rfl rfl c692 ?_
   refine ol_gskip rfl rfl rfl rfl rfl c692 ?_
   refine ol_gskip rfl rfl rfl rfl rfl c692 ?_
   refine ol_gskip rfl rfl rfl rfl rfl c692 ?_
   refine ol_gskip rfl rfl rfl rfl rfl c692 ?_
   refine ol_gskip rfl rfl rfl rfl rfl c692 ?_
   refine ol_val (v := .bool true) (xr_pickT rfl rfl c692 rfl) rfl rfl rfl ?_
   refine ol_nil ?_
   obtain rfl := Option.some.inj j686
   refine thn_i ?_
   exact ⟨e7, rfl, rfl, q690⟩
  refine ol_gval (v := u679) (xr_move rfl rfl) rfl rfl rfl rfl rfl c692 ?_
  refine ol_gval (v := .int .i64 (List.length t677.1 : Int)) (xr_lenR rfl Try.underlying25 rfl o680.rd) rfl rfl rfl rfl rfl c692 ?_
  refine ol_gval (v := (pt G196 0)) (xr_move rfl e7) rfl rfl rfl rfl rfl c692 ?_
  obtain ⟨t693, k694, j686⟩ := bs j686
  refine ol_gop (opv_call rfl cal40 (ac rfl an) (pmem_Device_Fates.ok fu _ m25 G196 u200 (o201.rd) u203 (o204.rd) b198 _ k694)) rfl rfl rfl rfl rfl c692 ?_
  rintro u695 w699 ⟨_, o696, rfl, q698⟩
  have o696 := Own.base o696 fB.size
  have b198 := b198.gr q698
  have o201 := o201.gr q698
  have o204 := o204.gr q698
  have o673 := o673.gr q698
  have fB := fB.gr q698
  refine ol_gval (v := .int .i64 (List.length t693 : Int)) (xr_lenR rfl Try.underlying52 rfl o696.rd) rfl rfl rfl rfl rfl c692 ?_
  refine ol_gval (v := .bool (!decide ((List.length t677.1 : Int) = (List.length t693 : Int)))) (xr_neI rfl Try.underlying3 rfl rfl rfl) rfl rfl rfl rfl rfl c692 ?_
  refine ol_val (v := .bool (!decide ((List.length t677.1 : Int) = (List.length t693 : Int)))) (xr_pickF rfl rfl c692 rfl) rfl rfl rfl ?_
  refine ol_nil ?_
  obtain rfl := Option.some.inj j686
  refine thn_i ?_
  exact ⟨e7, rfl, rfl, (q690.gr q698)⟩
 rintro ρ700 w701 ⟨e7, e11, e69, q702⟩
 have b198 := b198.gr q702
 have o201 := o201.gr q702
 have o204 := o204.gr q702
 have o673 := o673.gr q702
 have fB := fB.gr q702
 rcases is h with ⟨c703, h⟩ | ⟨c703, h⟩
 ·refine cw_condT e69 c703 ?_
  refine cw_seq ?_
  refine cw_region ?_
  refine ol_val (v := .bool false) (xr_assign rfl rfl) rfl rfl rfl ?_
  refine ol_nil ?_
  refine cw_ret ?_
  repeat (first | with_reducible refine thn_r ?_ | with_reducible refine blk_r ?_)
  obtain rfl := Option.some.inj h
  refine fin_ret1 Try.results17 rfl ?_
  exact ⟨_, rfl, rfl, fB⟩
 refine cw_condF e69 c703 ?_
 refine cw_skip ?_
 refine cw_seq ?_
 refine cw_region ?_
 refine ol_val (v := (pt G196 0)) (xr_move rfl e7) rfl rfl rfl ?_
 obtain ⟨t704, k705, h⟩ := bs h
 refine ol_op (opv_call rfl cal67 (ac rfl (ac rfl an)) (fate_All.ok fu _ m25 G196 u200 (o201.rd) u203 (o204.rd) b198 64 _ k705)) rfl rfl rfl ?_
 rintro u706 w709 ⟨_, r707, rfl, q708⟩
 have b198 := b198.gr q708
 have o201 := o201.gr q708
 have o204 := o204.gr q708
 have o673 := o673.gr q708
 have fB := fB.gr q708
 refine ol_val (v := u706) (xr_assign rfl rfl) rfl rfl rfl ?_
 refine ol_nil ?_
 refine cw_seq ?_
 refine cw_seq ?_
 refine cw_region ?_
 refine ol_val (v := (pt G196 0)) (xr_move rfl e7) rfl rfl rfl ?_
 obtain ⟨t710, k711, h⟩ := bs h
 refine ol_op (opv_call rfl cal61 (ac rfl an) (fate_Count.ok fu _ m25 G196 u200 (o201.rd) u203 (o204.rd) b198 _ k711)) rfl rfl rfl ?_
 rintro _ w713 ⟨rfl, q712⟩
 have o673 := o673.gr q712
 have r707 := r707.gr q712
 have fB := fB.gr q712
 refine ol_val (v := .bool (decide (t710 > 64))) (xr_gtr rfl rfl rfl) rfl rfl rfl ?_
 refine ol_nil ?_
 rcases is h with ⟨c714, h⟩ | ⟨c714, h⟩
 ·refine cw_condT rfl c714 ?_
  refine cw_seq ?_
  refine cw_region ?_
  refine ol_val (v := u706) (xr_move rfl rfl) rfl rfl rfl ?_
  refine ol_val (v := .int .i64 (List.length t704 : Int)) (xr_lenRs rfl Try.underlying100 rfl r707) rfl rfl rfl ?_
  refine ol_val (v := .bool (decide ((List.length t704 : Int) = 0))) (xr_eqI rfl Try.underlying3 rfl rfl rfl) rfl rfl rfl ?_
  refine ol_val (v := .bool (decide ((List.length t704 : Int) = 0))) (xr_assign rfl rfl) rfl rfl rfl ?_
  refine ol_nil ?_
  refine cw_ret ?_
  repeat (first | with_reducible refine thn_r ?_ | with_reducible refine blk_r ?_)
  obtain rfl := Option.some.inj h
  refine fin_ret1 Try.results17 rfl ?_
  exact ⟨_, rfl, rfl, fB⟩
 refine cw_condF rfl c714 ?_
 refine cw_skip ?_
 refine cw_seq ?_
 refine cw_region ?_
 refine ol_val (v := .int .i64 0) (xr_assign rfl rfl) rfl rfl rfl ?_
 refine ol_nil ?_
 refine cw_seq ?_
 refine cw_seq ?_
 refine cw_region ?_
 refine ol_val (v := .int .i64 0) (xr_assign rfl rfl) rfl rfl rfl ?_
 refine ol_nil ?_
 obtain ⟨e716, l717, h718⟩ := bs h
 refine cw_mid (fun ρ' w' => ρ' 15 = .int .i64 e716 ∧ Gr w w') ?_ ?_
 ·refine cw_block ?_
  refine cw_round (fun (s715 : Int × Int) ρ' w' => ∃ o673 : Own (kI .u8) 5 w' w.heap.size u672 t670, ∃ r707 : Rds (kI .u8) w' u706 t704, ρ' 11 = u672 ∧ ρ' 14 = u706 ∧ ρ' 15 = .int .i64 s715.1 ∧ ρ' 16 = .int .i64 s715.2 ∧ Gr w w') l717 ?_ ?_
  ·skip
   exact ⟨o673, r707, e11, rfl, rfl, rfl, fB⟩
  rintro s715 x721 ρ719 w720 ⟨o673, r707, e11, e14, e15, e16, fB⟩ h
  unfold rickyardlaw06_FateCrashes.s3 at h
  refine cw_seq ?_
  refine cw_seq ?_
  refine cw_region ?_
  refine ol_val (v := .int .i64 s715.2) (xr_move rfl e16) rfl rfl rfl ?_
  refine ol_val (v := u706) (xr_move rfl e14) rfl rfl rfl ?_
  refine ol_val (v := .int .i64 (List.length t704 : Int)) (xr_lenRs rfl Try.underlying100 rfl r707) rfl rfl rfl ?_
  refine ol_val (v := .bool (decide (s715.2 < (List.length t704 : Int)))) (xr_lss rfl rfl rfl) rfl rfl rfl ?_
  refine ol_nil ?_
  rcases is h with ⟨c722, h⟩ | ⟨c722, h⟩
  ·refine cw_condT rfl c722 ?_
   refine cw_skip ?_
   refine cw_seq ?_
   refine cw_block ?_
   refine cw_seq ?_
   obtain ⟨g723, h⟩ := gs h
   refine cw_drawL 7 [fun vz wz => vz = (u706 : Value), fun vz wz => vz = (.int .i64 s715.2 : Value), fun vz wz => vz = ((pt ((sb u706)) (so u706 + Int.toNat s715.2 * 1)) : Value), fun vz wz => ∃ u725 : Value, ∃ r724 : Rd (kI .u8) wz u725 (ix t704 s715.2), vz = (u725 : Value), fun vz wz => vz = (sv (List.map toB (ix t704 s715.2)) : Value), fun vz wz => vz = (u672 : Value), fun vz wz => vz = (sv (List.map toB t670) : Value)] mo rfl ⟨fun _ _ _ h _ => h, fun _ _ _ h _ => h, fun _ _ _ h _ => h, fun _ _ _ ⟨u725, r724, h⟩ q => ⟨u725, r724.gr q, h⟩, fun _ _ _ h _ => h, fun _ _ _ h _ => h, fun _ _ _ h _ => h, trivial⟩ ?_ ?_
   ·refine ⟨?_, ?_, ?_, ?_, ?_, ?_, ?_, trivial⟩
    ·intro ρz wz hz hk hd
     exact sk_val (v := u706) (xr_move rfl ((hk 14 rfl).trans e14)) rfl rfl
    ·intro ρz wz hz hk hd
     exact sk_val (v := .int .i64 s715.2) (xr_move rfl ((hk 16 rfl).trans e16)) rfl rfl
    ·intro ρz wz hz hk hd
     exact sk_val (xr_indexRs (v := u706) rfl Try.underlying100 sz43 (hd 0 rfl 84 rfl) (r707.gr hz) (hd 1 rfl 85 rfl) g723.1 g723.2) rfl rfl
    ·intro ρz wz hz hk hd
     exact sk_val (xr_load1 (v := inner wz u706 s715.2) rfl ag43 (hd 2 rfl 86 rfl) ((r707.gr hz).elem g723.1 g723.2).1) rfl ⟨_, ((r707.gr hz).elem g723.1 g723.2).2, rfl⟩
    ·intro ρz wz hz hk hd
     obtain ⟨u725, r724, d87⟩ := hd 3 rfl 87 rfl
     exact sk_val (v := sv (List.map toB (ix t704 s715.2))) (xr_toStr rfl Try.underlying43 Try.underlying5 Try.underlying9 d87 r724) rfl rfl
    ·intro ρz wz hz hk hd
     exact sk_val (v := u672) (xr_move rfl ((hk 11 rfl).trans e11)) rfl rfl
    intro ρz wz hz hk hd
    exact sk_val (v := sv (List.map toB t670)) (xr_toStr rfl Try.underlying43 Try.underlying5 Try.underlying9 (hd 5 rfl 89 rfl) (o673.gr hz).rd) rfl rfl
   intro ρ726 w727 q728 hk hd
   have e11 := (hk 11 rfl).trans e11
   have e14 := (hk 14 rfl).trans e14
   have e15 := (hk 15 rfl).trans e15
   have e16 := (hk 16 rfl).trans e16
   have e88 := hd 4 rfl 88 rfl
   have e90 := hd 6 rfl 90 rfl
   have o673 := o673.gr q728
   have r707 := r707.gr q728
   have fB := fB.gr q728
   refine ol_val (v := .bool (decide ((List.map toB (ix t704 s715.2)) = (List.map toB t670)))) (xr_eqStr rfl Try.underlying9 e88 e90) rfl rfl rfl ?_
   refine ol_nil ?_
   obtain ⟨x729, j730, h731⟩ := bs h
   refine cw_mid (fun ρ' w' => ∃ o673 : Own (kI .u8) 5 w' w.heap.size u672 t670, ∃ r707 : Rds (kI .u8) w' u706 t704, ρ' 11 = u672 ∧ ρ' 14 = u706 ∧ ρ' 15 = .int .i64 x729 ∧ ρ' 16 = .int .i64 s715.2 ∧ Gr w w') ?_ ?_
   ·have h := j730
    rcases is h with ⟨c732, h⟩ | ⟨c732, h⟩
    ·refine cw_condT rfl c732 ?_
     refine cw_region ?_
     refine ol_val (v := .int .i64 s715.1) (xr_move rfl e15) rfl rfl rfl ?_
     refine ol_val (v := .int .i64 (IntKind.i64.wrap (s715.1 + 1))) (xr_add rfl rfl rfl) rfl rfl rfl ?_
     refine ol_val (v := .int .i64 (IntKind.i64.wrap (s715.1 + 1))) (xr_assign rfl rfl) rfl rfl rfl ?_
     refine ol_nil ?_
     obtain rfl := Option.some.inj h
     refine thn_i ?_
     exact ⟨o673, r707, e11, e14, rfl, e16, fB⟩
    refine cw_condF rfl c732 ?_
    refine cw_skip ?_
    obtain rfl := Option.some.inj h
    refine thn_i ?_
    exact ⟨o673, r707, e11, e14, e15, e16, fB⟩
   rintro ρ733 w734 ⟨o673, r707, e11, e14, e15, e16, fB⟩
   have h := h731
   refine blk_i ?_
   refine cw_region ?_
   refine ol_val (v := .int .i64 s715.2) (xr_move rfl e16) rfl rfl rfl ?_
   refine ol_val (v := .int .i64 (IntKind.i64.wrap (s715.2 + 1))) (xr_add rfl rfl rfl) rfl rfl rfl ?_
   refine ol_val (v := .int .i64 (IntKind.i64.wrap (s715.2 + 1))) (xr_assign rfl rfl) rfl rfl rfl ?_
   refine ol_nil ?_
   obtain rfl := Option.some.inj h
   refine lp_in ?_
   exact ⟨o673, r707, e11, e14, e15, rfl, fB⟩
  refine cw_condF rfl c722 ?_
  refine cw_exit ?_
  repeat (first | with_reducible refine thn_e ?_ | with_reducible refine blk_e rfl ?_)
  obtain rfl := Option.some.inj h
  refine lp_exit ?_
  rintro rfl
  refine thn_x ?_
  exact ⟨e15, fB⟩
 rintro ρ735 w736 ⟨e15, fB⟩
 have h := h718
 refine cw_seq ?_
 refine cw_region ?_
 refine ol_val (v := .int .i64 e716) (xr_move rfl e15) rfl rfl rfl ?_
 refine ol_val (v := .bool (decide (e716 = 1))) (xr_eqI rfl Try.underlying3 rfl rfl rfl) rfl rfl rfl ?_
 refine ol_val (v := .bool (decide (e716 = 1))) (xr_assign rfl rfl) rfl rfl rfl ?_
 refine ol_nil ?_
 refine cw_ret ?_
 repeat (first | with_reducible refine thn_r ?_ | with_reducible refine blk_r ?_)
 obtain rfl := Option.some.inj h
 refine fin_ret1 Try.results17 rfl ?_
 exact ⟨_, rfl, rfl, fB⟩
end Go.Proofs.Ytklhbaghbmndeaa
namespace Go.Xw
open Go
variable {P : Program} {w : World}
def Opn {α : Type} (P : Program) (w : World) (T : TypeId) (K : Kd α) (ok : α → Prop) : Prop :=
  ∀ {H : Type} (enc : TypeId × Value → H) (base : Nat) (sp : Nat → Bool) (held : Bool) (fuel : Nat) (cs : List Value) (x : DataW H × List MemPlace), DataW.trod enc P w base sp held fuel T cs = some x → ∃ a : α, cs = K.enc a ∧ ok a
theorem opn_int {T : TypeId} {k : IntKind} (ht : P.underlying T = some (.int k)) : Opn P w T (kI k) (fun n => (Lit.int k n).wf = true) := by
  intro H enc base sp held fuel cs x h
  obtain ⟨n, rfl, _, hw⟩ := DataW.trod_int ht h
  exact ⟨n, rfl, hw⟩
theorem ms_len {α β : Type} {f : α → Option β} : ∀ {l : List α} {ys : List β}, l.mapM f = some ys → ys.length = l.length
  | [], ys, h => by simp at h; subst h; rfl
  | a :: l, ys, h => by
    rw [List.mapM_cons] at h
    obtain ⟨b, _, h⟩ := Option.bind_eq_some_iff.1 h
    obtain ⟨bs, hb, h⟩ := Option.bind_eq_some_iff.1 h
    simp at h
    subst h
    simp [ms_len hb]
theorem ms_get {α β : Type} {f : α → Option β} : ∀ {l : List α} {ys : List β}, l.mapM f = some ys → ∀ (i : Nat) (a : α), l[i]? = some a → ∃ y, ys[i]? = some y ∧ f a = some y
  | [], ys, h, i, a, ha => by simp at ha
  | b :: l, ys, h, i, a, ha => by
    rw [List.mapM_cons] at h
    obtain ⟨c, hc, h⟩ := Option.bind_eq_some_iff.1 h
    obtain ⟨bs, hb, h⟩ := Option.bind_eq_some_iff.1 h
    simp at h
    subst h
    cases i with
    | zero =>
      simp at ha
      subst ha
      exact ⟨c, rfl, hc⟩
    | succ i =>
      simp at ha
      obtain ⟨y, h1, h2⟩ := ms_get hb i a ha
      exact ⟨y, by simpa using h1, h2⟩
theorem fld_cons {cs : List Value} {o n : Nat} {c r : List Value} (h : (cs.drop o).take n = c) (hr : cs.drop (o + n) = r) : cs.drop o = c ++ r := by
  rw [← h, ← hr, ← List.drop_drop, List.take_append_drop]
theorem trod_st {H : Type} {enc : TypeId × Value → H} {base : Nat} {sp : Nat → Bool} {held : Bool} {fuel : Nat} {T : TypeId} {fs : Array Field} {cs : List Value} {x : DataW H × List MemPlace} (ht : P.underlying T = some (.struct fs)) (h : DataW.trod enc P w base sp held fuel T cs = some x) :
    cs.length = P.cellsOf T ∧ ∃ m, ∀ (i : Nat) (f : Field), fs[i]? = some f → ∃ y, DataW.trod enc P w base sp held m f.type ((cs.drop f.offset).take (P.cellsOf f.type)) = some y := by
  obtain ⟨xs, m, _, _, hl, hn, hf⟩ := DataW.trod_struct ht h
  refine ⟨hl, m, fun i f hi => ?_⟩
  have hx : i < xs.length := by rw [hn]; exact (Array.getElem?_eq_some_iff.1 hi).1
  exact ⟨xs[i], by rw [hf i f hi, List.getElem?_eq_getElem hx]⟩
def OpnS {α : Type} (P : Program) (w : World) (T : TypeId) (K : Kd α) (ok : α → Prop) : Prop :=
  ∀ {H : Type} (enc : TypeId × Value → H) (base : Nat) (sp : Nat → Bool) (held : Bool) (fuel : Nat) (cs : List Value) (x : DataW H × List MemPlace), DataW.trod enc P w base sp held fuel T cs = some x → ∃ (l : List α) (V : Value), cs = [V] ∧ Rd K w V l ∧ (∀ a ∈ l, ok a) ∧ l.length ≤ maxLen ∧ (sb V < w.heap.size ∨ l = [])
theorem cells_get {base : Nat} {a : Addr} {n : Nat} {cs : List Value} (h : w.cells? base a n = some cs) : cs.length = n ∧ ∀ j, j < n → w.cell? (a.add j) = cs[j]? := by
  unfold World.cells? at h
  split at h
  · refine ⟨by simpa using ms_len h, fun j hj => ?_⟩
    obtain ⟨y, h1, h2⟩ := ms_get h j j (by simp [hj])
    rw [h1, h2]
  · cases h
theorem opn_slice {α : Type} {K : Kd α} {ok : α → Prop} {T e : TypeId} (ht : P.underlying T = some (.slice e)) (he : P.cellsOf e = K.size) (hk : 0 < K.size) (ho : Opn P w e K ok) : OpnS P w T K ok := by
  intro H enc base sp held fuel cs x h
  rcases DataW.trod_slice ht h with ⟨rfl, _⟩ | ⟨a, len, cap, elems, rest, n, rfl, rfl, _, _, hl, hm, hlen, hel, _, _⟩
  · exact ⟨[], _, rfl, Rd.nil K w, by simp, by simp, .inr rfl⟩
  · have hex : ∀ i, i < len → ∃ b, (∀ j z, (K.enc b)[j]? = some z → w.cell? (a.add (i * K.size + j)) = some z) ∧ ok b := by
      intro i hi
      have h1 := hel i hi
      rw [List.getElem?_eq_getElem (by omega)] at h1
      obtain ⟨cs, h2, h3⟩ := Option.bind_eq_some_iff.1 h1
      obtain ⟨b, rfl, hb⟩ := ho enc base sp held n cs _ h3
      obtain ⟨h4, h5⟩ := cells_get h2
      rw [he] at h4 h5
      refine ⟨b, fun j z hz => ?_, hb⟩
      have hj : j < K.size := by rw [← h4]; exact (List.getElem?_eq_some_iff.1 hz).1
      have := h5 j hj
      rw [hz] at this
      rw [← this]
      congr 1
      unfold Addr.add
      by_cases hi0 : i * K.size = 0
      · by_cases hj0 : j = 0
        · simp [hi0, hj0]
        · simp [hi0, hj0]
      · by_cases hj0 : j = 0
        · simp [hi0, hj0]
        · have : i * K.size + j ≠ 0 := by omega
          simp [hi0, hj0, this, Nat.add_assoc]
    have hlist : ∀ m, m ≤ len → ∃ l : List α, l.length = m ∧ (∀ b ∈ l, ok b) ∧ ∀ j z, (l.flatMap K.enc)[j]? = some z → w.cell? (a.add j) = some z := by
      intro m
      induction m with
      | zero => intro _; exact ⟨[], rfl, by simp, by simp⟩
      | succ m ih =>
        intro hm
        obtain ⟨l, h1, h2, h3⟩ := ih (by omega)
        obtain ⟨b, h4, h5⟩ := hex m (by omega)
        refine ⟨l ++ [b], by simp [h1], ?_, ?_⟩
        · intro c hc
          rcases List.mem_append.1 hc with hc | hc
          · exact h2 c hc
          · obtain rfl := List.mem_singleton.1 hc
            exact h5
        · intro j z hz
          have hL : (l.flatMap K.enc).length = m * K.size := by rw [len_flat, h1]
          simp only [List.flatMap_append, List.flatMap_cons, List.flatMap_nil, List.append_nil] at hz
          by_cases hj : j < m * K.size
          · rw [List.getElem?_append_left (by omega)] at hz
            exact h3 j z hz
          · rw [List.getElem?_append_right (by omega), hL] at hz
            have := h4 (j - m * K.size) z hz
            rwa [show m * K.size + (j - m * K.size) = j from by omega] at this
    obtain ⟨l, h1, h2, h3⟩ := hlist len (Nat.le_refl _)
    have hpos : 0 < l.length → ∃ z, w.cell? a = some z := by
      intro hp
      cases l with
      | nil => simp at hp
      | cons b l =>
        have hb : (K.enc b).length = K.size := K.len b
        have : ∃ z, ((b :: l).flatMap K.enc)[0]? = some z := ⟨_, List.getElem?_eq_getElem (by simp [List.flatMap_cons, hb]; omega)⟩
        obtain ⟨z, hz⟩ := this
        have := h3 0 z hz
        exact ⟨z, by simpa [Addr.add] using this⟩
    refine ⟨l, _, rfl, ⟨some a, cap, by rw [h1], by omega, fun hp => ?_⟩, h2, by omega, ?_⟩
    · obtain ⟨z, hz⟩ := hpos hp
      obtain ⟨b, o, s⟩ := a
      have hs : s = none := by
        unfold World.cell? at hz
        split at hz
        · cases s with
          | none => rfl
          | some _ => simp at hz
        · cases hz
      subst hs
      refine ⟨b, o, rfl, fun j v hv => ?_⟩
      have := h3 j v hv
      rwa [Addr.add_lit] at this
    · rcases Nat.eq_zero_or_pos l.length with h0 | hp
      · exact .inr (List.eq_nil_of_length_eq_zero h0)
      · obtain ⟨z, hz⟩ := hpos hp
        refine .inl ?_
        unfold World.cell? at hz
        split at hz
        · rename_i hh
          exact (Array.getElem?_eq_some_iff.1 hh).1
        · cases hz
theorem opn_sliceN {P : Program} {w : World} {α : Type} {n : Nat} {D : World → List Value → α → Prop} {ok : α → Prop} {T e : TypeId} (ht : P.underlying T = some (.slice e)) (he : P.cellsOf e = n) (hk : 0 < n)
    (ho : ∀ {H : Type} (enc : TypeId × Value → H) (base : Nat) (sp : Nat → Bool) (held : Bool) (fuel : Nat) (cs : List Value) (x : DataW H × List MemPlace), DataW.trod enc P w base sp held fuel e cs = some x → ∃ a : α, D w cs a ∧ ok a ∧ cs.length = n ∧ ∀ v ∈ cs, v.oneCell' = true)
    {H : Type} (enc : TypeId × Value → H) (base : Nat) (sp : Nat → Bool) (held : Bool) (fuel : Nat) (cs : List Value) (x : DataW H × List MemPlace) (h : DataW.trod enc P w base sp held fuel T cs = some x) :
    ∃ (l : List α) (V : Value), cs = [V] ∧ RdN n D w V l ∧ (∀ a ∈ l, ok a) ∧ l.length ≤ maxLen ∧ (sb V < w.heap.size ∨ l = []) := by
  let β := { p : { l : List Value // l.length = n ∧ ∀ v ∈ l, v.oneCell' = true } × α // D w p.1.1 p.2 ∧ ok p.2 }
  let K : Kd β := ⟨fun p => p.1.1.1, n, fun p => p.1.1.2.1, fun p => p.1.1.2.2⟩
  have hp : Opn P w e K (fun _ => True) := by
    intro H enc base sp held fuel cs x h
    obtain ⟨a, hd, hok, hl, h1⟩ := ho enc base sp held fuel cs x h
    exact ⟨⟨(⟨cs, hl, h1⟩, a), hd, hok⟩, rfl, trivial⟩
  obtain ⟨l, V, e1, r, _, hm, hs⟩ := opn_slice (K := K) ht he hk hp enc base sp held fuel cs x h
  refine ⟨l.map (fun p => p.1.2), V, e1, ⟨l.map (fun p => p.1.1), ?_, by simp, ?_⟩, ?_, by simpa using hm, ?_⟩
  · obtain ⟨A, c, rfl, hc, hr⟩ := r
    refine ⟨A, c, by simp, by simpa using hc, fun hpos => ?_⟩
    obtain ⟨b, o, ea, hat⟩ := hr (by simpa using hpos)
    refine ⟨b, o, ea, ?_⟩
    rw [List.flatMap_map]
    exact hat
  · intro i h1 h2
    have hi : i < l.length := by simpa using h1
    simp only [List.getElem_map]
    exact (l[i]).2.1
  · intro a ha
    obtain ⟨p, _, rfl⟩ := List.mem_map.1 ha
    exact p.2.2
  · rcases hs with hs | rfl
    · exact .inl hs
    · exact .inr rfl
end Go.Xw
namespace Go.Proofs.Ytklhbaghbmndeaa
open Go Go.Xw
def ok_rickyardlaw05_Act (a : S_rickyardlaw05_Act) : Prop := (Lit.int .i64 a.Kind).wf = true ∧ (Lit.int .i64 a.At).wf = true ∧ (Lit.int .u64 a.W).wf = true ∧ ((∀ x ∈ a.L, (Lit.int .i64 x).wf = true) ∧ List.length a.L ≤ maxLen)
theorem opn_rickyardlaw05_Act {w : World} {H : Type} (enc : TypeId × Value → H) (base : Nat) (sp : Nat → Bool) (held : Bool) (fuel : Nat) (cs : List Value) (x : DataW H × List MemPlace) (h : DataW.trod enc Try.prog w base sp held fuel 39 cs = some x) : ∃ a : S_rickyardlaw05_Act, ∃ V0 : Value, ∃ R0 : Rd (kI .i64) w V0 a.L, cs = cellsOf [Seg.cell (.int .i64 a.Kind), Seg.cell (.int .i64 a.At), Seg.cell (.int .u64 a.W), Seg.cell V0 R0.one] ∧ ok_rickyardlaw05_Act a := by
  obtain ⟨hl, m, hf⟩ := trod_st Try.underlying39 h
  obtain ⟨y0, h0⟩ := hf 0 _ rfl
  have c0 : Try.prog.cellsOf 3 = 1 := by kernel_rfl
  obtain ⟨b0, e0, o0⟩ := (opn_int Try.underlying3) enc base sp held m _ y0 h0
  have e0 : (cs.drop 0).take 1 = (kI .i64).enc b0 := (congrArg (fun n => (cs.drop 0).take n) c0).symm.trans e0
  obtain ⟨y1, h1⟩ := hf 1 _ rfl
  have c1 : Try.prog.cellsOf 3 = 1 := by kernel_rfl
  obtain ⟨b1, e1, o1⟩ := (opn_int Try.underlying3) enc base sp held m _ y1 h1
  have e1 : (cs.drop 1).take 1 = (kI .i64).enc b1 := (congrArg (fun n => (cs.drop 1).take n) c1).symm.trans e1
  obtain ⟨y2, h2⟩ := hf 2 _ rfl
  have c2 : Try.prog.cellsOf 22 = 1 := by kernel_rfl
  obtain ⟨b2, e2, o2⟩ := (opn_int Try.underlying22) enc base sp held m _ y2 h2
  have e2 : (cs.drop 2).take 1 = (kI .u64).enc b2 := (congrArg (fun n => (cs.drop 2).take n) c2).symm.trans e2
  obtain ⟨y3, h3⟩ := hf 3 _ rfl
  have c3 : Try.prog.cellsOf 25 = 1 := by kernel_rfl
  obtain ⟨b3, W3, e3, r3, o3, l3, _⟩ := (opn_slice (K := (kI .i64)) Try.underlying25 (by kernel_rfl) (by decide) (opn_int Try.underlying3)) enc base sp held m _ y3 h3
  have e3 : (cs.drop 3).take 1 = [W3] := (congrArg (fun n => (cs.drop 3).take n) c3).symm.trans e3
  have hn : cs.drop 4 = [] := List.drop_eq_nil_of_le (by rw [hl]; exact Nat.le_of_eq (by kernel_rfl))
  have hc : cs = (kI .i64).enc b0 ++ ((kI .i64).enc b1 ++ ((kI .u64).enc b2 ++ ([W3] ++ []))) := (fld_cons (o := 0) (n := 1) e0 (fld_cons (o := 1) (n := 1) e1 (fld_cons (o := 2) (n := 1) e2 (fld_cons (o := 3) (n := 1) e3 hn))))
  refine ⟨⟨b0, b1, b2, b3⟩, W3, r3, ?_, o0, o1, o2, ⟨o3, l3⟩⟩
  rw [hc]
  simp [kA, kI, kB, kS, kT, cellsOf, Seg.cell, Kd.seg]
end Go.Proofs.Ytklhbaghbmndeaa
namespace Go.Proofs.Ytklhbaghbmndeaa.Pure
open Go Go.Xw
def upd {α : Type} (g : Nat → α → α) (lo j : Nat) (cs : List α) : List α := cs.mapIdx fun i c => if lo ≤ i ∧ i < lo + j then g i c else c
theorem upd_len {α : Type} (g : Nat → α → α) (lo j : Nat) (cs : List α) : (upd g lo j cs).length = cs.length := by simp [upd]
theorem upd_zero {α : Type} (g : Nat → α → α) (lo : Nat) (cs : List α) : upd g lo 0 cs = cs := by
  apply List.ext_getElem (by simp [upd])
  intro i h1 h2
  simp only [upd, List.getElem_mapIdx]
  rw [if_neg (by omega)]
theorem upd_get {α : Type} (g : Nat → α → α) (lo j : Nat) (cs : List α) (i : Nat) (h : i < (upd g lo j cs).length) : (upd g lo j cs)[i] = if lo ≤ i ∧ i < lo + j then g i (cs[i]'(by simpa [upd] using h)) else cs[i]'(by simpa [upd] using h) := by
  simp only [upd, List.getElem_mapIdx]
theorem upd_next {α : Type} (g : Nat → α → α) (lo j : Nat) (cs : List α) (h : lo + j < cs.length) : (upd g lo j cs)[lo + j]'(by rw [upd_len]; exact h) = cs[lo + j] := by
  rw [upd_get, if_neg (by omega)]
theorem upd_set {α : Type} (g : Nat → α → α) (lo j : Nat) (cs : List α) (h : lo + j < cs.length) : (upd g lo j cs).set (lo + j) (g (lo + j) cs[lo + j]) = upd g lo (j + 1) cs := by
  apply List.ext_getElem (by simp [upd])
  intro i h1 h2
  rw [List.getElem_set, upd_get g lo (j + 1)]
  by_cases e : lo + j = i
  · subst e
    rw [if_pos rfl, if_pos (by omega)]
  · rw [if_neg e, upd_get]
    by_cases c : lo ≤ i ∧ i < lo + j
    · rw [if_pos c, if_pos (by omega)]
    · rw [if_neg c, if_neg (by omega)]
theorem upd_same {α : Type} (g : Nat → α → α) (lo j : Nat) (cs : List α) (h : lo + j < cs.length) (e : g (lo + j) cs[lo + j] = cs[lo + j]) : upd g lo j cs = upd g lo (j + 1) cs := by
  apply List.ext_getElem (by simp [upd])
  intro i h1 h2
  rw [upd_get g lo j, upd_get g lo (j + 1)]
  by_cases e' : lo + j = i
  · subst e'
    rw [if_neg (by omega), if_pos (by omega), e]
  · by_cases c : lo ≤ i ∧ i < lo + j
    · rw [if_pos c, if_pos (by omega)]
    · rw [if_neg c, if_neg (by omega)]
theorem upd_all {α : Type} (g : Nat → α → α) (cs : List α) : upd g 0 cs.length cs = cs.mapIdx g := by
  apply List.ext_getElem (by simp [upd])
  intro i h1 h2
  rw [upd_get, if_pos ⟨by omega, by rw [upd_len] at h1; omega⟩, List.getElem_mapIdx]
theorem getD_set {α : Type} (cs : List α) (i k : Nat) (v d : α) (hi : i < cs.length) : (cs.set i v).getD k d = if i = k then v else cs.getD k d := by
  simp only [List.getD_eq_getElem?_getD, List.getElem?_set]
  by_cases h : i = k
  · subst h
    simp [hi]
  · simp [h]
theorem getD_of {α : Type} (cs : List α) (i : Nat) (d : α) (hi : i < cs.length) : cs.getD i d = cs[i] := by
  simp [List.getD_eq_getElem?_getD, List.getElem?_eq_getElem hi]
end Go.Proofs.Ytklhbaghbmndeaa.Pure
namespace Go.Proofs.Ytklhbaghbmndeaa
open Go Go.Xw
end Go.Proofs.Ytklhbaghbmndeaa
namespace Go.Proofs.Ytklhbaghbmndeaa.Pure
open Go Go.Xw
def Bytes (l : List Int) : Prop := ∀ x ∈ l, 0 ≤ x ∧ x ≤ 255
theorem ix_nat {α : Type} [Inhabited α] {l : List α} {j : Nat} (h : j < l.length) : ix l (j : Int) = l[j] := by
  simp [ix, List.getD_eq_getElem?_getD, List.getElem?_eq_getElem h]
theorem take_next {α : Type} {l : List α} {j : Nat} (h : j < l.length) : l.take (j + 1) = l.take j ++ [l[j]] := by
  rw [List.take_add_one, List.getElem?_eq_getElem h]
  rfl
end Go.Proofs.Ytklhbaghbmndeaa.Pure
namespace Go.Proofs.Ytklhbaghbmndeaa
open Go Go.Xw
end Go.Proofs.Ytklhbaghbmndeaa
