/- RootPicks: texts merged, part 6 of 9. The last part proves that the law RootPicks holds for every input. -/
import Derived.Test.YtklhbaghbmndeaaPkRootPicks5
set_option linter.unusedVariables false
set_option linter.unusedSimpArgs false
namespace Go.Proofs.Ytklhbaghbmndeaa
open Go Go.Xw
def pmem_Device_Flush.s0 (fu : Nat) (a1 : Int) : (Int × (List S_pmem_cell)) → Option (Sum (List S_pmem_cell) (Int × (List S_pmem_cell))) := fun s16 => (if (decide (s16.1 < 8)) = true then (if 0 ≤ (IntKind.i64.wrap ((IntKind.i64.wrap (a1 * 8)) + s16.1)) ∧ (IntKind.i64.wrap ((IntKind.i64.wrap (a1 * 8)) + s16.1)) < (List.length s16.2 : Int) then some (Sum.inr ((IntKind.i64.wrap (s16.1 + 1)), (List.set (List.set s16.2 (Int.toNat (IntKind.i64.wrap ((IntKind.i64.wrap (a1 * 8)) + s16.1))) (⟨(ix s16.2 (IntKind.i64.wrap ((IntKind.i64.wrap (a1 * 8)) + s16.1))).lasts, (ix s16.2 (IntKind.i64.wrap ((IntKind.i64.wrap (a1 * 8)) + s16.1))).stored, (ix s16.2 (IntKind.i64.wrap ((IntKind.i64.wrap (a1 * 8)) + s16.1))).stored, (ix s16.2 (IntKind.i64.wrap ((IntKind.i64.wrap (a1 * 8)) + s16.1))).flushed⟩ : S_pmem_cell)) (Int.toNat (IntKind.i64.wrap ((IntKind.i64.wrap (a1 * 8)) + s16.1))) (⟨(ix (List.set s16.2 (Int.toNat (IntKind.i64.wrap ((IntKind.i64.wrap (a1 * 8)) + s16.1))) (⟨(ix s16.2 (IntKind.i64.wrap ((IntKind.i64.wrap (a1 * 8)) + s16.1))).lasts, (ix s16.2 (IntKind.i64.wrap ((IntKind.i64.wrap (a1 * 8)) + s16.1))).stored, (ix s16.2 (IntKind.i64.wrap ((IntKind.i64.wrap (a1 * 8)) + s16.1))).stored, (ix s16.2 (IntKind.i64.wrap ((IntKind.i64.wrap (a1 * 8)) + s16.1))).flushed⟩ : S_pmem_cell)) (IntKind.i64.wrap ((IntKind.i64.wrap (a1 * 8)) + s16.1))).lasts, (ix (List.set s16.2 (Int.toNat (IntKind.i64.wrap ((IntKind.i64.wrap (a1 * 8)) + s16.1))) (⟨(ix s16.2 (IntKind.i64.wrap ((IntKind.i64.wrap (a1 * 8)) + s16.1))).lasts, (ix s16.2 (IntKind.i64.wrap ((IntKind.i64.wrap (a1 * 8)) + s16.1))).stored, (ix s16.2 (IntKind.i64.wrap ((IntKind.i64.wrap (a1 * 8)) + s16.1))).stored, (ix s16.2 (IntKind.i64.wrap ((IntKind.i64.wrap (a1 * 8)) + s16.1))).flushed⟩ : S_pmem_cell)) (IntKind.i64.wrap ((IntKind.i64.wrap (a1 * 8)) + s16.1))).stored, (ix (List.set s16.2 (Int.toNat (IntKind.i64.wrap ((IntKind.i64.wrap (a1 * 8)) + s16.1))) (⟨(ix s16.2 (IntKind.i64.wrap ((IntKind.i64.wrap (a1 * 8)) + s16.1))).lasts, (ix s16.2 (IntKind.i64.wrap ((IntKind.i64.wrap (a1 * 8)) + s16.1))).stored, (ix s16.2 (IntKind.i64.wrap ((IntKind.i64.wrap (a1 * 8)) + s16.1))).stored, (ix s16.2 (IntKind.i64.wrap ((IntKind.i64.wrap (a1 * 8)) + s16.1))).flushed⟩ : S_pmem_cell)) (IntKind.i64.wrap ((IntKind.i64.wrap (a1 * 8)) + s16.1))).sent, true⟩ : S_pmem_cell)))) else none) else some (Sum.inl (s16.2)))
def pmem_Device_Flush.f (fu : Nat) (a0 : S_pmem_Device) (a1 : Int) : Option (Int × S_pmem_Device) := ((pmem_Device_Lines.f fu a0 : Option Int).bind fun t7 => ((pmem_Device_may.f fu a0 a1 t7 : Option Int).bind fun t11 => (if (!decide (t11 = 0)) = true then some (t11, a0) else ((loopM (pmem_Device_Flush.s0 fu a1) fu (0, a0.cells)).bind fun e17 => ((pmem_Device_step.f fu (⟨e17, a0.plan, a0.off, a0.armed, a0.left, a0.steps⟩ : S_pmem_Device) : Option S_pmem_Device).bind fun t37 => some (0, t37))))))
set_option maxRecDepth 100000 in
set_option maxHeartbeats 400000 in
theorem pmem_Device_Flush.ok (fu : Nat) (w : World) (a0 : S_pmem_Device) (G_0 : Nat) (V0_0 : Value) (O0_0 : Own k_pmem_cell 142 w 0 V0_0 a0.cells) (V0_1 : Value) (O0_1 : Own (kI .i64) 3 w 0 V0_1 a0.plan.list) (b_0 : Blk w G_0 139 [Seg.cell V0_0 O0_0.one, Seg.cell V0_1 O0_1.one, Seg.cell (.int .i64 a0.plan.at_), Seg.cell (.bool a0.off), Seg.cell (.bool a0.armed), Seg.cell (.int .i64 a0.left), Seg.cell (.int .i64 a0.steps)]) (a1 : Int) (r : Int × S_pmem_Device) (h : pmem_Device_Flush.f fu a0 a1 = some r) :
  Calls Try.prog 29 (([.pointer (some ⟨G_0, 0, none⟩), .int .i64 a1] : List Value).toArray) w (fun e w' => ∃ v, e = .returned v ∧ ∃ u1 : Value, ∃ u4 : Value, ∃ o2 : Own k_pmem_cell 142 w' 0 u1 r.2.cells, ∃ m3 : ∀ g, Value.ownBlock u1 = some g → w.heap.size ≤ g ∨ (g = G_0 ∨ some g = Value.ownBlock V0_0 ∨ some g = Value.ownBlock V0_1), ∃ o5 : Own (kI .i64) 3 w' 0 u4 r.2.plan.list, ∃ m6 : ∀ g, Value.ownBlock u4 = some g → w.heap.size ≤ g ∨ (g = G_0 ∨ some g = Value.ownBlock V0_0 ∨ some g = Value.ownBlock V0_1), v = .int .i64 r.1 ∧ Blk w' G_0 139 [Seg.cell u1 o2.one, Seg.cell u4 o5.one, Seg.cell (.int .i64 r.2.plan.at_), Seg.cell (.bool r.2.off), Seg.cell (.bool r.2.armed), Seg.cell (.int .i64 r.2.left), Seg.cell (.int .i64 r.2.steps)] ∧ Fr (fun j => j = G_0 ∨ some j = Value.ownBlock V0_0 ∨ some j = Value.ownBlock V0_1) w w') := by
 unfold pmem_Device_Flush.f at h
 have fB : Fr (fun j => j = G_0 ∨ some j = Value.ownBlock V0_0 ∨ some j = Value.ownBlock V0_1) w w := Fr.refl _ _
 have M0_0 : ∀ g, Value.ownBlock V0_0 = some g → w.heap.size ≤ g ∨ (g = G_0 ∨ some g = Value.ownBlock V0_0 ∨ some g = Value.ownBlock V0_1) := fun g hg => .inr (.inr (.inl hg.symm))
 have M0_1 : ∀ g, Value.ownBlock V0_1 = some g → w.heap.size ≤ g ∨ (g = G_0 ∨ some g = Value.ownBlock V0_0 ∨ some g = Value.ownBlock V0_1) := fun g hg => .inr (.inr (.inr hg.symm))
 refine calls_cw Try.func29 rfl Try.ntmps29 rfl ?_
 refine cw_seq ?_
 refine cw_region ?_
 refine ol_val (v := .int .i64 0) (by exact xr_assign rfl rfl) rfl rfl rfl ?_
 refine ol_nil ?_
 refine cw_seq ?_
 refine cw_seq ?_
 refine cw_region ?_
 refine ol_val (v := .pointer (some ⟨G_0, 0, none⟩)) (by exact xr_move rfl rfl) rfl rfl rfl ?_
 refine ol_val (v := .int .i64 a1) (by exact xr_move rfl rfl) rfl rfl rfl ?_
 refine ol_val (v := .pointer (some ⟨G_0, 0, none⟩)) (by exact xr_move rfl rfl) rfl rfl rfl ?_
 obtain ⟨t7, k8, h⟩ := bs h
 refine ol_op (by exact opv_call rfl cal43 (ac rfl an) (pmem_Device_Lines.ok fu _ a0 G_0 V0_0 (O0_0.rd) V0_1 (O0_1.rd) b_0 _ k8)) rfl rfl rfl ?_
 rintro _ w10 ⟨rfl, q9⟩
 have b_0 := b_0.gr q9
 have O0_0 := O0_0.gr q9
 have O0_1 := O0_1.gr q9
 have fB := fB.gr q9
 obtain ⟨t11, k12, h⟩ := bs h
 refine ol_op (by exact opv_call rfl cal83 (ac rfl (ac rfl (ac rfl an))) (pmem_Device_may.ok fu _ a0 G_0 V0_0 (O0_0.rd) V0_1 (O0_1.rd) b_0 a1 t7 _ k12)) rfl rfl rfl ?_
 rintro _ w14 ⟨rfl, q13⟩
 have b_0 := b_0.gr q13
 have O0_0 := O0_0.gr q13
 have O0_1 := O0_1.gr q13
 have fB := fB.gr q13
 refine ol_val (v := .int .i64 t11) (by exact xr_assign rfl rfl) rfl rfl rfl ?_
 refine ol_nil ?_
 refine cw_seq ?_
 refine cw_region ?_
 refine ol_val (v := .int .i64 t11) (by exact xr_move rfl rfl) rfl rfl rfl ?_
 refine ol_val (v := .bool (!decide (t11 = 0))) (by exact xr_neI rfl Try.underlying31 rfl rfl rfl) rfl rfl rfl ?_
 refine ol_nil ?_
 rcases is h with ⟨c15, h⟩ | ⟨c15, h⟩
 ·refine cw_condT rfl c15 ?_
  refine cw_seq ?_
  refine cw_region ?_
  refine ol_val (v := .int .i64 t11) (by exact xr_move rfl rfl) rfl rfl rfl ?_
  refine ol_val (v := .int .i64 t11) (by exact xr_assign rfl rfl) rfl rfl rfl ?_
  refine ol_nil ?_
  refine cw_ret ?_
  repeat (first | with_reducible refine thn_r ?_ | with_reducible refine blk_r ?_)
  obtain rfl := Option.some.inj h
  refine fin_ret1 Try.results29 rfl ?_
  exact ⟨_, rfl, V0_0, V0_1, O0_0, M0_0, O0_1, M0_1, rfl, b_0, fB⟩
 refine cw_condF rfl c15 ?_
 refine cw_skip ?_
 refine cw_seq ?_
 refine cw_seq ?_
 refine cw_region ?_
 refine ol_val (v := .int .i64 0) (by exact xr_move rfl rfl) rfl rfl rfl ?_
 refine ol_nil ?_
 obtain ⟨e17, l18, h19⟩ := bs h
 refine cw_mid (fun ρ' w' => ∃ O0_0 : Own k_pmem_cell 142 w' 0 V0_0 e17, ∃ O0_1 : Own (kI .i64) 3 w' 0 V0_1 a0.plan.list, ρ' 0 = .pointer (some ⟨G_0, 0, none⟩) ∧ Blk w' G_0 139 [Seg.cell V0_0 O0_0.one, Seg.cell V0_1 O0_1.one, Seg.cell (.int .i64 a0.plan.at_), Seg.cell (.bool a0.off), Seg.cell (.bool a0.armed), Seg.cell (.int .i64 a0.left), Seg.cell (.int .i64 a0.steps)] ∧ Fr (fun j => j = G_0 ∨ some j = Value.ownBlock V0_0 ∨ some j = Value.ownBlock V0_1) w w') ?_ ?_
 ·refine cw_block ?_
  refine cw_round (fun (s16 : Int × (List S_pmem_cell)) ρ' w' => ∃ O0_0 : Own k_pmem_cell 142 w' 0 V0_0 s16.2, ∃ O0_1 : Own (kI .i64) 3 w' 0 V0_1 a0.plan.list, ρ' 0 = .pointer (some ⟨G_0, 0, none⟩) ∧ ρ' 1 = .int .i64 a1 ∧ ρ' 16 = .int .i64 s16.1 ∧ Blk w' G_0 139 [Seg.cell V0_0 O0_0.one, Seg.cell V0_1 O0_1.one, Seg.cell (.int .i64 a0.plan.at_), Seg.cell (.bool a0.off), Seg.cell (.bool a0.armed), Seg.cell (.int .i64 a0.left), Seg.cell (.int .i64 a0.steps)] ∧ Fr (fun j => j = G_0 ∨ some j = Value.ownBlock V0_0 ∨ some j = Value.ownBlock V0_1) w w') l18 ?_ ?_
  ·skip
   exact ⟨O0_0, O0_1, rfl, rfl, rfl, b_0, fB⟩
  rintro s16 x22 ρ20 w21 ⟨O0_0, O0_1, e0, e1, e16, b_0, fB⟩ h
  unfold pmem_Device_Flush.s0 at h
  refine cw_seq ?_
  refine cw_region ?_
  refine ol_val (v := .bool (decide (s16.1 < 8))) (by exact xr_lss rfl e16 rfl) rfl rfl rfl ?_
  refine ol_nil ?_
  refine cw_seq ?_
  rcases is h with ⟨c23, h⟩ | ⟨c23, h⟩
  ·refine cw_condT rfl c23 ?_
   refine cw_skip ?_
   refine cw_seq ?_
   refine cw_block ?_
   refine cw_seq ?_
   refine cw_region ?_
   refine ol_val (v := .int .i64 s16.1) (by exact xr_move rfl e16) rfl rfl rfl ?_
   refine ol_val (v := .int .i64 s16.1) (by exact xr_assign rfl rfl) rfl rfl rfl ?_
   refine ol_nil ?_
   refine cw_seq ?_
   refine cw_region ?_
   refine ol_val (v := .pointer (some ⟨G_0, 0, none⟩)) (by exact xr_move rfl e0) rfl rfl rfl ?_
   refine ol_val (v := .pointer (some ⟨G_0, 0, none⟩)) (by exact xr_nilCheck rfl rfl) rfl rfl rfl ?_
   refine ol_val (v := .pointer (some ⟨G_0, 0, none⟩)) (by exact xr_fieldAddr (p := 0) (q := 0) rfl fl139_0 rfl) rfl rfl rfl ?_
   refine ol_val (v := V0_0) (by exact xr_load1 (v := V0_0) rfl ag135 rfl (b_0.seg 0 rfl rfl)) rfl rfl rfl ?_
   refine ol_val (v := .int .i64 a1) (by exact xr_move rfl e1) rfl rfl rfl ?_
   refine ol_val (v := .int .i64 (IntKind.i64.wrap (a1 * 8))) (by exact xr_mul rfl rfl rfl) rfl rfl rfl ?_
   refine ol_val (v := .int .i64 s16.1) (by exact xr_move rfl rfl) rfl rfl rfl ?_
   refine ol_val (v := .int .i64 (IntKind.i64.wrap ((IntKind.i64.wrap (a1 * 8)) + s16.1))) (by exact xr_add rfl rfl rfl) rfl rfl rfl ?_
   obtain ⟨g24, h⟩ := gs h
   refine ol_val (v := .pointer (some ⟨(sb V0_0), so V0_0 + Int.toNat (IntKind.i64.wrap ((IntKind.i64.wrap (a1 * 8)) + s16.1)) * 4, none⟩)) (by exact xr_indexR (K := k_pmem_cell) (v := V0_0) rfl Try.underlying135 sz142 rfl O0_0.rd rfl g24.1 g24.2) rfl rfl rfl ?_
   refine ol_val (v := .pointer (some ⟨(sb V0_0), so V0_0 + Int.toNat (IntKind.i64.wrap ((IntKind.i64.wrap (a1 * 8)) + s16.1)) * 4, none⟩)) (by exact xr_assign rfl rfl) rfl rfl rfl ?_
   refine ol_nil ?_
   refine cw_region ?_
   refine ol_val (v := .pointer (some ⟨(sb V0_0), so V0_0 + Int.toNat (IntKind.i64.wrap ((IntKind.i64.wrap (a1 * 8)) + s16.1)) * 4, none⟩)) (by exact xr_move rfl rfl) rfl rfl rfl ?_
   refine ol_val (v := .pointer (some ⟨(sb V0_0), so V0_0 + Int.toNat (IntKind.i64.wrap ((IntKind.i64.wrap (a1 * 8)) + s16.1)) * 4, none⟩)) (by exact xr_move rfl rfl) rfl rfl rfl ?_
   refine ol_val (v := .pointer (some ⟨(sb V0_0), so V0_0 + Int.toNat (IntKind.i64.wrap ((IntKind.i64.wrap (a1 * 8)) + s16.1)) * 4, none⟩)) (by exact xr_move rfl rfl) rfl rfl rfl ?_
   refine ol_val (v := .pointer (some ⟨(sb V0_0), so V0_0 + Int.toNat (IntKind.i64.wrap ((IntKind.i64.wrap (a1 * 8)) + s16.1)) * 4, none⟩)) (by exact xr_nilCheck rfl rfl) rfl rfl rfl ?_
   refine ol_val (v := .pointer (some ⟨(sb V0_0), so V0_0 + Int.toNat (IntKind.i64.wrap ((IntKind.i64.wrap (a1 * 8)) + s16.1)) * 4 + 1, none⟩)) (by exact xr_fieldAddr (p := so V0_0 + Int.toNat (IntKind.i64.wrap ((IntKind.i64.wrap (a1 * 8)) + s16.1)) * 4) (q := 1) rfl fl142_1 rfl) rfl rfl rfl ?_
   refine ol_val (v := .int .u64 ((ix s16.2 (IntKind.i64.wrap ((IntKind.i64.wrap (a1 * 8)) + s16.1))).stored)) (by exact xr_load1 (v := .int .u64 ((ix s16.2 (IntKind.i64.wrap ((IntKind.i64.wrap (a1 * 8)) + s16.1))).stored)) rfl ag22 rfl (At.segs (ss := segs_pmem_cell (ix s16.2 (IntKind.i64.wrap ((IntKind.i64.wrap (a1 * 8)) + s16.1)))) (O0_0.rd.elem g24.1 g24.2) 1 1 rfl)) rfl rfl rfl ?_
   refine ol_val (v := .pointer (some ⟨(sb V0_0), so V0_0 + Int.toNat (IntKind.i64.wrap ((IntKind.i64.wrap (a1 * 8)) + s16.1)) * 4, none⟩)) (by exact xr_nilCheck rfl rfl) rfl rfl rfl ?_
   refine ol_val (v := .pointer (some ⟨(sb V0_0), so V0_0 + Int.toNat (IntKind.i64.wrap ((IntKind.i64.wrap (a1 * 8)) + s16.1)) * 4 + 2, none⟩)) (by exact xr_fieldAddr (p := so V0_0 + Int.toNat (IntKind.i64.wrap ((IntKind.i64.wrap (a1 * 8)) + s16.1)) * 4) (q := 2) rfl fl142_2 rfl) rfl rfl rfl ?_
   have f26 := off_ty b_0 O0_0 (by decide)
   have f27 := OffV.ty O0_1 O0_0 (by decide)
   refine ol_op0 (by exact opv_storeRow (z := (⟨(ix s16.2 (IntKind.i64.wrap ((IntKind.i64.wrap (a1 * 8)) + s16.1))).lasts, (ix s16.2 (IntKind.i64.wrap ((IntKind.i64.wrap (a1 * 8)) + s16.1))).stored, (ix s16.2 (IntKind.i64.wrap ((IntKind.i64.wrap (a1 * 8)) + s16.1))).stored, (ix s16.2 (IntKind.i64.wrap ((IntKind.i64.wrap (a1 * 8)) + s16.1))).flushed⟩ : S_pmem_cell)) (xs := cellsOf [Seg.cell (.int .u64 ((ix s16.2 (IntKind.i64.wrap ((IntKind.i64.wrap (a1 * 8)) + s16.1))).stored))]) rfl sz22 rfl rfl rfl (len_cellsOf _) (one_cellsOf _) O0_0 g24.1 g24.2 (Spl.segs (segs_pmem_cell (ix s16.2 (IntKind.i64.wrap ((IntKind.i64.wrap (a1 * 8)) + s16.1)))) 2 1 [Seg.cell (.int .u64 ((ix s16.2 (IntKind.i64.wrap ((IntKind.i64.wrap (a1 * 8)) + s16.1))).stored))] rfl rfl) rfl) rfl rfl ?_
   rintro _ w29 ⟨O0_0, q25⟩
   have b_0 := b_0.wrO q25 f26
   have O0_1 := O0_1.wrV q25 f27
   have fB := fB.wrM q25 M0_0
   refine ol_val (v := .pointer (some ⟨(sb V0_0), so V0_0 + Int.toNat (IntKind.i64.wrap ((IntKind.i64.wrap (a1 * 8)) + s16.1)) * 4, none⟩)) (by exact xr_nilCheck rfl rfl) rfl rfl rfl ?_
   refine ol_val (v := .pointer (some ⟨(sb V0_0), so V0_0 + Int.toNat (IntKind.i64.wrap ((IntKind.i64.wrap (a1 * 8)) + s16.1)) * 4 + 3, none⟩)) (by exact xr_fieldAddr (p := so V0_0 + Int.toNat (IntKind.i64.wrap ((IntKind.i64.wrap (a1 * 8)) + s16.1)) * 4) (q := 3) rfl fl142_3 rfl) rfl rfl rfl ?_
   have f31 := off_ty b_0 O0_0 (by decide)
   have f32 := OffV.ty O0_1 O0_0 (by decide)
   refine ol_op0 (by exact opv_storeRow (z := (⟨(ix (List.set s16.2 (Int.toNat (IntKind.i64.wrap ((IntKind.i64.wrap (a1 * 8)) + s16.1))) (⟨(ix s16.2 (IntKind.i64.wrap ((IntKind.i64.wrap (a1 * 8)) + s16.1))).lasts, (ix s16.2 (IntKind.i64.wrap ((IntKind.i64.wrap (a1 * 8)) + s16.1))).stored, (ix s16.2 (IntKind.i64.wrap ((IntKind.i64.wrap (a1 * 8)) + s16.1))).stored, (ix s16.2 (IntKind.i64.wrap ((IntKind.i64.wrap (a1 * 8)) + s16.1))).flushed⟩ : S_pmem_cell)) (IntKind.i64.wrap ((IntKind.i64.wrap (a1 * 8)) + s16.1))).lasts, (ix (List.set s16.2 (Int.toNat (IntKind.i64.wrap ((IntKind.i64.wrap (a1 * 8)) + s16.1))) (⟨(ix s16.2 (IntKind.i64.wrap ((IntKind.i64.wrap (a1 * 8)) + s16.1))).lasts, (ix s16.2 (IntKind.i64.wrap ((IntKind.i64.wrap (a1 * 8)) + s16.1))).stored, (ix s16.2 (IntKind.i64.wrap ((IntKind.i64.wrap (a1 * 8)) + s16.1))).stored, (ix s16.2 (IntKind.i64.wrap ((IntKind.i64.wrap (a1 * 8)) + s16.1))).flushed⟩ : S_pmem_cell)) (IntKind.i64.wrap ((IntKind.i64.wrap (a1 * 8)) + s16.1))).stored, (ix (List.set s16.2 (Int.toNat (IntKind.i64.wrap ((IntKind.i64.wrap (a1 * 8)) + s16.1))) (⟨(ix s16.2 (IntKind.i64.wrap ((IntKind.i64.wrap (a1 * 8)) + s16.1))).lasts, (ix s16.2 (IntKind.i64.wrap ((IntKind.i64.wrap (a1 * 8)) + s16.1))).stored, (ix s16.2 (IntKind.i64.wrap ((IntKind.i64.wrap (a1 * 8)) + s16.1))).stored, (ix s16.2 (IntKind.i64.wrap ((IntKind.i64.wrap (a1 * 8)) + s16.1))).flushed⟩ : S_pmem_cell)) (IntKind.i64.wrap ((IntKind.i64.wrap (a1 * 8)) + s16.1))).sent, true⟩ : S_pmem_cell)) (xs := cellsOf [Seg.cell (.bool true)]) rfl sz4 rfl rfl rfl (len_cellsOf _) (one_cellsOf _) O0_0 g24.1 (by simpa only [List.length_set] using g24.2) (Spl.segs (segs_pmem_cell (ix (List.set s16.2 (Int.toNat (IntKind.i64.wrap ((IntKind.i64.wrap (a1 * 8)) + s16.1))) (⟨(ix s16.2 (IntKind.i64.wrap ((IntKind.i64.wrap (a1 * 8)) + s16.1))).lasts, (ix s16.2 (IntKind.i64.wrap ((IntKind.i64.wrap (a1 * 8)) + s16.1))).stored, (ix s16.2 (IntKind.i64.wrap ((IntKind.i64.wrap (a1 * 8)) + s16.1))).stored, (ix s16.2 (IntKind.i64.wrap ((IntKind.i64.wrap (a1 * 8)) + s16.1))).flushed⟩ : S_pmem_cell)) (IntKind.i64.wrap ((IntKind.i64.wrap (a1 * 8)) + s16.1)))) 3 1 [Seg.cell (.bool true)] rfl rfl) rfl) rfl rfl ?_
   rintro _ w34 ⟨O0_0, q30⟩
   have b_0 := b_0.wrO q30 f31
   have O0_1 := O0_1.wrV q30 f32
   have fB := fB.wrM q30 M0_0
   refine ol_nil ?_
   refine blk_i ?_
   refine cw_region ?_
   refine ol_val (v := .int .i64 (IntKind.i64.wrap (s16.1 + 1))) (by exact xr_add rfl e16 rfl) rfl rfl rfl ?_
   refine ol_val (v := .int .i64 (IntKind.i64.wrap (s16.1 + 1))) (by exact xr_move rfl rfl) rfl rfl rfl ?_
   refine ol_nil ?_
   obtain rfl := Option.some.inj h
   refine lp_in ?_
   exact ⟨O0_0, O0_1, e0, e1, rfl, b_0, fB⟩
  refine cw_condF rfl c23 ?_
  refine cw_exit ?_
  repeat (first | with_reducible refine thn_e ?_ | with_reducible refine blk_e rfl ?_)
  obtain rfl := Option.some.inj h
  refine lp_exit ?_
  rintro rfl
  refine thn_x ?_
  exact ⟨O0_0, O0_1, e0, b_0, fB⟩
 rintro ρ35 w36 ⟨O0_0, O0_1, e0, b_0, fB⟩
 have h := h19
 refine cw_seq ?_
 refine cw_region ?_
 refine ol_val (v := .pointer (some ⟨G_0, 0, none⟩)) (by exact xr_move rfl e0) rfl rfl rfl ?_
 obtain ⟨t37, k38, h⟩ := bs h
 have c48 : ∀ k, (k = G_0 ∨ some k = Value.ownBlock V0_0 ∨ some k = Value.ownBlock V0_1) → (w.heap.size ≤ k ∨ (k = G_0 ∨ some k = Value.ownBlock V0_0 ∨ some k = Value.ownBlock V0_1)) := (cv_or (cv_eq (.inr (.inl rfl))) (cv_or (cv_own M0_0) (cv_own M0_1)))
 refine ol_op (by exact opv_call rfl cal84 (ac rfl an) (pmem_Device_step.ok fu _ (⟨e17, a0.plan, a0.off, a0.armed, a0.left, a0.steps⟩ : S_pmem_Device) G_0 V0_0 (Own.base O0_0 (Nat.zero_le _)) V0_1 (Own.base O0_1 (Nat.zero_le _)) b_0 _ k38)) rfl rfl rfl ?_
 rintro _ w49 ⟨u40, u44, o41, m42, o45, m46, rfl, b_0, q39⟩
 have m42 : ∀ g, Value.ownBlock u40 = some g → w.heap.size ≤ g ∨ (g = G_0 ∨ some g = Value.ownBlock V0_0 ∨ some g = Value.ownBlock V0_1) := fun g hg => (m42 g hg).elim (fun x => .inl (Nat.le_trans fB.size x)) (c48 g)
 have m46 : ∀ g, Value.ownBlock u44 = some g → w.heap.size ≤ g ∨ (g = G_0 ∨ some g = Value.ownBlock V0_0 ∨ some g = Value.ownBlock V0_1) := fun g hg => (m46 g hg).elim (fun x => .inl (Nat.le_trans fB.size x)) (c48 g)
 have fB := fB.call q39 c48
 refine ol_nil ?_
 refine cw_seq ?_
 refine cw_region ?_
 refine ol_val (v := .int .i64 0) (by exact xr_assign rfl rfl) rfl rfl rfl ?_
 refine ol_nil ?_
 refine cw_ret ?_
 repeat (first | with_reducible refine thn_r ?_ | with_reducible refine blk_r ?_)
 obtain rfl := Option.some.inj h
 refine fin_ret1 Try.results29 rfl ?_
 exact ⟨_, rfl, u40, u44, o41, m42, o45, m46, rfl, b_0, fB⟩
def press_store.s0 (fu : Nat) (a1 : Int) (a2 : Int) (a3 : List Int) : (Int × (List S_pmem_cell) × (List Int) × Int × Bool × Bool × Int × Int) → Option (Sum (Sum (Int × S_pmem_Device) ((List S_pmem_cell) × (List Int) × Int × Bool × Bool × Int × Int)) (Int × (List S_pmem_cell) × (List Int) × Int × Bool × Bool × Int × Int)) := fun s7 => (if (decide (s7.1 < (List.length a3 : Int))) = true then (if 0 ≤ s7.1 ∧ s7.1 < (List.length a3 : Int) then ((pmem_Device_Store.f fu (⟨s7.2.1, (⟨s7.2.2.1, s7.2.2.2.1⟩ : S_pmem_plan), s7.2.2.2.2.1, s7.2.2.2.2.2.1, s7.2.2.2.2.2.2.1, s7.2.2.2.2.2.2.2⟩ : S_pmem_Device) (IntKind.i64.wrap ((IntKind.i64.wrap ((IntKind.i64.wrap (a1 * 8)) + a2)) + s7.1)) (ix a3 s7.1) : Option (Int × S_pmem_Device)).bind fun t35 => (if (!decide (t35.1 = 0)) = true then some (Sum.inl (Sum.inl (t35.1, t35.2))) else some (Sum.inr ((IntKind.i64.wrap (s7.1 + 1)), t35.2.cells, t35.2.plan.list, t35.2.plan.at_, t35.2.off, t35.2.armed, t35.2.left, t35.2.steps)))) else none) else some (Sum.inl (Sum.inr (s7.2.1, s7.2.2.1, s7.2.2.2.1, s7.2.2.2.2.1, s7.2.2.2.2.2.1, s7.2.2.2.2.2.2.1, s7.2.2.2.2.2.2.2))))
def press_store.f (fu : Nat) (a0 : S_pmem_Device) (a1 : Int) (a2 : Int) (a3 : List Int) : Option (Int × S_pmem_Device) := ((loopM (press_store.s0 fu a1 a2 a3) fu (0, a0.cells, a0.plan.list, a0.plan.at_, a0.off, a0.armed, a0.left, a0.steps)).bind fun e8 => match e8 with | Sum.inl p => some p | Sum.inr x11 => ((pmem_Device_Flush.f fu (⟨x11.1, (⟨x11.2.1, x11.2.2.1⟩ : S_pmem_plan), x11.2.2.2.1, x11.2.2.2.2.1, x11.2.2.2.2.2.1, x11.2.2.2.2.2.2⟩ : S_pmem_Device) a1 : Option (Int × S_pmem_Device)).bind fun t54 => some (t54.1, t54.2)))
set_option maxRecDepth 100000 in
set_option maxHeartbeats 400000 in
theorem press_store.ok (fu : Nat) (w : World) (a0 : S_pmem_Device) (G_0 : Nat) (V0_0 : Value) (O0_0 : Own k_pmem_cell 142 w 0 V0_0 a0.cells) (V0_1 : Value) (O0_1 : Own (kI .i64) 3 w 0 V0_1 a0.plan.list) (b_0 : Blk w G_0 139 [Seg.cell V0_0 O0_0.one, Seg.cell V0_1 O0_1.one, Seg.cell (.int .i64 a0.plan.at_), Seg.cell (.bool a0.off), Seg.cell (.bool a0.armed), Seg.cell (.int .i64 a0.left), Seg.cell (.int .i64 a0.steps)]) (a1 : Int) (a2 : Int) (a3 : List Int) (V3_0 : Value) (R3_0 : Rd (kI .u64) w V3_0 a3) (NR3_0_P0 : OffR V3_0 a3 G_0) (NR3_0_R0_0 : OffRV V3_0 a3 V0_0) (NR3_0_R0_1 : OffRV V3_0 a3 V0_1) (r : Int × S_pmem_Device) (h : press_store.f fu a0 a1 a2 a3 = some r) :
  Calls Try.prog 103 (([.pointer (some ⟨G_0, 0, none⟩), .int .i64 a1, .int .i64 a2, V3_0] : List Value).toArray) w (fun e w' => ∃ v, e = .returned v ∧ ∃ u1 : Value, ∃ u4 : Value, ∃ o2 : Own k_pmem_cell 142 w' 0 u1 r.2.cells, ∃ m3 : ∀ g, Value.ownBlock u1 = some g → w.heap.size ≤ g ∨ (g = G_0 ∨ some g = Value.ownBlock V0_0 ∨ some g = Value.ownBlock V0_1), ∃ o5 : Own (kI .i64) 3 w' 0 u4 r.2.plan.list, ∃ m6 : ∀ g, Value.ownBlock u4 = some g → w.heap.size ≤ g ∨ (g = G_0 ∨ some g = Value.ownBlock V0_0 ∨ some g = Value.ownBlock V0_1), v = .int .i64 r.1 ∧ Blk w' G_0 139 [Seg.cell u1 o2.one, Seg.cell u4 o5.one, Seg.cell (.int .i64 r.2.plan.at_), Seg.cell (.bool r.2.off), Seg.cell (.bool r.2.armed), Seg.cell (.int .i64 r.2.left), Seg.cell (.int .i64 r.2.steps)] ∧ Fr (fun j => j = G_0 ∨ some j = Value.ownBlock V0_0 ∨ some j = Value.ownBlock V0_1) w w') := by
 unfold press_store.f at h
 have fB : Fr (fun j => j = G_0 ∨ some j = Value.ownBlock V0_0 ∨ some j = Value.ownBlock V0_1) w w := Fr.refl _ _
 have M0_0 : ∀ g, Value.ownBlock V0_0 = some g → w.heap.size ≤ g ∨ (g = G_0 ∨ some g = Value.ownBlock V0_0 ∨ some g = Value.ownBlock V0_1) := fun g hg => .inr (.inr (.inl hg.symm))
 have M0_1 : ∀ g, Value.ownBlock V0_1 = some g → w.heap.size ≤ g ∨ (g = G_0 ∨ some g = Value.ownBlock V0_0 ∨ some g = Value.ownBlock V0_1) := fun g hg => .inr (.inr (.inr hg.symm))
 refine calls_cw Try.func103 rfl Try.ntmps103 rfl ?_
 refine cw_seq ?_
 refine cw_region ?_
 refine ol_val (v := .int .i64 0) (by exact xr_assign rfl rfl) rfl rfl rfl ?_
 refine ol_nil ?_
 refine cw_seq ?_
 refine cw_seq ?_
 refine cw_region ?_
 refine ol_val (v := V3_0) (by exact xr_move rfl rfl) rfl rfl rfl ?_
 refine ol_val (v := .int .i64 (List.length a3 : Int)) (by exact xr_lenR rfl Try.underlying46 rfl R3_0) rfl rfl rfl ?_
 refine ol_val (v := .int .i64 0) (by exact xr_move rfl rfl) rfl rfl rfl ?_
 refine ol_nil ?_
 obtain ⟨e8, l9, h10⟩ := bs h
 refine cw_mid (fun ρ' w' => ∃ x11, e8 = Sum.inr x11 ∧ ∃ v12 : Value, ∃ v16 : Value, ∃ o13 : Own k_pmem_cell 142 w' 0 v12 x11.1, ∃ o17 : Own (kI .i64) 3 w' 0 v16 x11.2.1, ∃ m15 : ∀ g, Value.ownBlock v12 = some g → w.heap.size ≤ g ∨ (g = G_0 ∨ some g = Value.ownBlock V0_0 ∨ some g = Value.ownBlock V0_1), ∃ m19 : ∀ g, Value.ownBlock v16 = some g → w.heap.size ≤ g ∨ (g = G_0 ∨ some g = Value.ownBlock V0_0 ∨ some g = Value.ownBlock V0_1), ρ' 0 = .pointer (some ⟨G_0, 0, none⟩) ∧ ρ' 1 = .int .i64 a1 ∧ Blk w' G_0 139 [Seg.cell v12 o13.one, Seg.cell v16 o17.one, Seg.cell (.int .i64 x11.2.2.1), Seg.cell (.bool x11.2.2.2.1), Seg.cell (.bool x11.2.2.2.2.1), Seg.cell (.int .i64 x11.2.2.2.2.2.1), Seg.cell (.int .i64 x11.2.2.2.2.2.2)] ∧ Fr (fun j => j = G_0 ∨ some j = Value.ownBlock V0_0 ∨ some j = Value.ownBlock V0_1) w w') ?_ ?_
 ·refine cw_block ?_
  refine cw_round (fun (s7 : Int × (List S_pmem_cell) × (List Int) × Int × Bool × Bool × Int × Int) ρ' w' => ∃ v20 : Value, ∃ v24 : Value, ∃ o21 : Own k_pmem_cell 142 w' 0 v20 s7.2.1, ∃ o25 : Own (kI .i64) 3 w' 0 v24 s7.2.2.1, ∃ m23 : ∀ g, Value.ownBlock v20 = some g → w.heap.size ≤ g ∨ (g = G_0 ∨ some g = Value.ownBlock V0_0 ∨ some g = Value.ownBlock V0_1), ∃ m27 : ∀ g, Value.ownBlock v24 = some g → w.heap.size ≤ g ∨ (g = G_0 ∨ some g = Value.ownBlock V0_0 ∨ some g = Value.ownBlock V0_1), ∃ R3_0 : Rd (kI .u64) w' V3_0 a3, OffRV V3_0 a3 v20 ∧ OffRV V3_0 a3 v24 ∧ ρ' 0 = .pointer (some ⟨G_0, 0, none⟩) ∧ ρ' 1 = .int .i64 a1 ∧ ρ' 2 = .int .i64 a2 ∧ ρ' 12 = V3_0 ∧ ρ' 13 = .int .i64 (List.length a3 : Int) ∧ ρ' 14 = .int .i64 s7.1 ∧ Blk w' G_0 139 [Seg.cell v20 o21.one, Seg.cell v24 o25.one, Seg.cell (.int .i64 s7.2.2.2.1), Seg.cell (.bool s7.2.2.2.2.1), Seg.cell (.bool s7.2.2.2.2.2.1), Seg.cell (.int .i64 s7.2.2.2.2.2.2.1), Seg.cell (.int .i64 s7.2.2.2.2.2.2.2)] ∧ Fr (fun j => j = G_0 ∨ some j = Value.ownBlock V0_0 ∨ some j = Value.ownBlock V0_1) w w') l9 ?_ ?_
  ·skip
   exact ⟨V0_0, V0_1, O0_0, O0_1, M0_0, M0_1, R3_0, NR3_0_R0_0, NR3_0_R0_1, rfl, rfl, rfl, rfl, rfl, rfl, b_0, fB⟩
  rintro s7 x32 ρ30 w31 ⟨v20, v24, o21, o25, m23, m27, R3_0, a28, a29, e0, e1, e2, e12, e13, e14, b_0, fB⟩ h
  unfold press_store.s0 at h
  refine cw_seq ?_
  refine cw_region ?_
  refine ol_val (v := .bool (decide (s7.1 < (List.length a3 : Int)))) (by exact xr_lss rfl e14 e13) rfl rfl rfl ?_
  refine ol_nil ?_
  refine cw_seq ?_
  rcases is h with ⟨c33, h⟩ | ⟨c33, h⟩
  ·refine cw_condT rfl c33 ?_
   refine cw_skip ?_
   refine cw_seq ?_
   refine cw_block ?_
   refine cw_seq ?_
   refine cw_region ?_
   refine ol_val (v := .int .i64 s7.1) (by exact xr_move rfl e14) rfl rfl rfl ?_
   obtain ⟨g34, h⟩ := gs h
   refine ol_val (v := .pointer (some ⟨(sb V3_0), so V3_0 + Int.toNat s7.1 * 1, none⟩)) (by exact xr_indexR (K := (kI .u64)) (v := V3_0) rfl Try.underlying46 sz22 e12 R3_0 e14 g34.1 g34.2) rfl rfl rfl ?_
   refine ol_val (v := .int .u64 (ix a3 s7.1)) (by exact xr_load1 (v := .int .u64 (ix a3 s7.1)) rfl ag22 rfl (R3_0.elem g34.1 g34.2)) rfl rfl rfl ?_
   refine ol_val (v := .int .i64 s7.1) (by exact xr_assign rfl rfl) rfl rfl rfl ?_
   refine ol_val (v := .int .u64 (ix a3 s7.1)) (by exact xr_assign rfl rfl) rfl rfl rfl ?_
   refine ol_nil ?_
   refine cw_seq ?_
   refine cw_region ?_
   refine ol_val (v := .pointer (some ⟨G_0, 0, none⟩)) (by exact xr_move rfl e0) rfl rfl rfl ?_
   refine ol_val (v := .int .i64 a1) (by exact xr_move rfl e1) rfl rfl rfl ?_
   refine ol_val (v := .int .i64 (IntKind.i64.wrap (a1 * 8))) (by exact xr_mul rfl rfl rfl) rfl rfl rfl ?_
   refine ol_val (v := .int .i64 a2) (by exact xr_move rfl e2) rfl rfl rfl ?_
   refine ol_val (v := .int .i64 (IntKind.i64.wrap ((IntKind.i64.wrap (a1 * 8)) + a2))) (by exact xr_add rfl rfl rfl) rfl rfl rfl ?_
   refine ol_val (v := .int .i64 s7.1) (by exact xr_move rfl rfl) rfl rfl rfl ?_
   refine ol_val (v := .int .i64 (IntKind.i64.wrap ((IntKind.i64.wrap ((IntKind.i64.wrap (a1 * 8)) + a2)) + s7.1))) (by exact xr_add rfl rfl rfl) rfl rfl rfl ?_
   refine ol_val (v := .int .u64 (ix a3 s7.1)) (by exact xr_move rfl rfl) rfl rfl rfl ?_
   obtain ⟨t35, k36, h⟩ := bs h
   have f46 := (ro_or (ro_eq NR3_0_P0) (ro_or (ro_own a28) (ro_own a29)))
   have c47 : ∀ k, (k = G_0 ∨ some k = Value.ownBlock v20 ∨ some k = Value.ownBlock v24) → (w.heap.size ≤ k ∨ (k = G_0 ∨ some k = Value.ownBlock V0_0 ∨ some k = Value.ownBlock V0_1)) := (cv_or (cv_eq (.inr (.inl rfl))) (cv_or (cv_own m23) (cv_own m27)))
   refine ol_op (by exact opv_call rfl cal28 (ac rfl (ac rfl (ac rfl an))) (pmem_Device_Store.ok fu _ (⟨s7.2.1, (⟨s7.2.2.1, s7.2.2.2.1⟩ : S_pmem_plan), s7.2.2.2.2.1, s7.2.2.2.2.2.1, s7.2.2.2.2.2.2.1, s7.2.2.2.2.2.2.2⟩ : S_pmem_Device) G_0 v20 (Own.base o21 (Nat.zero_le _)) v24 (Own.base o25 (Nat.zero_le _)) b_0 (IntKind.i64.wrap ((IntKind.i64.wrap ((IntKind.i64.wrap (a1 * 8)) + a2)) + s7.1)) (ix a3 s7.1) _ k36)) rfl rfl rfl ?_
   rintro _ w48 ⟨u38, u42, o39, m40, o43, m44, rfl, b_0, q37⟩
   have a49 := orv_new R3_0 rfl f46 m40
   have a50 := orv_new R3_0 rfl f46 m44
   have m40 : ∀ g, Value.ownBlock u38 = some g → w.heap.size ≤ g ∨ (g = G_0 ∨ some g = Value.ownBlock V0_0 ∨ some g = Value.ownBlock V0_1) := fun g hg => (m40 g hg).elim (fun x => .inl (Nat.le_trans fB.size x)) (c47 g)
   have m44 : ∀ g, Value.ownBlock u42 = some g → w.heap.size ≤ g ∨ (g = G_0 ∨ some g = Value.ownBlock V0_0 ∨ some g = Value.ownBlock V0_1) := fun g hg => (m44 g hg).elim (fun x => .inl (Nat.le_trans fB.size x)) (c47 g)
   have R3_0 := R3_0.fr q37 f46
   have fB := fB.call q37 c47
   refine ol_val (v := .int .i64 t35.1) (by exact xr_assign rfl rfl) rfl rfl rfl ?_
   refine ol_nil ?_
   refine cw_seq ?_
   refine cw_region ?_
   refine ol_val (v := .int .i64 t35.1) (by exact xr_move rfl rfl) rfl rfl rfl ?_
   refine ol_val (v := .bool (!decide (t35.1 = 0))) (by exact xr_neI rfl Try.underlying31 rfl rfl rfl) rfl rfl rfl ?_
   refine ol_nil ?_
   rcases is h with ⟨c51, h⟩ | ⟨c51, h⟩
   ·refine cw_condT rfl c51 ?_
    refine cw_seq ?_
    refine cw_region ?_
    refine ol_val (v := .int .i64 t35.1) (by exact xr_move rfl rfl) rfl rfl rfl ?_
    refine ol_val (v := .int .i64 t35.1) (by exact xr_assign rfl rfl) rfl rfl rfl ?_
    refine ol_nil ?_
    refine cw_ret ?_
    repeat (first | with_reducible refine thn_r ?_ | with_reducible refine blk_r ?_)
    obtain rfl := Option.some.inj h
    refine lp_ret ?_
    rintro rfl
    repeat (first | with_reducible refine thn_r ?_ | with_reducible refine blk_r ?_)
    have h := h10
    obtain rfl := Option.some.inj h
    refine fin_ret1 Try.results103 rfl ?_
    exact ⟨_, rfl, u38, u42, o39, m40, o43, m44, rfl, b_0, fB⟩
   refine cw_condF rfl c51 ?_
   refine cw_skip ?_
   refine blk_i ?_
   refine cw_region ?_
   refine ol_val (v := .int .i64 (IntKind.i64.wrap (s7.1 + 1))) (by exact xr_add rfl e14 rfl) rfl rfl rfl ?_
   refine ol_val (v := .int .i64 (IntKind.i64.wrap (s7.1 + 1))) (by exact xr_move rfl rfl) rfl rfl rfl ?_
   refine ol_nil ?_
   obtain rfl := Option.some.inj h
   refine lp_in ?_
   exact ⟨u38, u42, o39, o43, m40, m44, R3_0, a49, a50, e0, e1, e2, e12, e13, rfl, b_0, fB⟩
  refine cw_condF rfl c33 ?_
  refine cw_exit ?_
  repeat (first | with_reducible refine thn_e ?_ | with_reducible refine blk_e rfl ?_)
  obtain rfl := Option.some.inj h
  refine lp_exit ?_
  rintro rfl
  refine thn_x ?_
  exact ⟨_, rfl, v20, v24, o21, o25, m23, m27, e0, e1, b_0, fB⟩
 rintro ρ52 w53 ⟨x11, rfl, v12, v16, o13, o17, m15, m19, e0, e1, b_0, fB⟩
 have h := h10
 refine cw_seq ?_
 refine cw_region ?_
 refine ol_val (v := .pointer (some ⟨G_0, 0, none⟩)) (by exact xr_move rfl e0) rfl rfl rfl ?_
 refine ol_val (v := .int .i64 a1) (by exact xr_move rfl e1) rfl rfl rfl ?_
 obtain ⟨t54, k55, h⟩ := bs h
 have c65 : ∀ k, (k = G_0 ∨ some k = Value.ownBlock v12 ∨ some k = Value.ownBlock v16) → (w.heap.size ≤ k ∨ (k = G_0 ∨ some k = Value.ownBlock V0_0 ∨ some k = Value.ownBlock V0_1)) := (cv_or (cv_eq (.inr (.inl rfl))) (cv_or (cv_own m15) (cv_own m19)))
 refine ol_op (by exact opv_call rfl cal29 (ac rfl (ac rfl an)) (pmem_Device_Flush.ok fu _ (⟨x11.1, (⟨x11.2.1, x11.2.2.1⟩ : S_pmem_plan), x11.2.2.2.1, x11.2.2.2.2.1, x11.2.2.2.2.2.1, x11.2.2.2.2.2.2⟩ : S_pmem_Device) G_0 v12 (Own.base o13 (Nat.zero_le _)) v16 (Own.base o17 (Nat.zero_le _)) b_0 a1 _ k55)) rfl rfl rfl ?_
 rintro _ w66 ⟨u57, u61, o58, m59, o62, m63, rfl, b_0, q56⟩
 have m59 : ∀ g, Value.ownBlock u57 = some g → w.heap.size ≤ g ∨ (g = G_0 ∨ some g = Value.ownBlock V0_0 ∨ some g = Value.ownBlock V0_1) := fun g hg => (m59 g hg).elim (fun x => .inl (Nat.le_trans fB.size x)) (c65 g)
 have m63 : ∀ g, Value.ownBlock u61 = some g → w.heap.size ≤ g ∨ (g = G_0 ∨ some g = Value.ownBlock V0_0 ∨ some g = Value.ownBlock V0_1) := fun g hg => (m63 g hg).elim (fun x => .inl (Nat.le_trans fB.size x)) (c65 g)
 have fB := fB.call q56 c65
 refine ol_val (v := .int .i64 t54.1) (by exact xr_assign rfl rfl) rfl rfl rfl ?_
 refine ol_nil ?_
 refine cw_ret ?_
 repeat (first | with_reducible refine thn_r ?_ | with_reducible refine blk_r ?_)
 obtain rfl := Option.some.inj h
 refine fin_ret1 Try.results103 rfl ?_
 exact ⟨_, rfl, u57, u61, o58, m59, o62, m63, rfl, b_0, fB⟩
def press_Word.f (fu : Nat) (a0 : S_pmem_Device) (a1 : Int) (a2 : Int) (a3 : Int) : Option (Int × S_pmem_Device) := ((press_may.f fu a0 a1 : Option Int).bind fun t7 => (if (!decide (t7 = 0)) = true then some (t7, a0) else (if (if (decide (a2 < 0)) = true then true else (decide (a2 ≥ 8))) = true then some (2, a0) else ((press_store.f fu a0 a1 a2 [a3] : Option (Int × S_pmem_Device)).bind fun t21 => some (t21.1, t21.2)))))
set_option maxRecDepth 100000 in
set_option maxHeartbeats 400000 in
theorem press_Word.ok (fu : Nat) (w : World) (a0 : S_pmem_Device) (G_0 : Nat) (V0_0 : Value) (O0_0 : Own k_pmem_cell 142 w 0 V0_0 a0.cells) (V0_1 : Value) (O0_1 : Own (kI .i64) 3 w 0 V0_1 a0.plan.list) (b_0 : Blk w G_0 139 [Seg.cell V0_0 O0_0.one, Seg.cell V0_1 O0_1.one, Seg.cell (.int .i64 a0.plan.at_), Seg.cell (.bool a0.off), Seg.cell (.bool a0.armed), Seg.cell (.int .i64 a0.left), Seg.cell (.int .i64 a0.steps)]) (a1 : Int) (a2 : Int) (a3 : Int) (r : Int × S_pmem_Device) (h : press_Word.f fu a0 a1 a2 a3 = some r) :
  Calls Try.prog 57 (([.pointer (some ⟨G_0, 0, none⟩), .int .i64 a1, .int .i64 a2, .int .u64 a3] : List Value).toArray) w (fun e w' => ∃ v, e = .returned v ∧ ∃ u1 : Value, ∃ u4 : Value, ∃ o2 : Own k_pmem_cell 142 w' 0 u1 r.2.cells, ∃ m3 : ∀ g, Value.ownBlock u1 = some g → w.heap.size ≤ g ∨ (g = G_0 ∨ some g = Value.ownBlock V0_0 ∨ some g = Value.ownBlock V0_1), ∃ o5 : Own (kI .i64) 3 w' 0 u4 r.2.plan.list, ∃ m6 : ∀ g, Value.ownBlock u4 = some g → w.heap.size ≤ g ∨ (g = G_0 ∨ some g = Value.ownBlock V0_0 ∨ some g = Value.ownBlock V0_1), v = .int .i64 r.1 ∧ Blk w' G_0 139 [Seg.cell u1 o2.one, Seg.cell u4 o5.one, Seg.cell (.int .i64 r.2.plan.at_), Seg.cell (.bool r.2.off), Seg.cell (.bool r.2.armed), Seg.cell (.int .i64 r.2.left), Seg.cell (.int .i64 r.2.steps)] ∧ Fr (fun j => j = G_0 ∨ some j = Value.ownBlock V0_0 ∨ some j = Value.ownBlock V0_1) w w') := by
 unfold press_Word.f at h
 have fB : Fr (fun j => j = G_0 ∨ some j = Value.ownBlock V0_0 ∨ some j = Value.ownBlock V0_1) w w := Fr.refl _ _
 have M0_0 : ∀ g, Value.ownBlock V0_0 = some g → w.heap.size ≤ g ∨ (g = G_0 ∨ some g = Value.ownBlock V0_0 ∨ some g = Value.ownBlock V0_1) := fun g hg => .inr (.inr (.inl hg.symm))
 have M0_1 : ∀ g, Value.ownBlock V0_1 = some g → w.heap.size ≤ g ∨ (g = G_0 ∨ some g = Value.ownBlock V0_0 ∨ some g = Value.ownBlock V0_1) := fun g hg => .inr (.inr (.inr hg.symm))
 refine calls_cw Try.func57 rfl Try.ntmps57 rfl ?_
 refine cw_seq ?_
 refine cw_region ?_
 refine ol_val (v := .int .i64 0) (by exact xr_assign rfl rfl) rfl rfl rfl ?_
 refine ol_nil ?_
 refine cw_seq ?_
 refine cw_seq ?_
 refine cw_region ?_
 refine ol_val (v := .pointer (some ⟨G_0, 0, none⟩)) (by exact xr_move rfl rfl) rfl rfl rfl ?_
 refine ol_val (v := .int .i64 a1) (by exact xr_move rfl rfl) rfl rfl rfl ?_
 obtain ⟨t7, k8, h⟩ := bs h
 refine ol_op (by exact opv_call rfl cal102 (ac rfl (ac rfl an)) (press_may.ok fu _ a0 G_0 V0_0 (O0_0.rd) V0_1 (O0_1.rd) b_0 a1 _ k8)) rfl rfl rfl ?_
 rintro _ w10 ⟨rfl, q9⟩
 have b_0 := b_0.gr q9
 have O0_0 := O0_0.gr q9
 have O0_1 := O0_1.gr q9
 have fB := fB.gr q9
 refine ol_val (v := .int .i64 t7) (by exact xr_assign rfl rfl) rfl rfl rfl ?_
 refine ol_nil ?_
 refine cw_seq ?_
 refine cw_region ?_
 refine ol_val (v := .int .i64 t7) (by exact xr_move rfl rfl) rfl rfl rfl ?_
 refine ol_val (v := .bool (!decide (t7 = 0))) (by exact xr_neI rfl Try.underlying31 rfl rfl rfl) rfl rfl rfl ?_
 refine ol_nil ?_
 rcases is h with ⟨c11, h⟩ | ⟨c11, h⟩
 ·refine cw_condT rfl c11 ?_
  refine cw_seq ?_
  refine cw_region ?_
  refine ol_val (v := .int .i64 t7) (by exact xr_move rfl rfl) rfl rfl rfl ?_
  refine ol_val (v := .int .i64 t7) (by exact xr_assign rfl rfl) rfl rfl rfl ?_
  refine ol_nil ?_
  refine cw_ret ?_
  repeat (first | with_reducible refine thn_r ?_ | with_reducible refine blk_r ?_)
  obtain rfl := Option.some.inj h
  refine fin_ret1 Try.results57 rfl ?_
  exact ⟨_, rfl, V0_0, V0_1, O0_0, M0_0, O0_1, M0_1, rfl, b_0, fB⟩
 refine cw_condF rfl c11 ?_
 refine cw_skip ?_
 refine cw_seq ?_
 refine cw_seq ?_
 refine cw_mid (fun ρ' w' => ρ' 0 = .pointer (some ⟨G_0, 0, none⟩) ∧ ρ' 1 = .int .i64 a1 ∧ ρ' 2 = .int .i64 a2 ∧ ρ' 3 = .int .u64 a3 ∧ ρ' 21 = .bool (if (decide (a2 < 0)) = true then true else (decide (a2 ≥ 8))) ∧ w10 = w') ?_ ?_
 ·skip
  refine cw_region ?_
  refine ol_val (v := .int .i64 a2) (by exact xr_move rfl rfl) rfl rfl rfl ?_
  refine ol_val (v := .bool (decide (a2 < 0))) (by exact xr_lss rfl rfl rfl) rfl rfl rfl ?_
  refine ol_val (v := .bool (decide (a2 < 0))) (by exact xr_move rfl rfl) rfl rfl rfl ?_
  rcases bt (decide (a2 < 0)) with c12 | c12
  ·skip
   refine ol_gskip rfl rfl rfl rfl rfl c12 ?_
   refine ol_gskip rfl rfl rfl rfl rfl c12 ?_
   refine ol_val (v := .bool true) (by exact xr_pickT rfl rfl c12 rfl) rfl rfl rfl ?_
   refine ol_nil ?_
   refine thn_i ?_
   exact ⟨rfl, rfl, rfl, rfl, (rfl).trans (congrArg (fun z => (.bool z : Value)) (show true = (if (decide (a2 < 0)) = true then true else (decide (a2 ≥ 8))) from by rw [ite_t c12])), rfl⟩
  refine ol_gval (v := .int .i64 a2) (by exact xr_move rfl rfl) rfl rfl rfl rfl rfl c12 ?_
  refine ol_gval (v := .bool (decide (a2 ≥ 8))) (by exact xr_geq rfl rfl rfl) rfl rfl rfl rfl rfl c12 ?_
  refine ol_val (v := .bool (decide (a2 ≥ 8))) (by exact xr_pickF rfl rfl c12 rfl) rfl rfl rfl ?_
  refine ol_nil ?_
  refine thn_i ?_
  exact ⟨rfl, rfl, rfl, rfl, (rfl).trans (congrArg (fun z => (.bool z : Value)) (show (decide (a2 ≥ 8)) = (if (decide (a2 < 0)) = true then true else (decide (a2 ≥ 8))) from by rw [ite_f c12])), rfl⟩
 rintro ρ13 _ ⟨e0, e1, e2, e3, e21, rfl⟩
 rcases is h with ⟨c14, h⟩ | ⟨c14, h⟩
 ·refine cw_condT e21 c14 ?_
  refine cw_seq ?_
  refine cw_region ?_
  refine ol_val (v := .int .i64 2) (by exact xr_assign rfl rfl) rfl rfl rfl ?_
  refine ol_nil ?_
  refine cw_ret ?_
  repeat (first | with_reducible refine thn_r ?_ | with_reducible refine blk_r ?_)
  obtain rfl := Option.some.inj h
  refine fin_ret1 Try.results57 rfl ?_
  exact ⟨_, rfl, V0_0, V0_1, O0_0, M0_0, O0_1, M0_1, rfl, b_0, fB⟩
 refine cw_condF e21 c14 ?_
 refine cw_skip ?_
 refine cw_seq ?_
 refine cw_region ?_
 refine ol_val (v := .pointer (some ⟨G_0, 0, none⟩)) (by exact xr_move rfl e0) rfl rfl rfl ?_
 refine ol_val (v := .int .i64 a1) (by exact xr_move rfl e1) rfl rfl rfl ?_
 refine ol_val (v := .int .i64 a2) (by exact xr_move rfl e2) rfl rfl rfl ?_
 refine ol_val (v := .int .u64 a3) (by exact xr_move rfl e3) rfl rfl rfl ?_
 refine ol_op (by exact opv_buildSlice (K := (kI .u64)) (xs := [a3]) (vals := [.int .u64 a3]) rfl Try.underlying46 el22 rfl rfl ⟨rfl, rfl, trivial⟩ rfl rfl rfl fB.size) rfl rfl rfl ?_
 rintro v15 w20 ⟨o17, q16, z18⟩
 have b_0 := b_0.gr q16
 have O0_0 := O0_0.gr q16
 have O0_1 := O0_1.gr q16
 have fB := fB.gr q16
 obtain ⟨t21, k22, h⟩ := bs h
 have c32 : ∀ k, (k = G_0 ∨ some k = Value.ownBlock V0_0 ∨ some k = Value.ownBlock V0_1) → (w.heap.size ≤ k ∨ (k = G_0 ∨ some k = Value.ownBlock V0_0 ∨ some k = Value.ownBlock V0_1)) := (cv_or (cv_eq (.inr (.inl rfl))) (cv_or (cv_own M0_0) (cv_own M0_1)))
 refine ol_op (by exact opv_call rfl cal103 (ac rfl (ac rfl (ac rfl (ac rfl an)))) (press_store.ok fu _ a0 G_0 V0_0 (Own.base O0_0 (Nat.zero_le _)) V0_1 (Own.base O0_1 (Nat.zero_le _)) b_0 a1 a2 [a3] v15 (o17.rd) (OffR.own o17 (off_ty b_0 o17 (by decide))) (OffRV.own o17 (OffV.ty o17 O0_0 (by decide))) (OffRV.own o17 (OffV.ty o17 O0_1 (by decide))) _ k22)) rfl rfl rfl ?_
 rintro _ w33 ⟨u24, u28, o25, m26, o29, m30, rfl, b_0, q23⟩
 have m26 : ∀ g, Value.ownBlock u24 = some g → w.heap.size ≤ g ∨ (g = G_0 ∨ some g = Value.ownBlock V0_0 ∨ some g = Value.ownBlock V0_1) := fun g hg => (m26 g hg).elim (fun x => .inl (Nat.le_trans fB.size x)) (c32 g)
 have m30 : ∀ g, Value.ownBlock u28 = some g → w.heap.size ≤ g ∨ (g = G_0 ∨ some g = Value.ownBlock V0_0 ∨ some g = Value.ownBlock V0_1) := fun g hg => (m30 g hg).elim (fun x => .inl (Nat.le_trans fB.size x)) (c32 g)
 have fB := fB.call q23 c32
 refine ol_val (v := .int .i64 t21.1) (by exact xr_assign rfl rfl) rfl rfl rfl ?_
 refine ol_nil ?_
 refine cw_ret ?_
 repeat (first | with_reducible refine thn_r ?_ | with_reducible refine blk_r ?_)
 obtain rfl := Option.some.inj h
 refine fin_ret1 Try.results57 rfl ?_
 exact ⟨_, rfl, u24, u28, o25, m26, o29, m30, rfl, b_0, fB⟩
def root_head.f (fu : Nat) (a0 : S_pmem_Device) (a1 : Int) (a2 : Int) : Option (Int × S_pmem_Device) := ((press_Word.f fu a0 a1 0 a2 : Option (Int × S_pmem_Device)).bind fun t7 => (if (!decide (t7.1 = 0)) = true then some (t7.1, t7.2) else ((press_Sure.f fu t7.2 : Option (Int × S_pmem_Device)).bind fun t21 => some (t21.1, t21.2))))
set_option maxRecDepth 100000 in
set_option maxHeartbeats 400000 in
theorem root_head.ok (fu : Nat) (w : World) (a0 : S_pmem_Device) (G_0 : Nat) (V0_0 : Value) (O0_0 : Own k_pmem_cell 142 w 0 V0_0 a0.cells) (V0_1 : Value) (O0_1 : Own (kI .i64) 3 w 0 V0_1 a0.plan.list) (b_0 : Blk w G_0 139 [Seg.cell V0_0 O0_0.one, Seg.cell V0_1 O0_1.one, Seg.cell (.int .i64 a0.plan.at_), Seg.cell (.bool a0.off), Seg.cell (.bool a0.armed), Seg.cell (.int .i64 a0.left), Seg.cell (.int .i64 a0.steps)]) (a1 : Int) (a2 : Int) (r : Int × S_pmem_Device) (h : root_head.f fu a0 a1 a2 = some r) :
  Calls Try.prog 121 (([.pointer (some ⟨G_0, 0, none⟩), .int .i64 a1, .int .u64 a2] : List Value).toArray) w (fun e w' => ∃ v, e = .returned v ∧ ∃ u1 : Value, ∃ u4 : Value, ∃ o2 : Own k_pmem_cell 142 w' 0 u1 r.2.cells, ∃ m3 : ∀ g, Value.ownBlock u1 = some g → w.heap.size ≤ g ∨ (g = G_0 ∨ some g = Value.ownBlock V0_0 ∨ some g = Value.ownBlock V0_1), ∃ o5 : Own (kI .i64) 3 w' 0 u4 r.2.plan.list, ∃ m6 : ∀ g, Value.ownBlock u4 = some g → w.heap.size ≤ g ∨ (g = G_0 ∨ some g = Value.ownBlock V0_0 ∨ some g = Value.ownBlock V0_1), v = .int .i64 r.1 ∧ Blk w' G_0 139 [Seg.cell u1 o2.one, Seg.cell u4 o5.one, Seg.cell (.int .i64 r.2.plan.at_), Seg.cell (.bool r.2.off), Seg.cell (.bool r.2.armed), Seg.cell (.int .i64 r.2.left), Seg.cell (.int .i64 r.2.steps)] ∧ Fr (fun j => j = G_0 ∨ some j = Value.ownBlock V0_0 ∨ some j = Value.ownBlock V0_1) w w') := by
 unfold root_head.f at h
 have fB : Fr (fun j => j = G_0 ∨ some j = Value.ownBlock V0_0 ∨ some j = Value.ownBlock V0_1) w w := Fr.refl _ _
 have M0_0 : ∀ g, Value.ownBlock V0_0 = some g → w.heap.size ≤ g ∨ (g = G_0 ∨ some g = Value.ownBlock V0_0 ∨ some g = Value.ownBlock V0_1) := fun g hg => .inr (.inr (.inl hg.symm))
 have M0_1 : ∀ g, Value.ownBlock V0_1 = some g → w.heap.size ≤ g ∨ (g = G_0 ∨ some g = Value.ownBlock V0_0 ∨ some g = Value.ownBlock V0_1) := fun g hg => .inr (.inr (.inr hg.symm))
 refine calls_cw Try.func121 rfl Try.ntmps121 rfl ?_
 refine cw_seq ?_
 refine cw_region ?_
 refine ol_val (v := .int .i64 0) (by exact xr_assign rfl rfl) rfl rfl rfl ?_
 refine ol_nil ?_
 refine cw_seq ?_
 refine cw_seq ?_
 refine cw_region ?_
 refine ol_val (v := .pointer (some ⟨G_0, 0, none⟩)) (by exact xr_move rfl rfl) rfl rfl rfl ?_
 refine ol_val (v := .int .i64 a1) (by exact xr_move rfl rfl) rfl rfl rfl ?_
 refine ol_val (v := .int .u64 a2) (by exact xr_move rfl rfl) rfl rfl rfl ?_
 obtain ⟨t7, k8, h⟩ := bs h
 have c18 : ∀ k, (k = G_0 ∨ some k = Value.ownBlock V0_0 ∨ some k = Value.ownBlock V0_1) → (w.heap.size ≤ k ∨ (k = G_0 ∨ some k = Value.ownBlock V0_0 ∨ some k = Value.ownBlock V0_1)) := (cv_or (cv_eq (.inr (.inl rfl))) (cv_or (cv_own M0_0) (cv_own M0_1)))
 refine ol_op (by exact opv_call rfl cal57 (ac rfl (ac rfl (ac rfl (ac rfl an)))) (press_Word.ok fu _ a0 G_0 V0_0 (Own.base O0_0 (Nat.zero_le _)) V0_1 (Own.base O0_1 (Nat.zero_le _)) b_0 a1 0 a2 _ k8)) rfl rfl rfl ?_
 rintro _ w19 ⟨u10, u14, o11, m12, o15, m16, rfl, b_0, q9⟩
 have m12 : ∀ g, Value.ownBlock u10 = some g → w.heap.size ≤ g ∨ (g = G_0 ∨ some g = Value.ownBlock V0_0 ∨ some g = Value.ownBlock V0_1) := fun g hg => (m12 g hg).elim (fun x => .inl (Nat.le_trans fB.size x)) (c18 g)
 have m16 : ∀ g, Value.ownBlock u14 = some g → w.heap.size ≤ g ∨ (g = G_0 ∨ some g = Value.ownBlock V0_0 ∨ some g = Value.ownBlock V0_1) := fun g hg => (m16 g hg).elim (fun x => .inl (Nat.le_trans fB.size x)) (c18 g)
 have fB := fB.call q9 c18
 refine ol_val (v := .int .i64 t7.1) (by exact xr_assign rfl rfl) rfl rfl rfl ?_
 refine ol_nil ?_
 refine cw_seq ?_
 refine cw_region ?_
 refine ol_val (v := .int .i64 t7.1) (by exact xr_move rfl rfl) rfl rfl rfl ?_
 refine ol_val (v := .bool (!decide (t7.1 = 0))) (by exact xr_neI rfl Try.underlying31 rfl rfl rfl) rfl rfl rfl ?_
 refine ol_nil ?_
 rcases is h with ⟨c20, h⟩ | ⟨c20, h⟩
 ·refine cw_condT rfl c20 ?_
  refine cw_seq ?_
  refine cw_region ?_
  refine ol_val (v := .int .i64 t7.1) (by exact xr_move rfl rfl) rfl rfl rfl ?_
  refine ol_val (v := .int .i64 t7.1) (by exact xr_assign rfl rfl) rfl rfl rfl ?_
  refine ol_nil ?_
  refine cw_ret ?_
  repeat (first | with_reducible refine thn_r ?_ | with_reducible refine blk_r ?_)
  obtain rfl := Option.some.inj h
  refine fin_ret1 Try.results121 rfl ?_
  exact ⟨_, rfl, u10, u14, o11, m12, o15, m16, rfl, b_0, fB⟩
 refine cw_condF rfl c20 ?_
 refine cw_skip ?_
 refine cw_seq ?_
 refine cw_region ?_
 refine ol_val (v := .pointer (some ⟨G_0, 0, none⟩)) (by exact xr_move rfl rfl) rfl rfl rfl ?_
 obtain ⟨t21, k22, h⟩ := bs h
 have c32 : ∀ k, (k = G_0 ∨ some k = Value.ownBlock u10 ∨ some k = Value.ownBlock u14) → (w.heap.size ≤ k ∨ (k = G_0 ∨ some k = Value.ownBlock V0_0 ∨ some k = Value.ownBlock V0_1)) := (cv_or (cv_eq (.inr (.inl rfl))) (cv_or (cv_own m12) (cv_own m16)))
 refine ol_op (by exact opv_call rfl cal54 (ac rfl an) (press_Sure.ok fu _ t7.2 G_0 u10 (Own.base o11 (Nat.zero_le _)) u14 (Own.base o15 (Nat.zero_le _)) b_0 _ k22)) rfl rfl rfl ?_
 rintro _ w33 ⟨u24, u28, o25, m26, o29, m30, rfl, b_0, q23⟩
 have m26 : ∀ g, Value.ownBlock u24 = some g → w.heap.size ≤ g ∨ (g = G_0 ∨ some g = Value.ownBlock V0_0 ∨ some g = Value.ownBlock V0_1) := fun g hg => (m26 g hg).elim (fun x => .inl (Nat.le_trans fB.size x)) (c32 g)
 have m30 : ∀ g, Value.ownBlock u28 = some g → w.heap.size ≤ g ∨ (g = G_0 ∨ some g = Value.ownBlock V0_0 ∨ some g = Value.ownBlock V0_1) := fun g hg => (m30 g hg).elim (fun x => .inl (Nat.le_trans fB.size x)) (c32 g)
 have fB := fB.call q23 c32
 refine ol_val (v := .int .i64 t21.1) (by exact xr_assign rfl rfl) rfl rfl rfl ?_
 refine ol_nil ?_
 refine cw_ret ?_
 repeat (first | with_reducible refine thn_r ?_ | with_reducible refine blk_r ?_)
 obtain rfl := Option.some.inj h
 refine fin_ret1 Try.results121 rfl ?_
 exact ⟨_, rfl, u24, u28, o25, m26, o29, m30, rfl, b_0, fB⟩
def root_tail.s0 (fu : Nat) (a1 : Int) (a2 : List Int) : (Int × (List S_pmem_cell) × (List Int) × Int × Bool × Bool × Int × Int) → Option (Sum (Sum (Int × S_pmem_Device) ((List S_pmem_cell) × (List Int) × Int × Bool × Bool × Int × Int)) (Int × (List S_pmem_cell) × (List Int) × Int × Bool × Bool × Int × Int)) := fun s7 => (if (decide (s7.1 < (List.length a2 : Int))) = true then (if 0 ≤ s7.1 ∧ s7.1 < (List.length a2 : Int) then ((pmem_Device_Store.f fu (⟨s7.2.1, (⟨s7.2.2.1, s7.2.2.2.1⟩ : S_pmem_plan), s7.2.2.2.2.1, s7.2.2.2.2.2.1, s7.2.2.2.2.2.2.1, s7.2.2.2.2.2.2.2⟩ : S_pmem_Device) (IntKind.i64.wrap ((IntKind.i64.wrap (a1 * 8)) + s7.1)) (ix a2 s7.1) : Option (Int × S_pmem_Device)).bind fun t35 => (if (!decide (t35.1 = 0)) = true then some (Sum.inl (Sum.inl (t35.1, t35.2))) else some (Sum.inr ((IntKind.i64.wrap (s7.1 + 1)), t35.2.cells, t35.2.plan.list, t35.2.plan.at_, t35.2.off, t35.2.armed, t35.2.left, t35.2.steps)))) else none) else some (Sum.inl (Sum.inr (s7.2.1, s7.2.2.1, s7.2.2.2.1, s7.2.2.2.2.1, s7.2.2.2.2.2.1, s7.2.2.2.2.2.2.1, s7.2.2.2.2.2.2.2))))
def root_tail.f (fu : Nat) (a0 : S_pmem_Device) (a1 : Int) (a2 : List Int) : Option (Int × S_pmem_Device) := ((loopM (root_tail.s0 fu a1 a2) fu (1, a0.cells, a0.plan.list, a0.plan.at_, a0.off, a0.armed, a0.left, a0.steps)).bind fun e8 => match e8 with | Sum.inl p => some p | Sum.inr x11 => ((pmem_Device_Flush.f fu (⟨x11.1, (⟨x11.2.1, x11.2.2.1⟩ : S_pmem_plan), x11.2.2.2.1, x11.2.2.2.2.1, x11.2.2.2.2.2.1, x11.2.2.2.2.2.2⟩ : S_pmem_Device) a1 : Option (Int × S_pmem_Device)).bind fun t54 => (if (!decide (t54.1 = 0)) = true then some (t54.1, t54.2) else ((press_Sure.f fu t54.2 : Option (Int × S_pmem_Device)).bind fun t68 => some (t68.1, t68.2)))))
set_option maxRecDepth 100000 in
set_option maxHeartbeats 400000 in
theorem root_tail.ok (fu : Nat) (w : World) (a0 : S_pmem_Device) (G_0 : Nat) (V0_0 : Value) (O0_0 : Own k_pmem_cell 142 w 0 V0_0 a0.cells) (V0_1 : Value) (O0_1 : Own (kI .i64) 3 w 0 V0_1 a0.plan.list) (b_0 : Blk w G_0 139 [Seg.cell V0_0 O0_0.one, Seg.cell V0_1 O0_1.one, Seg.cell (.int .i64 a0.plan.at_), Seg.cell (.bool a0.off), Seg.cell (.bool a0.armed), Seg.cell (.int .i64 a0.left), Seg.cell (.int .i64 a0.steps)]) (a1 : Int) (a2 : List Int) (V2_0 : Value) (R2_0 : Rd (kI .u64) w V2_0 a2) (NR2_0_P0 : OffR V2_0 a2 G_0) (NR2_0_R0_0 : OffRV V2_0 a2 V0_0) (NR2_0_R0_1 : OffRV V2_0 a2 V0_1) (r : Int × S_pmem_Device) (h : root_tail.f fu a0 a1 a2 = some r) :
  Calls Try.prog 122 (([.pointer (some ⟨G_0, 0, none⟩), .int .i64 a1, V2_0] : List Value).toArray) w (fun e w' => ∃ v, e = .returned v ∧ ∃ u1 : Value, ∃ u4 : Value, ∃ o2 : Own k_pmem_cell 142 w' 0 u1 r.2.cells, ∃ m3 : ∀ g, Value.ownBlock u1 = some g → w.heap.size ≤ g ∨ (g = G_0 ∨ some g = Value.ownBlock V0_0 ∨ some g = Value.ownBlock V0_1), ∃ o5 : Own (kI .i64) 3 w' 0 u4 r.2.plan.list, ∃ m6 : ∀ g, Value.ownBlock u4 = some g → w.heap.size ≤ g ∨ (g = G_0 ∨ some g = Value.ownBlock V0_0 ∨ some g = Value.ownBlock V0_1), v = .int .i64 r.1 ∧ Blk w' G_0 139 [Seg.cell u1 o2.one, Seg.cell u4 o5.one, Seg.cell (.int .i64 r.2.plan.at_), Seg.cell (.bool r.2.off), Seg.cell (.bool r.2.armed), Seg.cell (.int .i64 r.2.left), Seg.cell (.int .i64 r.2.steps)] ∧ Fr (fun j => j = G_0 ∨ some j = Value.ownBlock V0_0 ∨ some j = Value.ownBlock V0_1) w w') := by
 unfold root_tail.f at h
 have fB : Fr (fun j => j = G_0 ∨ some j = Value.ownBlock V0_0 ∨ some j = Value.ownBlock V0_1) w w := Fr.refl _ _
 have M0_0 : ∀ g, Value.ownBlock V0_0 = some g → w.heap.size ≤ g ∨ (g = G_0 ∨ some g = Value.ownBlock V0_0 ∨ some g = Value.ownBlock V0_1) := fun g hg => .inr (.inr (.inl hg.symm))
 have M0_1 : ∀ g, Value.ownBlock V0_1 = some g → w.heap.size ≤ g ∨ (g = G_0 ∨ some g = Value.ownBlock V0_0 ∨ some g = Value.ownBlock V0_1) := fun g hg => .inr (.inr (.inr hg.symm))
 refine calls_cw Try.func122 rfl Try.ntmps122 rfl ?_
 refine cw_seq ?_
 refine cw_region ?_
 refine ol_val (v := .int .i64 0) (by exact xr_assign rfl rfl) rfl rfl rfl ?_
 refine ol_nil ?_
 refine cw_seq ?_
 refine cw_seq ?_
 refine cw_region ?_
 refine ol_val (v := .int .i64 1) (by exact xr_assign rfl rfl) rfl rfl rfl ?_
 refine ol_nil ?_
 obtain ⟨e8, l9, h10⟩ := bs h
 refine cw_mid (fun ρ' w' => ∃ x11, e8 = Sum.inr x11 ∧ ∃ v12 : Value, ∃ v16 : Value, ∃ o13 : Own k_pmem_cell 142 w' 0 v12 x11.1, ∃ o17 : Own (kI .i64) 3 w' 0 v16 x11.2.1, ∃ m15 : ∀ g, Value.ownBlock v12 = some g → w.heap.size ≤ g ∨ (g = G_0 ∨ some g = Value.ownBlock V0_0 ∨ some g = Value.ownBlock V0_1), ∃ m19 : ∀ g, Value.ownBlock v16 = some g → w.heap.size ≤ g ∨ (g = G_0 ∨ some g = Value.ownBlock V0_0 ∨ some g = Value.ownBlock V0_1), ρ' 0 = .pointer (some ⟨G_0, 0, none⟩) ∧ ρ' 1 = .int .i64 a1 ∧ Blk w' G_0 139 [Seg.cell v12 o13.one, Seg.cell v16 o17.one, Seg.cell (.int .i64 x11.2.2.1), Seg.cell (.bool x11.2.2.2.1), Seg.cell (.bool x11.2.2.2.2.1), Seg.cell (.int .i64 x11.2.2.2.2.2.1), Seg.cell (.int .i64 x11.2.2.2.2.2.2)] ∧ Fr (fun j => j = G_0 ∨ some j = Value.ownBlock V0_0 ∨ some j = Value.ownBlock V0_1) w w') ?_ ?_
 ·refine cw_block ?_
  refine cw_round (fun (s7 : Int × (List S_pmem_cell) × (List Int) × Int × Bool × Bool × Int × Int) ρ' w' => ∃ v20 : Value, ∃ v24 : Value, ∃ o21 : Own k_pmem_cell 142 w' 0 v20 s7.2.1, ∃ o25 : Own (kI .i64) 3 w' 0 v24 s7.2.2.1, ∃ m23 : ∀ g, Value.ownBlock v20 = some g → w.heap.size ≤ g ∨ (g = G_0 ∨ some g = Value.ownBlock V0_0 ∨ some g = Value.ownBlock V0_1), ∃ m27 : ∀ g, Value.ownBlock v24 = some g → w.heap.size ≤ g ∨ (g = G_0 ∨ some g = Value.ownBlock V0_0 ∨ some g = Value.ownBlock V0_1), ∃ R2_0 : Rd (kI .u64) w' V2_0 a2, OffRV V2_0 a2 v20 ∧ OffRV V2_0 a2 v24 ∧ ρ' 0 = .pointer (some ⟨G_0, 0, none⟩) ∧ ρ' 1 = .int .i64 a1 ∧ ρ' 2 = V2_0 ∧ ρ' 7 = .int .i64 s7.1 ∧ Blk w' G_0 139 [Seg.cell v20 o21.one, Seg.cell v24 o25.one, Seg.cell (.int .i64 s7.2.2.2.1), Seg.cell (.bool s7.2.2.2.2.1), Seg.cell (.bool s7.2.2.2.2.2.1), Seg.cell (.int .i64 s7.2.2.2.2.2.2.1), Seg.cell (.int .i64 s7.2.2.2.2.2.2.2)] ∧ Fr (fun j => j = G_0 ∨ some j = Value.ownBlock V0_0 ∨ some j = Value.ownBlock V0_1) w w') l9 ?_ ?_
  ·skip
   exact ⟨V0_0, V0_1, O0_0, O0_1, M0_0, M0_1, R2_0, NR2_0_R0_0, NR2_0_R0_1, rfl, rfl, rfl, rfl, b_0, fB⟩
  rintro s7 x32 ρ30 w31 ⟨v20, v24, o21, o25, m23, m27, R2_0, a28, a29, e0, e1, e2, e7, b_0, fB⟩ h
  unfold root_tail.s0 at h
  refine cw_seq ?_
  refine cw_seq ?_
  refine cw_region ?_
  refine ol_val (v := .int .i64 s7.1) (by exact xr_move rfl e7) rfl rfl rfl ?_
  refine ol_val (v := V2_0) (by exact xr_move rfl e2) rfl rfl rfl ?_
  refine ol_val (v := .int .i64 (List.length a2 : Int)) (by exact xr_lenR rfl Try.underlying46 rfl R2_0) rfl rfl rfl ?_
  refine ol_val (v := .bool (decide (s7.1 < (List.length a2 : Int)))) (by exact xr_lss rfl rfl rfl) rfl rfl rfl ?_
  refine ol_nil ?_
  rcases is h with ⟨c33, h⟩ | ⟨c33, h⟩
  ·refine cw_condT rfl c33 ?_
   refine cw_skip ?_
   refine cw_seq ?_
   refine cw_block ?_
   refine cw_seq ?_
   refine cw_region ?_
   refine ol_val (v := .pointer (some ⟨G_0, 0, none⟩)) (by exact xr_move rfl e0) rfl rfl rfl ?_
   refine ol_val (v := .int .i64 a1) (by exact xr_move rfl e1) rfl rfl rfl ?_
   refine ol_val (v := .int .i64 (IntKind.i64.wrap (a1 * 8))) (by exact xr_mul rfl rfl rfl) rfl rfl rfl ?_
   refine ol_val (v := .int .i64 s7.1) (by exact xr_move rfl e7) rfl rfl rfl ?_
   refine ol_val (v := .int .i64 (IntKind.i64.wrap ((IntKind.i64.wrap (a1 * 8)) + s7.1))) (by exact xr_add rfl rfl rfl) rfl rfl rfl ?_
   refine ol_val (v := V2_0) (by exact xr_move rfl e2) rfl rfl rfl ?_
   refine ol_val (v := .int .i64 s7.1) (by exact xr_move rfl e7) rfl rfl rfl ?_
   obtain ⟨g34, h⟩ := gs h
   refine ol_val (v := .pointer (some ⟨(sb V2_0), so V2_0 + Int.toNat s7.1 * 1, none⟩)) (by exact xr_indexR (K := (kI .u64)) (v := V2_0) rfl Try.underlying46 sz22 rfl R2_0 rfl g34.1 g34.2) rfl rfl rfl ?_
   refine ol_val (v := .int .u64 (ix a2 s7.1)) (by exact xr_load1 (v := .int .u64 (ix a2 s7.1)) rfl ag22 rfl (R2_0.elem g34.1 g34.2)) rfl rfl rfl ?_
   obtain ⟨t35, k36, h⟩ := bs h
   have f46 := (ro_or (ro_eq NR2_0_P0) (ro_or (ro_own a28) (ro_own a29)))
   have c47 : ∀ k, (k = G_0 ∨ some k = Value.ownBlock v20 ∨ some k = Value.ownBlock v24) → (w.heap.size ≤ k ∨ (k = G_0 ∨ some k = Value.ownBlock V0_0 ∨ some k = Value.ownBlock V0_1)) := (cv_or (cv_eq (.inr (.inl rfl))) (cv_or (cv_own m23) (cv_own m27)))
   refine ol_op (by exact opv_call rfl cal28 (ac rfl (ac rfl (ac rfl an))) (pmem_Device_Store.ok fu _ (⟨s7.2.1, (⟨s7.2.2.1, s7.2.2.2.1⟩ : S_pmem_plan), s7.2.2.2.2.1, s7.2.2.2.2.2.1, s7.2.2.2.2.2.2.1, s7.2.2.2.2.2.2.2⟩ : S_pmem_Device) G_0 v20 (Own.base o21 (Nat.zero_le _)) v24 (Own.base o25 (Nat.zero_le _)) b_0 (IntKind.i64.wrap ((IntKind.i64.wrap (a1 * 8)) + s7.1)) (ix a2 s7.1) _ k36)) rfl rfl rfl ?_
   rintro _ w48 ⟨u38, u42, o39, m40, o43, m44, rfl, b_0, q37⟩
   have a49 := orv_new R2_0 rfl f46 m40
   have a50 := orv_new R2_0 rfl f46 m44
   have m40 : ∀ g, Value.ownBlock u38 = some g → w.heap.size ≤ g ∨ (g = G_0 ∨ some g = Value.ownBlock V0_0 ∨ some g = Value.ownBlock V0_1) := fun g hg => (m40 g hg).elim (fun x => .inl (Nat.le_trans fB.size x)) (c47 g)
   have m44 : ∀ g, Value.ownBlock u42 = some g → w.heap.size ≤ g ∨ (g = G_0 ∨ some g = Value.ownBlock V0_0 ∨ some g = Value.ownBlock V0_1) := fun g hg => (m44 g hg).elim (fun x => .inl (Nat.le_trans fB.size x)) (c47 g)
   have R2_0 := R2_0.fr q37 f46
   have fB := fB.call q37 c47
   refine ol_val (v := .int .i64 t35.1) (by exact xr_assign rfl rfl) rfl rfl rfl ?_
   refine ol_nil ?_
   refine cw_seq ?_
   refine cw_region ?_
   refine ol_val (v := .int .i64 t35.1) (by exact xr_move rfl rfl) rfl rfl rfl ?_
   refine ol_val (v := .bool (!decide (t35.1 = 0))) (by exact xr_neI rfl Try.underlying31 rfl rfl rfl) rfl rfl rfl ?_
   refine ol_nil ?_
   rcases is h with ⟨c51, h⟩ | ⟨c51, h⟩
   ·refine cw_condT rfl c51 ?_
    refine cw_seq ?_
    refine cw_region ?_
    refine ol_val (v := .int .i64 t35.1) (by exact xr_move rfl rfl) rfl rfl rfl ?_
    refine ol_val (v := .int .i64 t35.1) (by exact xr_assign rfl rfl) rfl rfl rfl ?_
    refine ol_nil ?_
    refine cw_ret ?_
    repeat (first | with_reducible refine thn_r ?_ | with_reducible refine blk_r ?_)
    obtain rfl := Option.some.inj h
    refine lp_ret ?_
    rintro rfl
    repeat (first | with_reducible refine thn_r ?_ | with_reducible refine blk_r ?_)
    have h := h10
    obtain rfl := Option.some.inj h
    refine fin_ret1 Try.results122 rfl ?_
    exact ⟨_, rfl, u38, u42, o39, m40, o43, m44, rfl, b_0, fB⟩
   refine cw_condF rfl c51 ?_
   refine cw_skip ?_
   refine blk_i ?_
   refine cw_region ?_
   refine ol_val (v := .int .i64 s7.1) (by exact xr_move rfl e7) rfl rfl rfl ?_
   refine ol_val (v := .int .i64 (IntKind.i64.wrap (s7.1 + 1))) (by exact xr_add rfl rfl rfl) rfl rfl rfl ?_
   refine ol_val (v := .int .i64 (IntKind.i64.wrap (s7.1 + 1))) (by exact xr_assign rfl rfl) rfl rfl rfl ?_
   refine ol_nil ?_
   obtain rfl := Option.some.inj h
   refine lp_in ?_
   exact ⟨u38, u42, o39, o43, m40, m44, R2_0, a49, a50, e0, e1, e2, rfl, b_0, fB⟩
  refine cw_condF rfl c33 ?_
  refine cw_exit ?_
  repeat (first | with_reducible refine thn_e ?_ | with_reducible refine blk_e rfl ?_)
  obtain rfl := Option.some.inj h
  refine lp_exit ?_
  rintro rfl
  refine thn_x ?_
  exact ⟨_, rfl, v20, v24, o21, o25, m23, m27, e0, e1, b_0, fB⟩
 rintro ρ52 w53 ⟨x11, rfl, v12, v16, o13, o17, m15, m19, e0, e1, b_0, fB⟩
 have h := h10
 refine cw_seq ?_
 refine cw_seq ?_
 refine cw_region ?_
 refine ol_val (v := .pointer (some ⟨G_0, 0, none⟩)) (by exact xr_move rfl e0) rfl rfl rfl ?_
 refine ol_val (v := .int .i64 a1) (by exact xr_move rfl e1) rfl rfl rfl ?_
 obtain ⟨t54, k55, h⟩ := bs h
 have c65 : ∀ k, (k = G_0 ∨ some k = Value.ownBlock v12 ∨ some k = Value.ownBlock v16) → (w.heap.size ≤ k ∨ (k = G_0 ∨ some k = Value.ownBlock V0_0 ∨ some k = Value.ownBlock V0_1)) := (cv_or (cv_eq (.inr (.inl rfl))) (cv_or (cv_own m15) (cv_own m19)))
 refine ol_op (by exact opv_call rfl cal29 (ac rfl (ac rfl an)) (pmem_Device_Flush.ok fu _ (⟨x11.1, (⟨x11.2.1, x11.2.2.1⟩ : S_pmem_plan), x11.2.2.2.1, x11.2.2.2.2.1, x11.2.2.2.2.2.1, x11.2.2.2.2.2.2⟩ : S_pmem_Device) G_0 v12 (Own.base o13 (Nat.zero_le _)) v16 (Own.base o17 (Nat.zero_le _)) b_0 a1 _ k55)) rfl rfl rfl ?_
 rintro _ w66 ⟨u57, u61, o58, m59, o62, m63, rfl, b_0, q56⟩
 have m59 : ∀ g, Value.ownBlock u57 = some g → w.heap.size ≤ g ∨ (g = G_0 ∨ some g = Value.ownBlock V0_0 ∨ some g = Value.ownBlock V0_1) := fun g hg => (m59 g hg).elim (fun x => .inl (Nat.le_trans fB.size x)) (c65 g)
 have m63 : ∀ g, Value.ownBlock u61 = some g → w.heap.size ≤ g ∨ (g = G_0 ∨ some g = Value.ownBlock V0_0 ∨ some g = Value.ownBlock V0_1) := fun g hg => (m63 g hg).elim (fun x => .inl (Nat.le_trans fB.size x)) (c65 g)
 have fB := fB.call q56 c65
 refine ol_val (v := .int .i64 t54.1) (by exact xr_assign rfl rfl) rfl rfl rfl ?_
 refine ol_nil ?_
 refine cw_seq ?_
 refine cw_region ?_
 refine ol_val (v := .int .i64 t54.1) (by exact xr_move rfl rfl) rfl rfl rfl ?_
 refine ol_val (v := .bool (!decide (t54.1 = 0))) (by exact xr_neI rfl Try.underlying31 rfl rfl rfl) rfl rfl rfl ?_
 refine ol_nil ?_
 rcases is h with ⟨c67, h⟩ | ⟨c67, h⟩
 ·refine cw_condT rfl c67 ?_
  refine cw_seq ?_
  refine cw_region ?_
  refine ol_val (v := .int .i64 t54.1) (by exact xr_move rfl rfl) rfl rfl rfl ?_
  refine ol_val (v := .int .i64 t54.1) (by exact xr_assign rfl rfl) rfl rfl rfl ?_
  refine ol_nil ?_
  refine cw_ret ?_
  repeat (first | with_reducible refine thn_r ?_ | with_reducible refine blk_r ?_)
  obtain rfl := Option.some.inj h
  refine fin_ret1 Try.results122 rfl ?_
  exact ⟨_, rfl, u57, u61, o58, m59, o62, m63, rfl, b_0, fB⟩
 refine cw_condF rfl c67 ?_
 refine cw_skip ?_
 refine cw_seq ?_
 refine cw_region ?_
 refine ol_val (v := .pointer (some ⟨G_0, 0, none⟩)) (by exact xr_move rfl e0) rfl rfl rfl ?_
 obtain ⟨t68, k69, h⟩ := bs h
 have c79 : ∀ k, (k = G_0 ∨ some k = Value.ownBlock u57 ∨ some k = Value.ownBlock u61) → (w.heap.size ≤ k ∨ (k = G_0 ∨ some k = Value.ownBlock V0_0 ∨ some k = Value.ownBlock V0_1)) := (cv_or (cv_eq (.inr (.inl rfl))) (cv_or (cv_own m59) (cv_own m63)))
 refine ol_op (by exact opv_call rfl cal54 (ac rfl an) (press_Sure.ok fu _ t54.2 G_0 u57 (Own.base o58 (Nat.zero_le _)) u61 (Own.base o62 (Nat.zero_le _)) b_0 _ k69)) rfl rfl rfl ?_
 rintro _ w80 ⟨u71, u75, o72, m73, o76, m77, rfl, b_0, q70⟩
 have m73 : ∀ g, Value.ownBlock u71 = some g → w.heap.size ≤ g ∨ (g = G_0 ∨ some g = Value.ownBlock V0_0 ∨ some g = Value.ownBlock V0_1) := fun g hg => (m73 g hg).elim (fun x => .inl (Nat.le_trans fB.size x)) (c79 g)
 have m77 : ∀ g, Value.ownBlock u75 = some g → w.heap.size ≤ g ∨ (g = G_0 ∨ some g = Value.ownBlock V0_0 ∨ some g = Value.ownBlock V0_1) := fun g hg => (m77 g hg).elim (fun x => .inl (Nat.le_trans fB.size x)) (c79 g)
 have fB := fB.call q70 c79
 refine ol_val (v := .int .i64 t68.1) (by exact xr_assign rfl rfl) rfl rfl rfl ?_
 refine ol_nil ?_
 refine cw_ret ?_
 repeat (first | with_reducible refine thn_r ?_ | with_reducible refine blk_r ?_)
 obtain rfl := Option.some.inj h
 refine fin_ret1 Try.results122 rfl ?_
 exact ⟨_, rfl, u71, u75, o72, m73, o76, m77, rfl, b_0, fB⟩
def root_Lay.f (fu : Nat) (a0 : S_pmem_Device) (a1 : Int) (a2 : S_api_Super) : Option (Int × S_pmem_Device) := ((root_may.f fu a0 : Option Int).bind fun t15 => (if (!decide (t15 = 0)) = true then some (t15, a0) else ((super_Put.f fu a2 : Option ((List Int) × Bool)).bind fun t20 => (if (if (!t20.2) = true then true else (if (decide (a1 < 0)) = true then true else (decide (a1 ≥ 2)))) = true then some (2, a0) else ((octet_Words.f fu t20.1 : Option (List Int)).bind fun t31 => ((root_head.f fu a0 a1 0 : Option (Int × S_pmem_Device)).bind fun t38 => (if (!decide (t38.1 = 0)) = true then some (t38.1, t38.2) else ((root_tail.f fu t38.2 a1 t31 : Option (Int × S_pmem_Device)).bind fun t53 => (if (!decide (t53.1 = 0)) = true then some (t53.1, t53.2) else (if (0 : Int) < (List.length t31 : Int) then ((root_head.f fu t53.2 a1 (ix t31 0) : Option (Int × S_pmem_Device)).bind fun t69 => some (t69.1, t69.2)) else none))))))))))
set_option maxRecDepth 100000 in
set_option maxHeartbeats 400000 in
theorem root_Lay.ok (fu : Nat) (w : World) (a0 : S_pmem_Device) (G_0 : Nat) (V0_0 : Value) (O0_0 : Own k_pmem_cell 142 w 0 V0_0 a0.cells) (V0_1 : Value) (O0_1 : Own (kI .i64) 3 w 0 V0_1 a0.plan.list) (b_0 : Blk w G_0 139 [Seg.cell V0_0 O0_0.one, Seg.cell V0_1 O0_1.one, Seg.cell (.int .i64 a0.plan.at_), Seg.cell (.bool a0.off), Seg.cell (.bool a0.armed), Seg.cell (.int .i64 a0.left), Seg.cell (.int .i64 a0.steps)]) (a1 : Int) (a2 : S_api_Super) (V2_0 : Value) (R2_0 : Rd (kI .i64) w V2_0 a2.Charts) (NR2_0_P0 : OffR V2_0 a2.Charts G_0) (NR2_0_R0_0 : OffRV V2_0 a2.Charts V0_0) (NR2_0_R0_1 : OffRV V2_0 a2.Charts V0_1) (r : Int × S_pmem_Device) (h : root_Lay.f fu a0 a1 a2 = some r) :
  Calls Try.prog 77 (([.pointer (some ⟨G_0, 0, none⟩), .int .i64 a1, aggV [Seg.cell (.int .i64 a2.Epoch), Seg.cell (.int .i64 a2.Tickets.Geometry.Blocks), Seg.cell (.int .i64 a2.Tickets.Geometry.Slots), Seg.cell (.int .i64 a2.Tickets.Geometry.Gens), Seg.cell (.int .i64 a2.Tickets.Top), Seg.cell (.int .i64 a2.Tickets.High), Seg.cell (.int .i64 a2.Tickets.Free), Seg.cell (.int .i64 a2.Dir), Seg.cell V2_0 R2_0.one]] : List Value).toArray) w (fun e w' => ∃ v, e = .returned v ∧ ∃ u1 : Value, ∃ u4 : Value, ∃ o2 : Own k_pmem_cell 142 w' 0 u1 r.2.cells, ∃ m3 : ∀ g, Value.ownBlock u1 = some g → w.heap.size ≤ g ∨ (g = G_0 ∨ some g = Value.ownBlock V0_0 ∨ some g = Value.ownBlock V0_1), ∃ o5 : Own (kI .i64) 3 w' 0 u4 r.2.plan.list, ∃ m6 : ∀ g, Value.ownBlock u4 = some g → w.heap.size ≤ g ∨ (g = G_0 ∨ some g = Value.ownBlock V0_0 ∨ some g = Value.ownBlock V0_1), v = .int .i64 r.1 ∧ Blk w' G_0 139 [Seg.cell u1 o2.one, Seg.cell u4 o5.one, Seg.cell (.int .i64 r.2.plan.at_), Seg.cell (.bool r.2.off), Seg.cell (.bool r.2.armed), Seg.cell (.int .i64 r.2.left), Seg.cell (.int .i64 r.2.steps)] ∧ Fr (fun j => j = G_0 ∨ some j = Value.ownBlock V0_0 ∨ some j = Value.ownBlock V0_1) w w') := by
 unfold root_Lay.f at h
 have fB : Fr (fun j => j = G_0 ∨ some j = Value.ownBlock V0_0 ∨ some j = Value.ownBlock V0_1) w w := Fr.refl _ _
 have M0_0 : ∀ g, Value.ownBlock V0_0 = some g → w.heap.size ≤ g ∨ (g = G_0 ∨ some g = Value.ownBlock V0_0 ∨ some g = Value.ownBlock V0_1) := fun g hg => .inr (.inr (.inl hg.symm))
 have M0_1 : ∀ g, Value.ownBlock V0_1 = some g → w.heap.size ≤ g ∨ (g = G_0 ∨ some g = Value.ownBlock V0_0 ∨ some g = Value.ownBlock V0_1) := fun g hg => .inr (.inr (.inr hg.symm))
 refine calls_cw Try.func77 rfl Try.ntmps77 rfl ?_
 refine cw_seq ?_
 refine cw_region ?_
 refine ol_op (by exact opv_box (ss := [Seg.cell (.int .i64 a2.Epoch), Seg.cell (.int .i64 a2.Tickets.Geometry.Blocks), Seg.cell (.int .i64 a2.Tickets.Geometry.Slots), Seg.cell (.int .i64 a2.Tickets.Geometry.Gens), Seg.cell (.int .i64 a2.Tickets.Top), Seg.cell (.int .i64 a2.Tickets.High), Seg.cell (.int .i64 a2.Tickets.Free), Seg.cell (.int .i64 a2.Dir), Seg.cell V2_0 R2_0.one]) rfl rfl rfl) rfl rfl rfl ?_
 rintro _ w12 ⟨G7, rfl, b8, q9, z10⟩
 have n13 := b_0.ne z10
 have a14 := OffR.new R2_0 z10 rfl
 have z10 := Nat.le_trans fB.size z10
 have b_0 := b_0.gr q9
 have O0_0 := O0_0.gr q9
 have O0_1 := O0_1.gr q9
 have R2_0 := R2_0.gr q9
 have fB := fB.gr q9
 refine ol_val (v := .int .i64 0) (by exact xr_assign rfl rfl) rfl rfl rfl ?_
 refine ol_nil ?_
 refine cw_seq ?_
 refine cw_seq ?_
 refine cw_region ?_
 refine ol_val (v := .pointer (some ⟨G_0, 0, none⟩)) (by exact xr_move rfl rfl) rfl rfl rfl ?_
 obtain ⟨t15, k16, h⟩ := bs h
 refine ol_op (by exact opv_call rfl cal119 (ac rfl an) (root_may.ok fu _ a0 G_0 V0_0 (O0_0.rd) V0_1 (O0_1.rd) b_0 _ k16)) rfl rfl rfl ?_
 rintro _ w18 ⟨rfl, q17⟩
 have b_0 := b_0.gr q17
 have b8 := b8.gr q17
 have O0_0 := O0_0.gr q17
 have O0_1 := O0_1.gr q17
 have R2_0 := R2_0.gr q17
 have fB := fB.gr q17
 refine ol_val (v := .int .i64 t15) (by exact xr_assign rfl rfl) rfl rfl rfl ?_
 refine ol_nil ?_
 refine cw_seq ?_
 refine cw_region ?_
 refine ol_val (v := .int .i64 t15) (by exact xr_move rfl rfl) rfl rfl rfl ?_
 refine ol_val (v := .bool (!decide (t15 = 0))) (by exact xr_neI rfl Try.underlying31 rfl rfl rfl) rfl rfl rfl ?_
 refine ol_nil ?_
 rcases is h with ⟨c19, h⟩ | ⟨c19, h⟩
 ·refine cw_condT rfl c19 ?_
  refine cw_seq ?_
  refine cw_region ?_
  refine ol_val (v := .int .i64 t15) (by exact xr_move rfl rfl) rfl rfl rfl ?_
  refine ol_val (v := .int .i64 t15) (by exact xr_assign rfl rfl) rfl rfl rfl ?_
  refine ol_nil ?_
  refine cw_ret ?_
  repeat (first | with_reducible refine thn_r ?_ | with_reducible refine blk_r ?_)
  obtain rfl := Option.some.inj h
  refine fin_ret1 Try.results77 rfl ?_
  exact ⟨_, rfl, V0_0, V0_1, O0_0, M0_0, O0_1, M0_1, rfl, b_0, fB⟩
 refine cw_condF rfl c19 ?_
 refine cw_skip ?_
 refine cw_seq ?_
 refine cw_region ?_
 refine ol_val (v := aggV [Seg.cell (.int .i64 a2.Epoch), Seg.cell (.int .i64 a2.Tickets.Geometry.Blocks), Seg.cell (.int .i64 a2.Tickets.Geometry.Slots), Seg.cell (.int .i64 a2.Tickets.Geometry.Gens), Seg.cell (.int .i64 a2.Tickets.Top), Seg.cell (.int .i64 a2.Tickets.High), Seg.cell (.int .i64 a2.Tickets.Free), Seg.cell (.int .i64 a2.Dir), Seg.cell V2_0 R2_0.one]) (by exact xr_loadS (ss := [Seg.cell (.int .i64 a2.Epoch), Seg.cell (.int .i64 a2.Tickets.Geometry.Blocks), Seg.cell (.int .i64 a2.Tickets.Geometry.Slots), Seg.cell (.int .i64 a2.Tickets.Geometry.Gens), Seg.cell (.int .i64 a2.Tickets.Top), Seg.cell (.int .i64 a2.Tickets.High), Seg.cell (.int .i64 a2.Tickets.Free), Seg.cell (.int .i64 a2.Dir), Seg.cell V2_0 R2_0.one]) rfl ag110 sz110 rfl rfl (b8.segs 0 9 rfl)) rfl rfl rfl ?_
 obtain ⟨t20, k21, h⟩ := bs h
 refine ol_op (by exact opv_call rfl cal120 (ac rfl an) (super_Put.ok fu _ a2 V2_0 (R2_0) _ k21)) rfl rfl rfl ?_
 rintro _ w26 ⟨u22, o23, rfl, q25⟩
 have o23 := Own.base o23 fB.size
 have b_0 := b_0.gr q25
 have O0_0 := O0_0.gr q25
 have O0_1 := O0_1.gr q25
 have fB := fB.gr q25
 refine ol_val (v := .tuple #[u22, .bool t20.2]) (by exact xr_move rfl rfl) rfl rfl rfl ?_
 refine ol_val (v := u22) (by exact xr_extract rfl rfl rfl) rfl rfl rfl ?_
 refine ol_val (v := .bool t20.2) (by exact xr_extract rfl rfl rfl) rfl rfl rfl ?_
 refine ol_val (v := u22) (by exact xr_assign rfl rfl) rfl rfl rfl ?_
 refine ol_val (v := .bool t20.2) (by exact xr_assign rfl rfl) rfl rfl rfl ?_
 refine ol_nil ?_
 refine cw_seq ?_
 refine cw_seq ?_
 refine cw_mid (fun ρ' w' => ρ' 0 = .pointer (some ⟨G_0, 0, none⟩) ∧ ρ' 1 = .int .i64 a1 ∧ ρ' 8 = u22 ∧ ρ' 32 = .bool (if (!t20.2) = true then true else (if (decide (a1 < 0)) = true then true else (decide (a1 ≥ 2)))) ∧ w26 = w') ?_ ?_
 ·skip
  refine cw_region ?_
  refine ol_val (v := .bool t20.2) (by exact xr_move rfl rfl) rfl rfl rfl ?_
  refine ol_val (v := .bool (!t20.2)) (by exact xr_not rfl rfl) rfl rfl rfl ?_
  refine ol_val (v := .bool (!t20.2)) (by exact xr_move rfl rfl) rfl rfl rfl ?_
  rcases bt (!t20.2) with c27 | c27
  ·skip
   refine ol_gskip rfl rfl rfl rfl rfl c27 ?_
   refine ol_gskip rfl rfl rfl rfl rfl c27 ?_
   refine ol_val (v := .bool true) (by exact xr_pickT rfl rfl c27 rfl) rfl rfl rfl ?_
   refine ol_val (v := .bool true) (by exact xr_move rfl rfl) rfl rfl rfl ?_
   refine ol_gskip rfl rfl rfl rfl rfl rfl ?_
   refine ol_gskip rfl rfl rfl rfl rfl rfl ?_
   refine ol_val (v := .bool true) (by exact xr_pickT rfl rfl rfl rfl) rfl rfl rfl ?_
   refine ol_nil ?_
   refine thn_i ?_
   exact ⟨rfl, rfl, rfl, (rfl).trans (congrArg (fun z => (.bool z : Value)) (show true = (if (!t20.2) = true then true else (if (decide (a1 < 0)) = true then true else (decide (a1 ≥ 2)))) from by rw [ite_t c27])), rfl⟩
  refine ol_gval (v := .int .i64 a1) (by exact xr_move rfl rfl) rfl rfl rfl rfl rfl c27 ?_
  refine ol_gval (v := .bool (decide (a1 < 0))) (by exact xr_lss rfl rfl rfl) rfl rfl rfl rfl rfl c27 ?_
  refine ol_val (v := .bool (decide (a1 < 0))) (by exact xr_pickF rfl rfl c27 rfl) rfl rfl rfl ?_
  refine ol_val (v := .bool (decide (a1 < 0))) (by exact xr_move rfl rfl) rfl rfl rfl ?_
  rcases bt (decide (a1 < 0)) with c28 | c28
  ·skip
   refine ol_gskip rfl rfl rfl rfl rfl c28 ?_
   refine ol_gskip rfl rfl rfl rfl rfl c28 ?_
   refine ol_val (v := .bool true) (by exact xr_pickT rfl rfl c28 rfl) rfl rfl rfl ?_
   refine ol_nil ?_
   refine thn_i ?_
   exact ⟨rfl, rfl, rfl, (rfl).trans (congrArg (fun z => (.bool z : Value)) (show true = (if (!t20.2) = true then true else (if (decide (a1 < 0)) = true then true else (decide (a1 ≥ 2)))) from by rw [ite_f c27, ite_t c28])), rfl⟩
  refine ol_gval (v := .int .i64 a1) (by exact xr_move rfl rfl) rfl rfl rfl rfl rfl c28 ?_
  refine ol_gval (v := .bool (decide (a1 ≥ 2))) (by exact xr_geq rfl rfl rfl) rfl rfl rfl rfl rfl c28 ?_
  refine ol_val (v := .bool (decide (a1 ≥ 2))) (by exact xr_pickF rfl rfl c28 rfl) rfl rfl rfl ?_
  refine ol_nil ?_
  refine thn_i ?_
  exact ⟨rfl, rfl, rfl, (rfl).trans (congrArg (fun z => (.bool z : Value)) (show (decide (a1 ≥ 2)) = (if (!t20.2) = true then true else (if (decide (a1 < 0)) = true then true else (decide (a1 ≥ 2)))) from by rw [ite_f c27, ite_f c28])), rfl⟩
 rintro ρ29 _ ⟨e0, e1, e8, e32, rfl⟩
 rcases is h with ⟨c30, h⟩ | ⟨c30, h⟩
 ·refine cw_condT e32 c30 ?_
  refine cw_seq ?_
  refine cw_region ?_
  refine ol_val (v := .int .i64 2) (by exact xr_assign rfl rfl) rfl rfl rfl ?_
  refine ol_nil ?_
  refine cw_ret ?_
  repeat (first | with_reducible refine thn_r ?_ | with_reducible refine blk_r ?_)
  obtain rfl := Option.some.inj h
  refine fin_ret1 Try.results77 rfl ?_
  exact ⟨_, rfl, V0_0, V0_1, O0_0, M0_0, O0_1, M0_1, rfl, b_0, fB⟩
 refine cw_condF e32 c30 ?_
 refine cw_skip ?_
 refine cw_seq ?_
 refine cw_region ?_
 refine ol_val (v := u22) (by exact xr_move rfl e8) rfl rfl rfl ?_
 obtain ⟨t31, k32, h⟩ := bs h
 refine ol_op (by exact opv_call rfl cal99 (ac rfl an) (octet_Words.ok fu _ t20.1 u22 (o23.rd) _ k32)) rfl rfl rfl ?_
 rintro u33 w37 ⟨_, o34, rfl, q36⟩
 have o34 := Own.base o34 fB.size
 have b_0 := b_0.gr q36
 have O0_0 := O0_0.gr q36
 have O0_1 := O0_1.gr q36
 have fB := fB.gr q36
 refine ol_val (v := u33) (by exact xr_assign rfl rfl) rfl rfl rfl ?_
 refine ol_nil ?_
 refine cw_seq ?_
 refine cw_seq ?_
 refine cw_region ?_
 refine ol_val (v := .pointer (some ⟨G_0, 0, none⟩)) (by exact xr_move rfl e0) rfl rfl rfl ?_
 refine ol_val (v := .int .i64 a1) (by exact xr_move rfl e1) rfl rfl rfl ?_
 obtain ⟨t38, k39, h⟩ := bs h
 have f49 := (vo_or (vo_eq (off_ty b_0 o34 (by decide))) (vo_or (vo_own (OffV.ty o34 O0_0 (by decide))) (vo_own (OffV.ty o34 O0_1 (by decide)))))
 have c50 : ∀ k, (k = G_0 ∨ some k = Value.ownBlock V0_0 ∨ some k = Value.ownBlock V0_1) → (w.heap.size ≤ k ∨ (k = G_0 ∨ some k = Value.ownBlock V0_0 ∨ some k = Value.ownBlock V0_1)) := (cv_or (cv_eq (.inr (.inl rfl))) (cv_or (cv_own M0_0) (cv_own M0_1)))
 refine ol_op (by exact opv_call rfl cal121 (ac rfl (ac rfl (ac rfl an))) (root_head.ok fu _ a0 G_0 V0_0 (Own.base O0_0 (Nat.zero_le _)) V0_1 (Own.base O0_1 (Nat.zero_le _)) b_0 a1 0 _ k39)) rfl rfl rfl ?_
 rintro _ w51 ⟨u41, u45, o42, m43, o46, m47, rfl, b_0, q40⟩
 have m43 : ∀ g, Value.ownBlock u41 = some g → w.heap.size ≤ g ∨ (g = G_0 ∨ some g = Value.ownBlock V0_0 ∨ some g = Value.ownBlock V0_1) := fun g hg => (m43 g hg).elim (fun x => .inl (Nat.le_trans fB.size x)) (c50 g)
 have m47 : ∀ g, Value.ownBlock u45 = some g → w.heap.size ≤ g ∨ (g = G_0 ∨ some g = Value.ownBlock V0_0 ∨ some g = Value.ownBlock V0_1) := fun g hg => (m47 g hg).elim (fun x => .inl (Nat.le_trans fB.size x)) (c50 g)
 have o34 := o34.fr q40 f49
 have fB := fB.call q40 c50
 refine ol_val (v := .int .i64 t38.1) (by exact xr_assign rfl rfl) rfl rfl rfl ?_
 refine ol_nil ?_
 refine cw_seq ?_
 refine cw_region ?_
 refine ol_val (v := .int .i64 t38.1) (by exact xr_move rfl rfl) rfl rfl rfl ?_
 refine ol_val (v := .bool (!decide (t38.1 = 0))) (by exact xr_neI rfl Try.underlying31 rfl rfl rfl) rfl rfl rfl ?_
 refine ol_nil ?_
 rcases is h with ⟨c52, h⟩ | ⟨c52, h⟩
 ·refine cw_condT rfl c52 ?_
  refine cw_seq ?_
  refine cw_region ?_
  refine ol_val (v := .int .i64 t38.1) (by exact xr_move rfl rfl) rfl rfl rfl ?_
  refine ol_val (v := .int .i64 t38.1) (by exact xr_assign rfl rfl) rfl rfl rfl ?_
  refine ol_nil ?_
  refine cw_ret ?_
  repeat (first | with_reducible refine thn_r ?_ | with_reducible refine blk_r ?_)
  obtain rfl := Option.some.inj h
  refine fin_ret1 Try.results77 rfl ?_
  exact ⟨_, rfl, u41, u45, o42, m43, o46, m47, rfl, b_0, fB⟩
 refine cw_condF rfl c52 ?_
 refine cw_skip ?_
 refine cw_seq ?_
 refine cw_seq ?_
 refine cw_region ?_
 refine ol_val (v := .pointer (some ⟨G_0, 0, none⟩)) (by exact xr_move rfl e0) rfl rfl rfl ?_
 refine ol_val (v := .int .i64 a1) (by exact xr_move rfl e1) rfl rfl rfl ?_
 refine ol_val (v := u33) (by exact xr_move rfl rfl) rfl rfl rfl ?_
 obtain ⟨t53, k54, h⟩ := bs h
 have f64 := (vo_or (vo_eq (off_ty b_0 o34 (by decide))) (vo_or (vo_own (OffV.ty o34 o42 (by decide))) (vo_own (OffV.ty o34 o46 (by decide)))))
 have c65 : ∀ k, (k = G_0 ∨ some k = Value.ownBlock u41 ∨ some k = Value.ownBlock u45) → (w.heap.size ≤ k ∨ (k = G_0 ∨ some k = Value.ownBlock V0_0 ∨ some k = Value.ownBlock V0_1)) := (cv_or (cv_eq (.inr (.inl rfl))) (cv_or (cv_own m43) (cv_own m47)))
 refine ol_op (by exact opv_call rfl cal122 (ac rfl (ac rfl (ac rfl an))) (root_tail.ok fu _ t38.2 G_0 u41 (Own.base o42 (Nat.zero_le _)) u45 (Own.base o46 (Nat.zero_le _)) b_0 a1 t31 u33 (o34.rd) (OffR.own o34 (off_ty b_0 o34 (by decide))) (OffRV.own o34 (OffV.ty o34 o42 (by decide))) (OffRV.own o34 (OffV.ty o34 o46 (by decide))) _ k54)) rfl rfl rfl ?_
 rintro _ w66 ⟨u56, u60, o57, m58, o61, m62, rfl, b_0, q55⟩
 have m58 : ∀ g, Value.ownBlock u56 = some g → w.heap.size ≤ g ∨ (g = G_0 ∨ some g = Value.ownBlock V0_0 ∨ some g = Value.ownBlock V0_1) := fun g hg => (m58 g hg).elim (fun x => .inl (Nat.le_trans fB.size x)) (c65 g)
 have m62 : ∀ g, Value.ownBlock u60 = some g → w.heap.size ≤ g ∨ (g = G_0 ∨ some g = Value.ownBlock V0_0 ∨ some g = Value.ownBlock V0_1) := fun g hg => (m62 g hg).elim (fun x => .inl (Nat.le_trans fB.size x)) (c65 g)
 have o34 := o34.fr q55 f64
 have fB := fB.call q55 c65
 refine ol_val (v := .int .i64 t53.1) (by exact xr_assign rfl rfl) rfl rfl rfl ?_
 refine ol_nil ?_
 refine cw_seq ?_
 refine cw_region ?_
 refine ol_val (v := .int .i64 t53.1) (by exact xr_move rfl rfl) rfl rfl rfl ?_
 refine ol_val (v := .bool (!decide (t53.1 = 0))) (by exact xr_neI rfl Try.underlying31 rfl rfl rfl) rfl rfl rfl ?_
 refine ol_nil ?_
 rcases is h with ⟨c67, h⟩ | ⟨c67, h⟩
 ·refine cw_condT rfl c67 ?_
  refine cw_seq ?_
  refine cw_region ?_
  refine ol_val (v := .int .i64 t53.1) (by exact xr_move rfl rfl) rfl rfl rfl ?_
  refine ol_val (v := .int .i64 t53.1) (by exact xr_assign rfl rfl) rfl rfl rfl ?_
  refine ol_nil ?_
  refine cw_ret ?_
  repeat (first | with_reducible refine thn_r ?_ | with_reducible refine blk_r ?_)
  obtain rfl := Option.some.inj h
  refine fin_ret1 Try.results77 rfl ?_
  exact ⟨_, rfl, u56, u60, o57, m58, o61, m62, rfl, b_0, fB⟩
 refine cw_condF rfl c67 ?_
 refine cw_skip ?_
 refine cw_seq ?_
 refine cw_region ?_
 refine ol_val (v := .pointer (some ⟨G_0, 0, none⟩)) (by exact xr_move rfl e0) rfl rfl rfl ?_
 refine ol_val (v := .int .i64 a1) (by exact xr_move rfl e1) rfl rfl rfl ?_
 refine ol_val (v := u33) (by exact xr_move rfl rfl) rfl rfl rfl ?_
 obtain ⟨g68, h⟩ := gs h
 refine ol_val (v := .pointer (some ⟨(sb u33), so u33 + Int.toNat 0 * 1, none⟩)) (by exact xr_indexR (K := (kI .u64)) (v := u33) rfl Try.underlying46 sz22 rfl o34.rd rfl (by decide) g68) rfl rfl rfl ?_
 refine ol_val (v := .int .u64 (ix t31 0)) (by exact xr_load1 (v := .int .u64 (ix t31 0)) rfl ag22 rfl (o34.rd.elem (by decide) g68)) rfl rfl rfl ?_
 obtain ⟨t69, k70, h⟩ := bs h
 have c80 : ∀ k, (k = G_0 ∨ some k = Value.ownBlock u56 ∨ some k = Value.ownBlock u60) → (w.heap.size ≤ k ∨ (k = G_0 ∨ some k = Value.ownBlock V0_0 ∨ some k = Value.ownBlock V0_1)) := (cv_or (cv_eq (.inr (.inl rfl))) (cv_or (cv_own m58) (cv_own m62)))
 refine ol_op (by exact opv_call rfl cal121 (ac rfl (ac rfl (ac rfl an))) (root_head.ok fu _ t53.2 G_0 u56 (Own.base o57 (Nat.zero_le _)) u60 (Own.base o61 (Nat.zero_le _)) b_0 a1 (ix t31 0) _ k70)) rfl rfl rfl ?_
 rintro _ w81 ⟨u72, u76, o73, m74, o77, m78, rfl, b_0, q71⟩
 have m74 : ∀ g, Value.ownBlock u72 = some g → w.heap.size ≤ g ∨ (g = G_0 ∨ some g = Value.ownBlock V0_0 ∨ some g = Value.ownBlock V0_1) := fun g hg => (m74 g hg).elim (fun x => .inl (Nat.le_trans fB.size x)) (c80 g)
 have m78 : ∀ g, Value.ownBlock u76 = some g → w.heap.size ≤ g ∨ (g = G_0 ∨ some g = Value.ownBlock V0_0 ∨ some g = Value.ownBlock V0_1) := fun g hg => (m78 g hg).elim (fun x => .inl (Nat.le_trans fB.size x)) (c80 g)
 have fB := fB.call q71 c80
 refine ol_val (v := .int .i64 t69.1) (by exact xr_assign rfl rfl) rfl rfl rfl ?_
 refine ol_nil ?_
 refine cw_ret ?_
 repeat (first | with_reducible refine thn_r ?_ | with_reducible refine blk_r ?_)
 obtain rfl := Option.some.inj h
 refine fin_ret1 Try.results77 rfl ?_
 exact ⟨_, rfl, u72, u76, o73, m74, o77, m78, rfl, b_0, fB⟩
def rickyardlaw16_least.f (fu : Nat) (a0 : Int) : Option S_api_Super := some ((⟨a0, (⟨(⟨16, 1, 1⟩ : S_api_Geometry), (0 : Int), (0 : Int), (0 : Int)⟩ : S_api_Tickets), (0 : Int), [2]⟩ : S_api_Super))
set_option maxRecDepth 100000 in
set_option maxHeartbeats 400000 in
theorem rickyardlaw16_least.ok (fu : Nat) (w : World) (a0 : Int) (r : S_api_Super) (h : rickyardlaw16_least.f fu a0 = some r) :
  Calls Try.prog 112 (([.int .i64 a0] : List Value).toArray) w (fun e w' => ∃ v, e = .returned v ∧ ∃ u1 : Value, ∃ o2 : Own (kI .i64) 3 w' w.heap.size u1 r.Charts, v = aggV [Seg.cell (.int .i64 r.Epoch), Seg.cell (.int .i64 r.Tickets.Geometry.Blocks), Seg.cell (.int .i64 r.Tickets.Geometry.Slots), Seg.cell (.int .i64 r.Tickets.Geometry.Gens), Seg.cell (.int .i64 r.Tickets.Top), Seg.cell (.int .i64 r.Tickets.High), Seg.cell (.int .i64 r.Tickets.Free), Seg.cell (.int .i64 r.Dir), Seg.cell u1 o2.one] ∧ Gr w w') := by
 unfold rickyardlaw16_least.f at h
 have fB : Gr w w := Fr.refl _ _
 refine calls_cw Try.func112 rfl Try.ntmps112 rfl ?_
 refine cw_seq ?_
 refine cw_region ?_
 refine ol_op (by exact opv_alloc (ss := [Seg.cell (.int .i64 (0 : Int)), Seg.cell (.int .i64 (0 : Int)), Seg.cell (.int .i64 (0 : Int)), Seg.cell (.int .i64 (0 : Int)), Seg.cell (.int .i64 (0 : Int)), Seg.cell (.int .i64 (0 : Int)), Seg.cell (.int .i64 (0 : Int)), Seg.cell (.int .i64 (0 : Int)), Seg.cell (.slice none 0 0) (by rfl)]) rfl ze110 rfl) rfl rfl rfl ?_
 rintro _ w9 ⟨G4, rfl, b5, q6, z7⟩
 have z7 := Nat.le_trans fB.size z7
 have fB := fB.gr q6
 refine ol_nil ?_
 refine cw_seq ?_
 refine cw_region ?_
 refine ol_val (v := .int .i64 a0) (by exact xr_move rfl rfl) rfl rfl rfl ?_
 refine ol_op (by exact opv_buildSlice (K := (kI .i64)) (xs := [2]) (vals := [.int .i64 2]) rfl Try.underlying25 el3 rfl rfl ⟨rfl, rfl, trivial⟩ rfl rfl rfl fB.size) rfl rfl rfl ?_
 rintro v10 w15 ⟨o12, q11, z13⟩
 have b5 := b5.gr q11
 have fB := fB.gr q11
 refine ol_val (v := aggV [Seg.cell (.int .i64 a0), Seg.cell (.int .i64 (0 : Int)), Seg.cell (.int .i64 (0 : Int)), Seg.cell (.int .i64 (0 : Int)), Seg.cell (.int .i64 (0 : Int)), Seg.cell (.int .i64 (0 : Int)), Seg.cell (.int .i64 (0 : Int)), Seg.cell (.int .i64 (0 : Int)), Seg.cell v10 o12.one]) (by exact xr_buildS (vals := [(0, .int .i64 a0), (3, v10)]) (res := [Seg.cell (.int .i64 a0), Seg.cell (.int .i64 (0 : Int)), Seg.cell (.int .i64 (0 : Int)), Seg.cell (.int .i64 (0 : Int)), Seg.cell (.int .i64 (0 : Int)), Seg.cell (.int .i64 (0 : Int)), Seg.cell (.int .i64 (0 : Int)), Seg.cell (.int .i64 (0 : Int)), Seg.cell v10 o12.one]) rfl ⟨rfl, rfl, ⟨rfl, rfl, trivial⟩⟩ Try.underlying110 ze110 pl110 (fl_cons (xs := cellsOf [Seg.cell (.int .i64 a0)]) (cs' := cellsOf [Seg.cell (.int .i64 a0), Seg.cell (.int .i64 (0 : Int)), Seg.cell (.int .i64 (0 : Int)), Seg.cell (.int .i64 (0 : Int)), Seg.cell (.int .i64 (0 : Int)), Seg.cell (.int .i64 (0 : Int)), Seg.cell (.int .i64 (0 : Int)), Seg.cell (.int .i64 (0 : Int)), Seg.cell (.slice none 0 0) (by rfl)]) rfl rfl (len_cellsOf _) (Spl.segs [Seg.cell (.int .i64 (0 : Int)), Seg.cell (.int .i64 (0 : Int)), Seg.cell (.int .i64 (0 : Int)), Seg.cell (.int .i64 (0 : Int)), Seg.cell (.int .i64 (0 : Int)), Seg.cell (.int .i64 (0 : Int)), Seg.cell (.int .i64 (0 : Int)), Seg.cell (.int .i64 (0 : Int)), Seg.cell (.slice none 0 0) (by rfl)] 0 1 [Seg.cell (.int .i64 a0)] rfl rfl) (fl_cons (xs := cellsOf [Seg.cell v10 o12.one]) (cs' := cellsOf [Seg.cell (.int .i64 a0), Seg.cell (.int .i64 (0 : Int)), Seg.cell (.int .i64 (0 : Int)), Seg.cell (.int .i64 (0 : Int)), Seg.cell (.int .i64 (0 : Int)), Seg.cell (.int .i64 (0 : Int)), Seg.cell (.int .i64 (0 : Int)), Seg.cell (.int .i64 (0 : Int)), Seg.cell v10 o12.one]) rfl (cells_one o12.one) (len_cellsOf _) (Spl.segs [Seg.cell (.int .i64 a0), Seg.cell (.int .i64 (0 : Int)), Seg.cell (.int .i64 (0 : Int)), Seg.cell (.int .i64 (0 : Int)), Seg.cell (.int .i64 (0 : Int)), Seg.cell (.int .i64 (0 : Int)), Seg.cell (.int .i64 (0 : Int)), Seg.cell (.int .i64 (0 : Int)), Seg.cell (.slice none 0 0) (by rfl)] 8 1 [Seg.cell v10 o12.one] rfl rfl) fl_nil))) rfl rfl rfl ?_
 refine ol_op (by exact opv_alloc (ss := [Seg.cell (.int .i64 (0 : Int)), Seg.cell (.int .i64 (0 : Int)), Seg.cell (.int .i64 (0 : Int)), Seg.cell (.int .i64 (0 : Int)), Seg.cell (.int .i64 (0 : Int)), Seg.cell (.int .i64 (0 : Int)), Seg.cell (.int .i64 (0 : Int)), Seg.cell (.int .i64 (0 : Int)), Seg.cell (.slice none 0 0) (by rfl)]) rfl ze110 rfl) rfl rfl rfl ?_
 rintro _ w21 ⟨G16, rfl, b17, q18, z19⟩
 have n22 := b5.ne z19
 have z19 := Nat.le_trans fB.size z19
 have b5 := b5.gr q18
 have o12 := o12.gr q18
 have fB := fB.gr q18
 have f24 := off_ty b17 o12 (by decide)
 refine ol_op0 (by exact opv_store (ss' := [Seg.cell (.int .i64 a0), Seg.cell (.int .i64 (0 : Int)), Seg.cell (.int .i64 (0 : Int)), Seg.cell (.int .i64 (0 : Int)), Seg.cell (.int .i64 (0 : Int)), Seg.cell (.int .i64 (0 : Int)), Seg.cell (.int .i64 (0 : Int)), Seg.cell (.int .i64 (0 : Int)), Seg.cell v10 o12.one]) (xs := cellsOf [Seg.cell (.int .i64 a0), Seg.cell (.int .i64 (0 : Int)), Seg.cell (.int .i64 (0 : Int)), Seg.cell (.int .i64 (0 : Int)), Seg.cell (.int .i64 (0 : Int)), Seg.cell (.int .i64 (0 : Int)), Seg.cell (.int .i64 (0 : Int)), Seg.cell (.int .i64 (0 : Int)), Seg.cell v10 o12.one]) rfl sz110 rfl rfl rfl (len_cellsOf _) (one_cellsOf _) b17 (Spl.segs _ 0 9 [Seg.cell (.int .i64 a0), Seg.cell (.int .i64 (0 : Int)), Seg.cell (.int .i64 (0 : Int)), Seg.cell (.int .i64 (0 : Int)), Seg.cell (.int .i64 (0 : Int)), Seg.cell (.int .i64 (0 : Int)), Seg.cell (.int .i64 (0 : Int)), Seg.cell (.int .i64 (0 : Int)), Seg.cell v10 o12.one] rfl rfl)) rfl rfl ?_
 rintro _ w25 ⟨b17, q23⟩
 have b5 := b5.wr q23 n22
 have o12 := o12.wr q23 f24
 have fB := fB.wr q23 z19
 refine ol_nil ?_
 refine cw_seq ?_
 refine cw_region ?_
 refine ol_val (v := aggV [Seg.cell (.int .i64 16), Seg.cell (.int .i64 1), Seg.cell (.int .i64 1)]) (by exact xr_build (vals := [(0, .int .i64 16), (1, .int .i64 1), (2, .int .i64 1)]) rfl ⟨rfl, rfl, ⟨rfl, rfl, ⟨rfl, rfl, trivial⟩⟩⟩ (bl106_0_1_2 16 1 1 _)) rfl rfl rfl ?_
 refine ol_val (v := .pointer (some ⟨G16, 1, none⟩)) (by exact xr_fieldAddr (p := 0) (q := 1) rfl fl110_1 rfl) rfl rfl rfl ?_
 refine ol_val (v := .pointer (some ⟨G16, 1, none⟩)) (by exact xr_fieldAddr (p := 1) (q := 0) rfl fl108_0 rfl) rfl rfl rfl ?_
 have f27 := off_ty b17 o12 (by decide)
 refine ol_op0 (by exact opv_store (ss' := [Seg.cell (.int .i64 a0), Seg.cell (.int .i64 16), Seg.cell (.int .i64 1), Seg.cell (.int .i64 1), Seg.cell (.int .i64 (0 : Int)), Seg.cell (.int .i64 (0 : Int)), Seg.cell (.int .i64 (0 : Int)), Seg.cell (.int .i64 (0 : Int)), Seg.cell v10 o12.one]) (xs := cellsOf [Seg.cell (.int .i64 16), Seg.cell (.int .i64 1), Seg.cell (.int .i64 1)]) rfl sz106 rfl rfl rfl (len_cellsOf _) (one_cellsOf _) b17 (Spl.segs _ 1 3 [Seg.cell (.int .i64 16), Seg.cell (.int .i64 1), Seg.cell (.int .i64 1)] rfl rfl)) rfl rfl ?_
 rintro _ w28 ⟨b17, q26⟩
 have b5 := b5.wr q26 n22
 have o12 := o12.wr q26 f27
 have fB := fB.wr q26 z19
 refine ol_nil ?_
 refine cw_seq ?_
 refine cw_region ?_
 refine ol_val (v := aggV [Seg.cell (.int .i64 a0), Seg.cell (.int .i64 16), Seg.cell (.int .i64 1), Seg.cell (.int .i64 1), Seg.cell (.int .i64 (0 : Int)), Seg.cell (.int .i64 (0 : Int)), Seg.cell (.int .i64 (0 : Int)), Seg.cell (.int .i64 (0 : Int)), Seg.cell v10 o12.one]) (by exact xr_loadS (ss := [Seg.cell (.int .i64 a0), Seg.cell (.int .i64 16), Seg.cell (.int .i64 1), Seg.cell (.int .i64 1), Seg.cell (.int .i64 (0 : Int)), Seg.cell (.int .i64 (0 : Int)), Seg.cell (.int .i64 (0 : Int)), Seg.cell (.int .i64 (0 : Int)), Seg.cell v10 o12.one]) rfl ag110 sz110 rfl rfl (b17.segs 0 9 rfl)) rfl rfl rfl ?_
 have f30 := off_ty b5 o12 (by decide)
 refine ol_op0 (by exact opv_store (ss' := [Seg.cell (.int .i64 a0), Seg.cell (.int .i64 16), Seg.cell (.int .i64 1), Seg.cell (.int .i64 1), Seg.cell (.int .i64 (0 : Int)), Seg.cell (.int .i64 (0 : Int)), Seg.cell (.int .i64 (0 : Int)), Seg.cell (.int .i64 (0 : Int)), Seg.cell v10 o12.one]) (xs := cellsOf [Seg.cell (.int .i64 a0), Seg.cell (.int .i64 16), Seg.cell (.int .i64 1), Seg.cell (.int .i64 1), Seg.cell (.int .i64 (0 : Int)), Seg.cell (.int .i64 (0 : Int)), Seg.cell (.int .i64 (0 : Int)), Seg.cell (.int .i64 (0 : Int)), Seg.cell v10 o12.one]) rfl sz110 rfl rfl rfl (len_cellsOf _) (one_cellsOf _) b5 (Spl.segs _ 0 9 [Seg.cell (.int .i64 a0), Seg.cell (.int .i64 16), Seg.cell (.int .i64 1), Seg.cell (.int .i64 1), Seg.cell (.int .i64 (0 : Int)), Seg.cell (.int .i64 (0 : Int)), Seg.cell (.int .i64 (0 : Int)), Seg.cell (.int .i64 (0 : Int)), Seg.cell v10 o12.one] rfl rfl)) rfl rfl ?_
 rintro _ w31 ⟨b5, q29⟩
 have o12 := o12.wr q29 f30
 have fB := fB.wr q29 z7
 refine ol_nil ?_
 refine cw_ret ?_
 repeat (first | with_reducible refine thn_r ?_ | with_reducible refine blk_r ?_)
 obtain rfl := Option.some.inj h
 refine fin_cell Try.results112 rfl ag110 sz110 b5 (by rfl) ?_
 exact ⟨_, rfl, v10, o12, rfl, fB⟩
def rickyardlaw16_awake.f (fu : Nat) : Option Bool := ((pmem_New.f fu 2 : Option ((Option S_pmem_Device) × Int)).bind fun t1 => (Option.elim t1.1 (some (false)) (fun m8 => ((rickyardlaw16_least.f fu 4 : Option S_api_Super).bind fun t19 => ((root_Lay.f fu m8 0 t19 : Option (Int × S_pmem_Device)).bind fun t27 => ((rickyardlaw16_least.f fu 5 : Option S_api_Super).bind fun t40 => ((root_Lay.f fu t27.2 1 t40 : Option (Int × S_pmem_Device)).bind fun t48 => ((root_Pick.f fu t48.2 : Option (S_api_Super × Int × Bool)).bind fun t61 => some ((if (decide (t27.1 = 0)) = true then (if (decide (t48.1 = 0)) = true then (if t61.2.2 = true then (if (decide (t61.2.1 = 1)) = true then (decide (t61.1.Epoch = 5)) else false) else false) else false) else false))))))))))
set_option maxRecDepth 100000 in
set_option maxHeartbeats 400000 in
theorem rickyardlaw16_awake.ok (fu : Nat) (w : World)  (r : Bool) (h : rickyardlaw16_awake.f fu = some r) :
  Calls Try.prog 69 (([] : List Value).toArray) w (fun e w' => ∃ v, e = .returned v ∧ v = .bool r ∧ Gr w w') := by
 unfold rickyardlaw16_awake.f at h
 have fB : Gr w w := Fr.refl _ _
 refine calls_cw Try.func69 rfl Try.ntmps69 rfl ?_
 refine cw_seq ?_
 refine cw_region ?_
 refine ol_val (v := .bool false) (by exact xr_assign rfl rfl) rfl rfl rfl ?_
 refine ol_nil ?_
 refine cw_seq ?_
 refine cw_region ?_
 obtain ⟨t1, k2, h⟩ := bs h
 refine ol_op (by exact opv_call rfl cal26 (ac rfl an) (pmem_New.ok fu _ 2 _ k2)) rfl rfl rfl ?_
 rintro _ w6 ⟨u3, p4, rfl, q5⟩
 rcases en h with ⟨e7, h⟩ | ⟨m8, e7, h⟩
 ·obtain rfl := p4.1 e7
  have fB := fB.gr q5
  refine ol_val (v := .tuple #[.pointer none, .int .i64 t1.2]) (by exact xr_move rfl rfl) rfl rfl rfl ?_
  refine ol_val (v := .pointer none) (by exact xr_extract rfl rfl rfl) rfl rfl rfl ?_
  refine ol_val (v := .int .i64 t1.2) (by exact xr_extract rfl rfl rfl) rfl rfl rfl ?_
  refine ol_val (v := .pointer none) (by exact xr_assign rfl rfl) rfl rfl rfl ?_
  refine ol_val (v := .int .i64 t1.2) (by exact xr_assign rfl rfl) rfl rfl rfl ?_
  refine ol_nil ?_
  refine cw_seq ?_
  refine cw_seq ?_
  refine cw_region ?_
  refine ol_val (v := .pointer none) (by exact xr_move rfl rfl) rfl rfl rfl ?_
  refine ol_val (v := .bool true) (by exact xr_eqP (b := true) rfl Try.underlying30 rfl rfl (by simp) (by simp)) rfl rfl rfl ?_
  refine ol_nil ?_
  refine cw_condT rfl rfl ?_
  refine cw_seq ?_
  refine cw_region ?_
  refine ol_val (v := .bool false) (by exact xr_assign rfl rfl) rfl rfl rfl ?_
  refine ol_nil ?_
  refine cw_ret ?_
  repeat (first | with_reducible refine thn_r ?_ | with_reducible refine blk_r ?_)
  obtain rfl := Option.some.inj h
  refine fin_ret1 Try.results69 rfl ?_
  exact ⟨_, rfl, rfl, fB⟩
 obtain ⟨G9, u13, u16, o14, o17, rfl, z10, b11⟩ := p4.2 _ e7
 have o14 := Own.base o14 fB.size
 have o17 := Own.base o17 fB.size
 have z10 := Nat.le_trans fB.size z10
 have fB := fB.gr q5
 refine ol_val (v := .tuple #[.pointer (some ⟨G9, 0, none⟩), .int .i64 t1.2]) (by exact xr_move rfl rfl) rfl rfl rfl ?_
 refine ol_val (v := .pointer (some ⟨G9, 0, none⟩)) (by exact xr_extract rfl rfl rfl) rfl rfl rfl ?_
 refine ol_val (v := .int .i64 t1.2) (by exact xr_extract rfl rfl rfl) rfl rfl rfl ?_
 refine ol_val (v := .pointer (some ⟨G9, 0, none⟩)) (by exact xr_assign rfl rfl) rfl rfl rfl ?_
 refine ol_val (v := .int .i64 t1.2) (by exact xr_assign rfl rfl) rfl rfl rfl ?_
 refine ol_nil ?_
 refine cw_seq ?_
 refine cw_seq ?_
 refine cw_region ?_
 refine ol_val (v := .pointer (some ⟨G9, 0, none⟩)) (by exact xr_move rfl rfl) rfl rfl rfl ?_
 refine ol_val (v := .bool false) (by exact xr_eqP (b := false) rfl Try.underlying30 rfl rfl (by simp) (by simp)) rfl rfl rfl ?_
 refine ol_nil ?_
 refine cw_condF rfl rfl ?_
 refine cw_skip ?_
 refine cw_seq ?_
 refine cw_region ?_
 refine ol_val (v := .pointer (some ⟨G9, 0, none⟩)) (by exact xr_move rfl rfl) rfl rfl rfl ?_
 obtain ⟨t19, k20, h⟩ := bs h
 refine ol_op (by exact opv_call rfl cal112 (ac rfl an) (rickyardlaw16_least.ok fu _ 4 _ k20)) rfl rfl rfl ?_
 rintro _ w25 ⟨u21, o22, rfl, q24⟩
 have a26 := OffV.call o17 o22
 have o22 := Own.base o22 fB.size
 have b11 := b11.gr q24
 have o14 := o14.gr q24
 have o17 := o17.gr q24
 have fB := fB.gr q24
 obtain ⟨t27, k28, h⟩ := bs h
 have c38 : ∀ k, (k = G9 ∨ some k = Value.ownBlock u13 ∨ some k = Value.ownBlock u16) → w.heap.size ≤ k := (cv_or (cv_eq z10) (cv_or (cv_own o14.geO) (cv_own o17.geO)))
 refine ol_op (by exact opv_call rfl cal77 (ac rfl (ac rfl (ac rfl an))) (root_Lay.ok fu _ m8 G9 u13 (Own.base o14 (Nat.zero_le _)) u16 (Own.base o17 (Nat.zero_le _)) b11 0 t19 u21 (o22.rd) (OffR.own o22 (off_ty b11 o22 (by decide))) (OffRV.own o22 (OffV.ty o22 o14 (by decide))) (OffRV.own o22 a26.symm) _ k28)) rfl rfl rfl ?_
 rintro _ w39 ⟨u30, u34, o31, m32, o35, m36, rfl, b11, q29⟩
 have o31 := Own.rebase o31 (fun g hg => (m32 g hg).elim (fun x => Nat.le_trans fB.size x) (c38 g))
 have o35 := Own.rebase o35 (fun g hg => (m36 g hg).elim (fun x => Nat.le_trans fB.size x) (c38 g))
 have fB := fB.call q29 (fun k h => .inl (c38 k h))
 refine ol_val (v := .pointer (some ⟨G9, 0, none⟩)) (by exact xr_move rfl rfl) rfl rfl rfl ?_
 obtain ⟨t40, k41, h⟩ := bs h
 refine ol_op (by exact opv_call rfl cal112 (ac rfl an) (rickyardlaw16_least.ok fu _ 5 _ k41)) rfl rfl rfl ?_
 rintro _ w46 ⟨u42, o43, rfl, q45⟩
 have a47 := OffV.call o35 o43
 have o43 := Own.base o43 fB.size
 have b11 := b11.gr q45
 have o31 := o31.gr q45
 have o35 := o35.gr q45
 have fB := fB.gr q45
 obtain ⟨t48, k49, h⟩ := bs h
 have c59 : ∀ k, (k = G9 ∨ some k = Value.ownBlock u30 ∨ some k = Value.ownBlock u34) → w.heap.size ≤ k := (cv_or (cv_eq z10) (cv_or (cv_own o31.geO) (cv_own o35.geO)))
 refine ol_op (by exact opv_call rfl cal77 (ac rfl (ac rfl (ac rfl an))) (root_Lay.ok fu _ t27.2 G9 u30 (Own.base o31 (Nat.zero_le _)) u34 (Own.base o35 (Nat.zero_le _)) b11 1 t40 u42 (o43.rd) (OffR.own o43 (off_ty b11 o43 (by decide))) (OffRV.own o43 (OffV.ty o43 o31 (by decide))) (OffRV.own o43 a47.symm) _ k49)) rfl rfl rfl ?_
 rintro _ w60 ⟨u51, u55, o52, m53, o56, m57, rfl, b11, q50⟩
 have o52 := Own.rebase o52 (fun g hg => (m53 g hg).elim (fun x => Nat.le_trans fB.size x) (c59 g))
 have o56 := Own.rebase o56 (fun g hg => (m57 g hg).elim (fun x => Nat.le_trans fB.size x) (c59 g))
 have fB := fB.call q50 (fun k h => .inl (c59 k h))
 refine ol_val (v := .int .i64 t27.1) (by exact xr_assign rfl rfl) rfl rfl rfl ?_
 refine ol_val (v := .int .i64 t48.1) (by exact xr_assign rfl rfl) rfl rfl rfl ?_
 refine ol_nil ?_
 refine cw_seq ?_
 refine cw_region ?_
 refine ol_val (v := .pointer (some ⟨G9, 0, none⟩)) (by exact xr_move rfl rfl) rfl rfl rfl ?_
 obtain ⟨t61, k62, h⟩ := bs h
 refine ol_op (by exact opv_call rfl cal72 (ac rfl an) (root_Pick.ok fu _ t48.2 G9 u51 (o52.rd) u55 (o56.rd) b11 _ k62)) rfl rfl rfl ?_
 rintro _ w67 ⟨u63, o64, rfl, q66⟩
 have o64 := Own.base o64 fB.size
 have fB := fB.gr q66
 refine ol_val (v := .tuple #[aggV [Seg.cell (.int .i64 t61.1.Epoch), Seg.cell (.int .i64 t61.1.Tickets.Geometry.Blocks), Seg.cell (.int .i64 t61.1.Tickets.Geometry.Slots), Seg.cell (.int .i64 t61.1.Tickets.Geometry.Gens), Seg.cell (.int .i64 t61.1.Tickets.Top), Seg.cell (.int .i64 t61.1.Tickets.High), Seg.cell (.int .i64 t61.1.Tickets.Free), Seg.cell (.int .i64 t61.1.Dir), Seg.cell u63 o64.one], .int .i64 t61.2.1, .bool t61.2.2]) (by exact xr_move rfl rfl) rfl rfl rfl ?_
 refine ol_val (v := aggV [Seg.cell (.int .i64 t61.1.Epoch), Seg.cell (.int .i64 t61.1.Tickets.Geometry.Blocks), Seg.cell (.int .i64 t61.1.Tickets.Geometry.Slots), Seg.cell (.int .i64 t61.1.Tickets.Geometry.Gens), Seg.cell (.int .i64 t61.1.Tickets.Top), Seg.cell (.int .i64 t61.1.Tickets.High), Seg.cell (.int .i64 t61.1.Tickets.Free), Seg.cell (.int .i64 t61.1.Dir), Seg.cell u63 o64.one]) (by exact xr_extract rfl rfl rfl) rfl rfl rfl ?_
 refine ol_val (v := .int .i64 t61.2.1) (by exact xr_extract rfl rfl rfl) rfl rfl rfl ?_
 refine ol_val (v := .bool t61.2.2) (by exact xr_extract rfl rfl rfl) rfl rfl rfl ?_
 refine ol_op (by exact opv_alloc (ss := [Seg.cell (.int .i64 (0 : Int)), Seg.cell (.int .i64 (0 : Int)), Seg.cell (.int .i64 (0 : Int)), Seg.cell (.int .i64 (0 : Int)), Seg.cell (.int .i64 (0 : Int)), Seg.cell (.int .i64 (0 : Int)), Seg.cell (.int .i64 (0 : Int)), Seg.cell (.int .i64 (0 : Int)), Seg.cell (.slice none 0 0) (by rfl)]) rfl ze110 rfl) rfl rfl rfl ?_
 rintro _ w73 ⟨G68, rfl, b69, q70, z71⟩
 have z71 := Nat.le_trans fB.size z71
 have o64 := o64.gr q70
 have fB := fB.gr q70
 have f75 := off_ty b69 o64 (by decide)
 refine ol_op0 (by exact opv_store (ss' := [Seg.cell (.int .i64 t61.1.Epoch), Seg.cell (.int .i64 t61.1.Tickets.Geometry.Blocks), Seg.cell (.int .i64 t61.1.Tickets.Geometry.Slots), Seg.cell (.int .i64 t61.1.Tickets.Geometry.Gens), Seg.cell (.int .i64 t61.1.Tickets.Top), Seg.cell (.int .i64 t61.1.Tickets.High), Seg.cell (.int .i64 t61.1.Tickets.Free), Seg.cell (.int .i64 t61.1.Dir), Seg.cell u63 o64.one]) (xs := cellsOf [Seg.cell (.int .i64 t61.1.Epoch), Seg.cell (.int .i64 t61.1.Tickets.Geometry.Blocks), Seg.cell (.int .i64 t61.1.Tickets.Geometry.Slots), Seg.cell (.int .i64 t61.1.Tickets.Geometry.Gens), Seg.cell (.int .i64 t61.1.Tickets.Top), Seg.cell (.int .i64 t61.1.Tickets.High), Seg.cell (.int .i64 t61.1.Tickets.Free), Seg.cell (.int .i64 t61.1.Dir), Seg.cell u63 o64.one]) rfl sz110 rfl rfl rfl (len_cellsOf _) (one_cellsOf _) b69 (Spl.segs _ 0 9 [Seg.cell (.int .i64 t61.1.Epoch), Seg.cell (.int .i64 t61.1.Tickets.Geometry.Blocks), Seg.cell (.int .i64 t61.1.Tickets.Geometry.Slots), Seg.cell (.int .i64 t61.1.Tickets.Geometry.Gens), Seg.cell (.int .i64 t61.1.Tickets.Top), Seg.cell (.int .i64 t61.1.Tickets.High), Seg.cell (.int .i64 t61.1.Tickets.Free), Seg.cell (.int .i64 t61.1.Dir), Seg.cell u63 o64.one] rfl rfl)) rfl rfl ?_
 rintro _ w76 ⟨b69, q74⟩
 have o64 := o64.wr q74 f75
 have fB := fB.wr q74 z71
 refine ol_val (v := .int .i64 t61.2.1) (by exact xr_assign rfl rfl) rfl rfl rfl ?_
 refine ol_val (v := .bool t61.2.2) (by exact xr_assign rfl rfl) rfl rfl rfl ?_
 refine ol_nil ?_
 refine cw_seq ?_
 refine cw_mid (fun ρ' w' => ρ' 0 = .bool (if (decide (t27.1 = 0)) = true then (if (decide (t48.1 = 0)) = true then (if t61.2.2 = true then (if (decide (t61.2.1 = 1)) = true then (decide (t61.1.Epoch = 5)) else false) else false) else false) else false) ∧ w76 = w') ?_ ?_
 ·skip
  refine cw_region ?_
  refine ol_val (v := .int .i64 t27.1) (by exact xr_move rfl rfl) rfl rfl rfl ?_
  refine ol_val (v := .bool (decide (t27.1 = 0))) (by exact xr_eqI rfl Try.underlying31 rfl rfl rfl) rfl rfl rfl ?_
  refine ol_val (v := .bool (decide (t27.1 = 0))) (by exact xr_move rfl rfl) rfl rfl rfl ?_
  rcases bt (decide (t27.1 = 0)) with c77 | c77
  ·skip
   refine ol_gval (v := .int .i64 t48.1) (by exact xr_move rfl rfl) rfl rfl rfl rfl rfl c77 ?_
   refine ol_gval (v := .bool (decide (t48.1 = 0))) (by exact xr_eqI rfl Try.underlying31 rfl rfl rfl) rfl rfl rfl rfl rfl c77 ?_
   refine ol_val (v := .bool (decide (t48.1 = 0))) (by exact xr_pickT rfl rfl c77 rfl) rfl rfl rfl ?_
   refine ol_val (v := .bool (decide (t48.1 = 0))) (by exact xr_move rfl rfl) rfl rfl rfl ?_
   rcases bt (decide (t48.1 = 0)) with c78 | c78
   ·skip
    refine ol_gval (v := .bool t61.2.2) (by exact xr_move rfl rfl) rfl rfl rfl rfl rfl c78 ?_
    refine ol_val (v := .bool t61.2.2) (by exact xr_pickT rfl rfl c78 rfl) rfl rfl rfl ?_
    refine ol_val (v := .bool t61.2.2) (by exact xr_move rfl rfl) rfl rfl rfl ?_
    rcases bt t61.2.2 with c79 | c79
    ·skip
     refine ol_gval (v := .int .i64 t61.2.1) (by exact xr_move rfl rfl) rfl rfl rfl rfl rfl c79 ?_
     refine ol_gval (v := .bool (decide (t61.2.1 = 1))) (by exact xr_eqI rfl Try.underlying3 rfl rfl rfl) rfl rfl rfl rfl rfl c79 ?_
     refine ol_val (v := .bool (decide (t61.2.1 = 1))) (by exact xr_pickT rfl rfl c79 rfl) rfl rfl rfl ?_
     refine ol_val (v := .bool (decide (t61.2.1 = 1))) (by exact xr_move rfl rfl) rfl rfl rfl ?_
     rcases bt (decide (t61.2.1 = 1)) with c80 | c80
     ·skip
      refine ol_gval (v := .pointer (some ⟨G68, 0, none⟩)) (by exact xr_fieldAddr (p := 0) (q := 0) rfl fl110_0 rfl) rfl rfl rfl rfl rfl c80 ?_
      refine ol_gval (v := .int .i64 t61.1.Epoch) (by exact xr_load1 (v := .int .i64 t61.1.Epoch) rfl ag3 rfl (b69.seg 0 rfl rfl)) rfl rfl rfl rfl rfl c80 ?_
      refine ol_gval (v := .bool (decide (t61.1.Epoch = 5))) (by exact xr_eqI rfl Try.underlying3 rfl rfl rfl) rfl rfl rfl rfl rfl c80 ?_
      refine ol_val (v := .bool (decide (t61.1.Epoch = 5))) (by exact xr_pickT rfl rfl c80 rfl) rfl rfl rfl ?_
      refine ol_val (v := .bool (decide (t61.1.Epoch = 5))) (by exact xr_assign rfl rfl) rfl rfl rfl ?_
      refine ol_nil ?_
      refine thn_i ?_
      exact ⟨(rfl).trans (congrArg (fun z => (.bool z : Value)) (show (decide (t61.1.Epoch = 5)) = (if (decide (t27.1 = 0)) = true then (if (decide (t48.1 = 0)) = true then (if t61.2.2 = true then (if (decide (t61.2.1 = 1)) = true then (decide (t61.1.Epoch = 5)) else false) else false) else false) else false) from by rw [ite_t c77, ite_t c78, ite_t c79, ite_t c80])), rfl⟩
     refine ol_gskip rfl rfl rfl rfl rfl c80 ?_
     refine ol_gskip rfl rfl rfl rfl rfl c80 ?_
     refine ol_gskip rfl rfl rfl rfl rfl c80 ?_
     refine ol_val (v := .bool false) (by exact xr_pickF rfl rfl c80 rfl) rfl rfl rfl ?_
     refine ol_val (v := .bool false) (by exact xr_assign rfl rfl) rfl rfl rfl ?_
     refine ol_nil ?_
     refine thn_i ?_
     exact ⟨(rfl).trans (congrArg (fun z => (.bool z : Value)) (show false = (if (decide (t27.1 = 0)) = true then (if (decide (t48.1 = 0)) = true then (if t61.2.2 = true then (if (decide (t61.2.1 = 1)) = true then (decide (t61.1.Epoch = 5)) else false) else false) else false) else false) from by rw [ite_t c77, ite_t c78, ite_t c79, ite_f c80])), rfl⟩
    refine ol_gskip rfl rfl rfl rfl rfl c79 ?_
    refine ol_gskip rfl rfl rfl rfl rfl c79 ?_
    refine ol_val (v := .bool false) (by exact xr_pickF rfl rfl c79 rfl) rfl rfl rfl ?_
    refine ol_val (v := .bool false) (by exact xr_move rfl rfl) rfl rfl rfl ?_
    refine ol_gskip rfl rfl rfl rfl rfl rfl ?_
    refine ol_gskip rfl rfl rfl rfl rfl rfl ?_
    refine ol_gskip rfl rfl rfl rfl rfl rfl ?_
    refine ol_val (v := .bool false) (by exact xr_pickF rfl rfl rfl rfl) rfl rfl rfl ?_
    refine ol_val (v := .bool false) (by exact xr_assign rfl rfl) rfl rfl rfl ?_
    refine ol_nil ?_
    refine thn_i ?_
    exact ⟨(rfl).trans (congrArg (fun z => (.bool z : Value)) (show false = (if (decide (t27.1 = 0)) = true then (if (decide (t48.1 = 0)) = true then (if t61.2.2 = true then (if (decide (t61.2.1 = 1)) = true then (decide (t61.1.Epoch = 5)) else false) else false) else false) else false) from by rw [ite_t c77, ite_t c78, ite_f c79])), rfl⟩
   refine ol_gskip rfl rfl rfl rfl rfl c78 ?_
   refine ol_val (v := .bool false) (by exact xr_pickF rfl rfl c78 rfl) rfl rfl rfl ?_
   refine ol_val (v := .bool false) (by exact xr_move rfl rfl) rfl rfl rfl ?_
   refine ol_gskip rfl rfl rfl rfl rfl rfl ?_
   refine ol_gskip rfl rfl rfl rfl rfl rfl ?_
   refine ol_val (v := .bool false) (by exact xr_pickF rfl rfl rfl rfl) rfl rfl rfl ?_
   refine ol_val (v := .bool false) (by exact xr_move rfl rfl) rfl rfl rfl ?_
   refine ol_gskip rfl rfl rfl rfl rfl rfl ?_
   refine ol_gskip rfl rfl rfl rfl rfl rfl ?_
   refine ol_gskip rfl rfl rfl rfl rfl rfl ?_
   refine ol_val (v := .bool false) (by exact xr_pickF rfl rfl rfl rfl) rfl rfl rfl ?_
   refine ol_val (v := .bool false) (by exact xr_assign rfl rfl) rfl rfl rfl ?_
   refine ol_nil ?_
   refine thn_i ?_
   exact ⟨(rfl).trans (congrArg (fun z => (.bool z : Value)) (show false = (if (decide (t27.1 = 0)) = true then (if (decide (t48.1 = 0)) = true then (if t61.2.2 = true then (if (decide (t61.2.1 = 1)) = true then (decide (t61.1.Epoch = 5)) else false) else false) else false) else false) from by rw [ite_t c77, ite_f c78])), rfl⟩
  refine ol_gskip rfl rfl rfl rfl rfl c77 ?_
  refine ol_gskip rfl rfl rfl rfl rfl c77 ?_
  refine ol_val (v := .bool false) (by exact xr_pickF rfl rfl c77 rfl) rfl rfl rfl ?_
  refine ol_val (v := .bool false) (by exact xr_move rfl rfl) rfl rfl rfl ?_
  refine ol_gskip rfl rfl rfl rfl rfl rfl ?_
  refine ol_val (v := .bool false) (by exact xr_pickF rfl rfl rfl rfl) rfl rfl rfl ?_
  refine ol_val (v := .bool false) (by exact xr_move rfl rfl) rfl rfl rfl ?_
  refine ol_gskip rfl rfl rfl rfl rfl rfl ?_
  refine ol_gskip rfl rfl rfl rfl rfl rfl ?_
  refine ol_val (v := .bool false) (by exact xr_pickF rfl rfl rfl rfl) rfl rfl rfl ?_
  refine ol_val (v := .bool false) (by exact xr_move rfl rfl) rfl rfl rfl ?_
  refine ol_gskip rfl rfl rfl rfl rfl rfl ?_
  refine ol_gskip rfl rfl rfl rfl rfl rfl ?_
  refine ol_gskip rfl rfl rfl rfl rfl rfl ?_
  refine ol_val (v := .bool false) (by exact xr_pickF rfl rfl rfl rfl) rfl rfl rfl ?_
  refine ol_val (v := .bool false) (by exact xr_assign rfl rfl) rfl rfl rfl ?_
  refine ol_nil ?_
  refine thn_i ?_
  exact ⟨(rfl).trans (congrArg (fun z => (.bool z : Value)) (show false = (if (decide (t27.1 = 0)) = true then (if (decide (t48.1 = 0)) = true then (if t61.2.2 = true then (if (decide (t61.2.1 = 1)) = true then (decide (t61.1.Epoch = 5)) else false) else false) else false) else false) from by rw [ite_f c77])), rfl⟩
 rintro ρ81 _ ⟨e0, rfl⟩
 refine cw_ret ?_
 repeat (first | with_reducible refine thn_r ?_ | with_reducible refine blk_r ?_)
 obtain rfl := Option.some.inj h
 refine fin_ret1 Try.results69 e0 ?_
 exact ⟨_, rfl, rfl, fB⟩
def rickyardref12_Right.f (fu : Nat) (a0 : S_api_Geometry) : Option Bool := some ((if (decide (a0.Blocks ≥ 16)) = true then (if (decide (a0.Blocks ≤ 3072)) = true then (if (decide (a0.Slots ≥ 1)) = true then (if (decide (a0.Slots ≤ 1792)) = true then (if (decide (a0.Gens ≥ 1)) = true then (decide (a0.Gens ≤ 4294967295)) else false) else false) else false) else false) else false))
set_option maxRecDepth 100000 in
set_option maxHeartbeats 400000 in
theorem rickyardref12_Right.ok (fu : Nat) (w : World) (a0 : S_api_Geometry) (r : Bool) (h : rickyardref12_Right.f fu a0 = some r) :
  Calls Try.prog 115 (([aggV [Seg.cell (.int .i64 a0.Blocks), Seg.cell (.int .i64 a0.Slots), Seg.cell (.int .i64 a0.Gens)]] : List Value).toArray) w (fun e w' => ∃ v, e = .returned v ∧ v = .bool r ∧ Gr w w') := by
 unfold rickyardref12_Right.f at h
 have fB : Gr w w := Fr.refl _ _
 refine calls_cw Try.func115 rfl Try.ntmps115 rfl ?_
 refine cw_seq ?_
 refine cw_region ?_
 refine ol_op (by exact opv_box (ss := [Seg.cell (.int .i64 a0.Blocks), Seg.cell (.int .i64 a0.Slots), Seg.cell (.int .i64 a0.Gens)]) rfl rfl rfl) rfl rfl rfl ?_
 rintro _ w6 ⟨G1, rfl, b2, q3, z4⟩
 have z4 := Nat.le_trans fB.size z4
 have fB := fB.gr q3
 refine ol_val (v := .bool false) (by exact xr_assign rfl rfl) rfl rfl rfl ?_
 refine ol_nil ?_
 refine cw_seq ?_
 refine cw_mid (fun ρ' w' => ρ' 2 = .bool (if (decide (a0.Blocks ≥ 16)) = true then (if (decide (a0.Blocks ≤ 3072)) = true then (if (decide (a0.Slots ≥ 1)) = true then (if (decide (a0.Slots ≤ 1792)) = true then (if (decide (a0.Gens ≥ 1)) = true then (decide (a0.Gens ≤ 4294967295)) else false) else false) else false) else false) else false) ∧ w6 = w') ?_ ?_
 ·skip
  refine cw_region ?_
  refine ol_val (v := .pointer (some ⟨G1, 0, none⟩)) (by exact xr_fieldAddr (p := 0) (q := 0) rfl fl106_0 rfl) rfl rfl rfl ?_
  refine ol_val (v := .int .i64 a0.Blocks) (by exact xr_load1 (v := .int .i64 a0.Blocks) rfl ag3 rfl (b2.seg 0 rfl rfl)) rfl rfl rfl ?_
  refine ol_val (v := .bool (decide (a0.Blocks ≥ 16))) (by exact xr_geq rfl rfl rfl) rfl rfl rfl ?_
  refine ol_val (v := .bool (decide (a0.Blocks ≥ 16))) (by exact xr_move rfl rfl) rfl rfl rfl ?_
  rcases bt (decide (a0.Blocks ≥ 16)) with c7 | c7
  ·skip
   refine ol_gval (v := .pointer (some ⟨G1, 0, none⟩)) (by exact xr_fieldAddr (p := 0) (q := 0) rfl fl106_0 rfl) rfl rfl rfl rfl rfl c7 ?_
   refine ol_gval (v := .int .i64 a0.Blocks) (by exact xr_load1 (v := .int .i64 a0.Blocks) rfl ag3 rfl (b2.seg 0 rfl rfl)) rfl rfl rfl rfl rfl c7 ?_
   refine ol_gval (v := .bool (decide (a0.Blocks ≤ 3072))) (by exact xr_leq rfl rfl rfl) rfl rfl rfl rfl rfl c7 ?_
   refine ol_val (v := .bool (decide (a0.Blocks ≤ 3072))) (by exact xr_pickT rfl rfl c7 rfl) rfl rfl rfl ?_
   refine ol_val (v := .bool (decide (a0.Blocks ≤ 3072))) (by exact xr_move rfl rfl) rfl rfl rfl ?_
   rcases bt (decide (a0.Blocks ≤ 3072)) with c8 | c8
   ·skip
    refine ol_gval (v := .pointer (some ⟨G1, 1, none⟩)) (by exact xr_fieldAddr (p := 0) (q := 1) rfl fl106_1 rfl) rfl rfl rfl rfl rfl c8 ?_
    refine ol_gval (v := .int .i64 a0.Slots) (by exact xr_load1 (v := .int .i64 a0.Slots) rfl ag3 rfl (b2.seg 1 rfl rfl)) rfl rfl rfl rfl rfl c8 ?_
    refine ol_gval (v := .bool (decide (a0.Slots ≥ 1))) (by exact xr_geq rfl rfl rfl) rfl rfl rfl rfl rfl c8 ?_
    refine ol_val (v := .bool (decide (a0.Slots ≥ 1))) (by exact xr_pickT rfl rfl c8 rfl) rfl rfl rfl ?_
    refine ol_val (v := .bool (decide (a0.Slots ≥ 1))) (by exact xr_move rfl rfl) rfl rfl rfl ?_
    rcases bt (decide (a0.Slots ≥ 1)) with c9 | c9
    ·skip
     refine ol_gval (v := .pointer (some ⟨G1, 1, none⟩)) (by exact xr_fieldAddr (p := 0) (q := 1) rfl fl106_1 rfl) rfl rfl rfl rfl rfl c9 ?_
     refine ol_gval (v := .int .i64 a0.Slots) (by exact xr_load1 (v := .int .i64 a0.Slots) rfl ag3 rfl (b2.seg 1 rfl rfl)) rfl rfl rfl rfl rfl c9 ?_
     refine ol_gval (v := .bool (decide (a0.Slots ≤ 1792))) (by exact xr_leq rfl rfl rfl) rfl rfl rfl rfl rfl c9 ?_
     refine ol_val (v := .bool (decide (a0.Slots ≤ 1792))) (by exact xr_pickT rfl rfl c9 rfl) rfl rfl rfl ?_
     refine ol_val (v := .bool (decide (a0.Slots ≤ 1792))) (by exact xr_move rfl rfl) rfl rfl rfl ?_
     rcases bt (decide (a0.Slots ≤ 1792)) with c10 | c10
     ·skip
      refine ol_gval (v := .pointer (some ⟨G1, 2, none⟩)) (by exact xr_fieldAddr (p := 0) (q := 2) rfl fl106_2 rfl) rfl rfl rfl rfl rfl c10 ?_
      refine ol_gval (v := .int .i64 a0.Gens) (by exact xr_load1 (v := .int .i64 a0.Gens) rfl ag3 rfl (b2.seg 2 rfl rfl)) rfl rfl rfl rfl rfl c10 ?_
      refine ol_gval (v := .bool (decide (a0.Gens ≥ 1))) (by exact xr_geq rfl rfl rfl) rfl rfl rfl rfl rfl c10 ?_
      refine ol_val (v := .bool (decide (a0.Gens ≥ 1))) (by exact xr_pickT rfl rfl c10 rfl) rfl rfl rfl ?_
      refine ol_val (v := .bool (decide (a0.Gens ≥ 1))) (by exact xr_move rfl rfl) rfl rfl rfl ?_
      rcases bt (decide (a0.Gens ≥ 1)) with c11 | c11
      ·skip
       refine ol_gval (v := .pointer (some ⟨G1, 2, none⟩)) (by exact xr_fieldAddr (p := 0) (q := 2) rfl fl106_2 rfl) rfl rfl rfl rfl rfl c11 ?_
       refine ol_gval (v := .int .i64 a0.Gens) (by exact xr_load1 (v := .int .i64 a0.Gens) rfl ag3 rfl (b2.seg 2 rfl rfl)) rfl rfl rfl rfl rfl c11 ?_
       refine ol_gval (v := .bool (decide (a0.Gens ≤ 4294967295))) (by exact xr_leq rfl rfl rfl) rfl rfl rfl rfl rfl c11 ?_
       refine ol_val (v := .bool (decide (a0.Gens ≤ 4294967295))) (by exact xr_pickT rfl rfl c11 rfl) rfl rfl rfl ?_
       refine ol_val (v := .bool (decide (a0.Gens ≤ 4294967295))) (by exact xr_assign rfl rfl) rfl rfl rfl ?_
       refine ol_nil ?_
       refine thn_i ?_
       exact ⟨(rfl).trans (congrArg (fun z => (.bool z : Value)) (show (decide (a0.Gens ≤ 4294967295)) = (if (decide (a0.Blocks ≥ 16)) = true then (if (decide (a0.Blocks ≤ 3072)) = true then (if (decide (a0.Slots ≥ 1)) = true then (if (decide (a0.Slots ≤ 1792)) = true then (if (decide (a0.Gens ≥ 1)) = true then (decide (a0.Gens ≤ 4294967295)) else false) else false) else false) else false) else false) from by rw [ite_t c7, ite_t c8, ite_t c9, ite_t c10, ite_t c11])), rfl⟩
      refine ol_gskip rfl rfl rfl rfl rfl c11 ?_
      refine ol_gskip rfl rfl rfl rfl rfl c11 ?_
      refine ol_gskip rfl rfl rfl rfl rfl c11 ?_
      refine ol_val (v := .bool false) (by exact xr_pickF rfl rfl c11 rfl) rfl rfl rfl ?_
      refine ol_val (v := .bool false) (by exact xr_assign rfl rfl) rfl rfl rfl ?_
      refine ol_nil ?_
      refine thn_i ?_
      exact ⟨(rfl).trans (congrArg (fun z => (.bool z : Value)) (show false = (if (decide (a0.Blocks ≥ 16)) = true then (if (decide (a0.Blocks ≤ 3072)) = true then (if (decide (a0.Slots ≥ 1)) = true then (if (decide (a0.Slots ≤ 1792)) = true then (if (decide (a0.Gens ≥ 1)) = true then (decide (a0.Gens ≤ 4294967295)) else false) else false) else false) else false) else false) from by rw [ite_t c7, ite_t c8, ite_t c9, ite_t c10, ite_f c11])), rfl⟩
     refine ol_gskip rfl rfl rfl rfl rfl c10 ?_
     refine ol_gskip rfl rfl rfl rfl rfl c10 ?_
     refine ol_gskip rfl rfl rfl rfl rfl c10 ?_
     refine ol_val (v := .bool false) (by exact xr_pickF rfl rfl c10 rfl) rfl rfl rfl ?_
     refine ol_val (v := .bool false) (by exact xr_move rfl rfl) rfl rfl rfl ?_
     refine ol_gskip rfl rfl rfl rfl rfl rfl ?_
     refine ol_gskip rfl rfl rfl rfl rfl rfl ?_
     refine ol_gskip rfl rfl rfl rfl rfl rfl ?_
     refine ol_val (v := .bool false) (by exact xr_pickF rfl rfl rfl rfl) rfl rfl rfl ?_
     refine ol_val (v := .bool false) (by exact xr_assign rfl rfl) rfl rfl rfl ?_
     refine ol_nil ?_
     refine thn_i ?_
     exact ⟨(rfl).trans (congrArg (fun z => (.bool z : Value)) (show false = (if (decide (a0.Blocks ≥ 16)) = true then (if (decide (a0.Blocks ≤ 3072)) = true then (if (decide (a0.Slots ≥ 1)) = true then (if (decide (a0.Slots ≤ 1792)) = true then (if (decide (a0.Gens ≥ 1)) = true then (decide (a0.Gens ≤ 4294967295)) else false) else false) else false) else false) else false) from by rw [ite_t c7, ite_t c8, ite_t c9, ite_f c10])), rfl⟩
    refine ol_gskip rfl rfl rfl rfl rfl c9 ?_
    refine ol_gskip rfl rfl rfl rfl rfl c9 ?_
    refine ol_gskip rfl rfl rfl rfl rfl c9 ?_
    refine ol_val (v := .bool false) (by exact xr_pickF rfl rfl c9 rfl) rfl rfl rfl ?_
    refine ol_val (v := .bool false) (by exact xr_move rfl rfl) rfl rfl rfl ?_
    refine ol_gskip rfl rfl rfl rfl rfl rfl ?_
    refine ol_gskip rfl rfl rfl rfl rfl rfl ?_
    refine ol_gskip rfl rfl rfl rfl rfl rfl ?_
    refine ol_val (v := .bool false) (by exact xr_pickF rfl rfl rfl rfl) rfl rfl rfl ?_
    refine ol_val (v := .bool false) (by exact xr_move rfl rfl) rfl rfl rfl ?_
    refine ol_gskip rfl rfl rfl rfl rfl rfl ?_
    refine ol_gskip rfl rfl rfl rfl rfl rfl ?_
    refine ol_gskip rfl rfl rfl rfl rfl rfl ?_
    refine ol_val (v := .bool false) (by exact xr_pickF rfl rfl rfl rfl) rfl rfl rfl ?_
    refine ol_val (v := .bool false) (by exact xr_assign rfl rfl) rfl rfl rfl ?_
    refine ol_nil ?_
    refine thn_i ?_
    exact ⟨(rfl).trans (congrArg (fun z => (.bool z : Value)) (show false = (if (decide (a0.Blocks ≥ 16)) = true then (if (decide (a0.Blocks ≤ 3072)) = true then (if (decide (a0.Slots ≥ 1)) = true then (if (decide (a0.Slots ≤ 1792)) = true then (if (decide (a0.Gens ≥ 1)) = true then (decide (a0.Gens ≤ 4294967295)) else false) else false) else false) else false) else false) from by rw [ite_t c7, ite_t c8, ite_f c9])), rfl⟩
   refine ol_gskip rfl rfl rfl rfl rfl c8 ?_
   refine ol_gskip rfl rfl rfl rfl rfl c8 ?_
   refine ol_gskip rfl rfl rfl rfl rfl c8 ?_
   refine ol_val (v := .bool false) (by exact xr_pickF rfl rfl c8 rfl) rfl rfl rfl ?_
   refine ol_val (v := .bool false) (by exact xr_move rfl rfl) rfl rfl rfl ?_
   refine ol_gskip rfl rfl rfl rfl rfl rfl ?_
   refine ol_gskip rfl rfl rfl rfl rfl rfl ?_
   refine ol_gskip rfl rfl rfl rfl rfl rfl ?_
   refine ol_val (v := .bool false) (by exact xr_pickF rfl rfl rfl rfl) rfl rfl rfl ?_
   refine ol_val (v := .bool false) (by exact xr_move rfl rfl) rfl rfl rfl ?_
   refine ol_gskip rfl rfl rfl rfl rfl rfl ?_
   refine ol_gskip rfl rfl rfl rfl rfl rfl ?_
   refine ol_gskip rfl rfl rfl rfl rfl rfl ?_
   refine ol_val (v := .bool false) (by exact xr_pickF rfl rfl rfl rfl) rfl rfl rfl ?_
   refine ol_val (v := .bool false) (by exact xr_move rfl rfl) rfl rfl rfl ?_
   refine ol_gskip rfl rfl rfl rfl rfl rfl ?_
   refine ol_gskip rfl rfl rfl rfl rfl rfl ?_
   refine ol_gskip rfl rfl rfl rfl rfl rfl ?_
   refine ol_val (v := .bool false) (by exact xr_pickF rfl rfl rfl rfl) rfl rfl rfl ?_
   refine ol_val (v := .bool false) (by exact xr_assign rfl rfl) rfl rfl rfl ?_
   refine ol_nil ?_
   refine thn_i ?_
   exact ⟨(rfl).trans (congrArg (fun z => (.bool z : Value)) (show false = (if (decide (a0.Blocks ≥ 16)) = true then (if (decide (a0.Blocks ≤ 3072)) = true then (if (decide (a0.Slots ≥ 1)) = true then (if (decide (a0.Slots ≤ 1792)) = true then (if (decide (a0.Gens ≥ 1)) = true then (decide (a0.Gens ≤ 4294967295)) else false) else false) else false) else false) else false) from by rw [ite_t c7, ite_f c8])), rfl⟩
  refine ol_gskip rfl rfl rfl rfl rfl c7 ?_
  refine ol_gskip rfl rfl rfl rfl rfl c7 ?_
  refine ol_gskip rfl rfl rfl rfl rfl c7 ?_
  refine ol_val (v := .bool false) (by exact xr_pickF rfl rfl c7 rfl) rfl rfl rfl ?_
  refine ol_val (v := .bool false) (by exact xr_move rfl rfl) rfl rfl rfl ?_
  refine ol_gskip rfl rfl rfl rfl rfl rfl ?_
  refine ol_gskip rfl rfl rfl rfl rfl rfl ?_
  refine ol_gskip rfl rfl rfl rfl rfl rfl ?_
  refine ol_val (v := .bool false) (by exact xr_pickF rfl rfl rfl rfl) rfl rfl rfl ?_
  refine ol_val (v := .bool false) (by exact xr_move rfl rfl) rfl rfl rfl ?_
  refine ol_gskip rfl rfl rfl rfl rfl rfl ?_
  refine ol_gskip rfl rfl rfl rfl rfl rfl ?_
  refine ol_gskip rfl rfl rfl rfl rfl rfl ?_
  refine ol_val (v := .bool false) (by exact xr_pickF rfl rfl rfl rfl) rfl rfl rfl ?_
  refine ol_val (v := .bool false) (by exact xr_move rfl rfl) rfl rfl rfl ?_
  refine ol_gskip rfl rfl rfl rfl rfl rfl ?_
  refine ol_gskip rfl rfl rfl rfl rfl rfl ?_
  refine ol_gskip rfl rfl rfl rfl rfl rfl ?_
  refine ol_val (v := .bool false) (by exact xr_pickF rfl rfl rfl rfl) rfl rfl rfl ?_
  refine ol_val (v := .bool false) (by exact xr_move rfl rfl) rfl rfl rfl ?_
  refine ol_gskip rfl rfl rfl rfl rfl rfl ?_
  refine ol_gskip rfl rfl rfl rfl rfl rfl ?_
  refine ol_gskip rfl rfl rfl rfl rfl rfl ?_
  refine ol_val (v := .bool false) (by exact xr_pickF rfl rfl rfl rfl) rfl rfl rfl ?_
  refine ol_val (v := .bool false) (by exact xr_assign rfl rfl) rfl rfl rfl ?_
  refine ol_nil ?_
  refine thn_i ?_
  exact ⟨(rfl).trans (congrArg (fun z => (.bool z : Value)) (show false = (if (decide (a0.Blocks ≥ 16)) = true then (if (decide (a0.Blocks ≤ 3072)) = true then (if (decide (a0.Slots ≥ 1)) = true then (if (decide (a0.Slots ≤ 1792)) = true then (if (decide (a0.Gens ≥ 1)) = true then (decide (a0.Gens ≤ 4294967295)) else false) else false) else false) else false) else false) from by rw [ite_f c7])), rfl⟩
 rintro ρ12 _ ⟨e2, rfl⟩
 refine cw_ret ?_
 repeat (first | with_reducible refine thn_r ?_ | with_reducible refine blk_r ?_)
 obtain rfl := Option.some.inj h
 refine fin_ret1 Try.results115 e2 ?_
 exact ⟨_, rfl, rfl, fB⟩
def rickyardref12_Need.s0 (fu : Nat) (a0 : Int) (a1 : Int) : Int → Option (Sum Int Int) := fun s1 => (if (decide ((IntKind.i64.wrap (s1 * a1)) < a0)) = true then some (Sum.inr ((IntKind.i64.wrap (s1 + 1)))) else some (Sum.inl (s1)))
def rickyardref12_Need.f (fu : Nat) (a0 : Int) (a1 : Int) : Option Int := ((loopM (rickyardref12_Need.s0 fu a0 a1) fu (0)).bind fun e2 => some (e2))
set_option maxRecDepth 100000 in
set_option maxHeartbeats 400000 in
theorem rickyardref12_Need.ok (fu : Nat) (w : World) (a0 : Int) (a1 : Int) (r : Int) (h : rickyardref12_Need.f fu a0 a1 = some r) :
  Calls Try.prog 136 (([.int .i64 a0, .int .i64 a1] : List Value).toArray) w (fun e w' => ∃ v, e = .returned v ∧ v = .int .i64 r ∧ Gr w w') := by
 unfold rickyardref12_Need.f at h
 have fB : Gr w w := Fr.refl _ _
 refine calls_cw Try.func136 rfl Try.ntmps136 rfl ?_
 refine cw_seq ?_
 refine cw_region ?_
 refine ol_val (v := .int .i64 0) (by exact xr_assign rfl rfl) rfl rfl rfl ?_
 refine ol_nil ?_
 refine cw_seq ?_
 refine cw_region ?_
 refine ol_val (v := .int .i64 0) (by exact xr_assign rfl rfl) rfl rfl rfl ?_
 refine ol_nil ?_
 refine cw_seq ?_
 obtain ⟨e2, l3, h4⟩ := bs h
 refine cw_mid (fun ρ' w' => ρ' 5 = .int .i64 e2 ∧ Gr w w') ?_ ?_
 ·refine cw_block ?_
  refine cw_round (fun (s1 : Int) ρ' w' => ρ' 0 = .int .i64 a0 ∧ ρ' 1 = .int .i64 a1 ∧ ρ' 5 = .int .i64 s1 ∧ Gr w w') l3 ?_ ?_
  ·skip
   exact ⟨rfl, rfl, rfl, fB⟩
  rintro s1 x7 ρ5 w6 ⟨e0, e1, e5, fB⟩ h
  unfold rickyardref12_Need.s0 at h
  refine cw_seq ?_
  refine cw_seq ?_
  refine cw_region ?_
  refine ol_val (v := .int .i64 s1) (by exact xr_move rfl e5) rfl rfl rfl ?_
  refine ol_val (v := .int .i64 a1) (by exact xr_move rfl e1) rfl rfl rfl ?_
  refine ol_val (v := .int .i64 (IntKind.i64.wrap (s1 * a1))) (by exact xr_mul rfl rfl rfl) rfl rfl rfl ?_
  refine ol_val (v := .int .i64 a0) (by exact xr_move rfl e0) rfl rfl rfl ?_
  refine ol_val (v := .bool (decide ((IntKind.i64.wrap (s1 * a1)) < a0))) (by exact xr_lss rfl rfl rfl) rfl rfl rfl ?_
  refine ol_nil ?_
  rcases is h with ⟨c8, h⟩ | ⟨c8, h⟩
  ·refine cw_condT rfl c8 ?_
   refine cw_skip ?_
   refine cw_block ?_
   refine cw_region ?_
   refine ol_val (v := .int .i64 s1) (by exact xr_move rfl e5) rfl rfl rfl ?_
   refine ol_val (v := .int .i64 (IntKind.i64.wrap (s1 + 1))) (by exact xr_add rfl rfl rfl) rfl rfl rfl ?_
   refine ol_val (v := .int .i64 (IntKind.i64.wrap (s1 + 1))) (by exact xr_assign rfl rfl) rfl rfl rfl ?_
   refine ol_nil ?_
   refine blk_i ?_
   obtain rfl := Option.some.inj h
   refine lp_in ?_
   exact ⟨e0, e1, rfl, fB⟩
  refine cw_condF rfl c8 ?_
  refine cw_exit ?_
  repeat (first | with_reducible refine thn_e ?_ | with_reducible refine blk_e rfl ?_)
  obtain rfl := Option.some.inj h
  refine lp_exit ?_
  rintro rfl
  refine thn_x ?_
  exact ⟨e5, fB⟩
 rintro ρ9 w10 ⟨e5, fB⟩
 have h := h4
 refine cw_seq ?_
 refine cw_region ?_
 refine ol_val (v := .int .i64 e2) (by exact xr_move rfl e5) rfl rfl rfl ?_
 refine ol_val (v := .int .i64 e2) (by exact xr_assign rfl rfl) rfl rfl rfl ?_
 refine ol_nil ?_
 refine cw_ret ?_
 repeat (first | with_reducible refine thn_r ?_ | with_reducible refine blk_r ?_)
 obtain rfl := Option.some.inj h
 refine fin_ret1 Try.results136 rfl ?_
 exact ⟨_, rfl, rfl, fB⟩
def rickyardref12_Charts.f (fu : Nat) (a0 : S_api_Geometry) : Option Int := ((rickyardref12_Need.f fu a0.Blocks 384 : Option Int).bind fun t7 => some (t7))
set_option maxRecDepth 100000 in
set_option maxHeartbeats 400000 in
theorem rickyardref12_Charts.ok (fu : Nat) (w : World) (a0 : S_api_Geometry) (r : Int) (h : rickyardref12_Charts.f fu a0 = some r) :
  Calls Try.prog 116 (([aggV [Seg.cell (.int .i64 a0.Blocks), Seg.cell (.int .i64 a0.Slots), Seg.cell (.int .i64 a0.Gens)]] : List Value).toArray) w (fun e w' => ∃ v, e = .returned v ∧ v = .int .i64 r ∧ Gr w w') := by
 unfold rickyardref12_Charts.f at h
 have fB : Gr w w := Fr.refl _ _
 refine calls_cw Try.func116 rfl Try.ntmps116 rfl ?_
 refine cw_seq ?_
 refine cw_region ?_
 refine ol_op (by exact opv_box (ss := [Seg.cell (.int .i64 a0.Blocks), Seg.cell (.int .i64 a0.Slots), Seg.cell (.int .i64 a0.Gens)]) rfl rfl rfl) rfl rfl rfl ?_
 rintro _ w6 ⟨G1, rfl, b2, q3, z4⟩
 have z4 := Nat.le_trans fB.size z4
 have fB := fB.gr q3
 refine ol_val (v := .int .i64 0) (by exact xr_assign rfl rfl) rfl rfl rfl ?_
 refine ol_nil ?_
 refine cw_seq ?_
 refine cw_region ?_
 refine ol_val (v := .pointer (some ⟨G1, 0, none⟩)) (by exact xr_fieldAddr (p := 0) (q := 0) rfl fl106_0 rfl) rfl rfl rfl ?_
 refine ol_val (v := .int .i64 a0.Blocks) (by exact xr_load1 (v := .int .i64 a0.Blocks) rfl ag3 rfl (b2.seg 0 rfl rfl)) rfl rfl rfl ?_
 obtain ⟨t7, k8, h⟩ := bs h
 refine ol_op (by exact opv_call rfl cal136 (ac rfl (ac rfl an)) (rickyardref12_Need.ok fu _ a0.Blocks 384 _ k8)) rfl rfl rfl ?_
 rintro _ w10 ⟨rfl, q9⟩
 have fB := fB.gr q9
 refine ol_val (v := .int .i64 t7) (by exact xr_assign rfl rfl) rfl rfl rfl ?_
 refine ol_nil ?_
 refine cw_ret ?_
 repeat (first | with_reducible refine thn_r ?_ | with_reducible refine blk_r ?_)
 obtain rfl := Option.some.inj h
 refine fin_ret1 Try.results116 rfl ?_
 exact ⟨_, rfl, rfl, fB⟩
end Go.Proofs.Ytklhbaghbmndeaa
