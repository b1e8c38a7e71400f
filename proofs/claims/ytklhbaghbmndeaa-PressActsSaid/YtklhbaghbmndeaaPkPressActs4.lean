/- PressActs: texts merged, part 4 of 8. The last part proves that the law PressActs holds for every input. -/
import Derived.Test.YtklhbaghbmndeaaPkPressActs3
set_option linter.unusedVariables false
set_option linter.unusedSimpArgs false
namespace Go.Proofs.Ytklhbaghbmndeaa
open Go Go.Xw
def rickyardlaw05_Do.f (fu : Nat) (a0 : S_pmem_Device) (a1 : S_rickyardlaw05_Act) : Option (Int × Int × S_pmem_Device) := ((rickyardref01_Rest.f fu a1.Kind 7 : Option Int).bind fun t15 => (if (decide (t15 = 0)) = true then ((pmem_Device_Store.f fu a0 a1.At a1.W : Option (Int × S_pmem_Device)).bind fun t20 => some (0, t20.1, t20.2)) else (if (decide (t15 = 1)) = true then ((pmem_Device_Load.f fu a0 a1.At : Option (Int × Int)).bind fun t34 => some (t34.1, t34.2, a0)) else (if (decide (t15 = 2)) = true then ((pmem_Device_Flush.f fu a0 a1.At : Option (Int × S_pmem_Device)).bind fun t39 => some (0, t39.1, t39.2)) else (if (decide (t15 = 3)) = true then ((pmem_Device_Fence.f fu a0 : Option (Int × S_pmem_Device)).bind fun t53 => some (0, t53.1, t53.2)) else (((if (decide (t15 = 4)) = true then ((pmem_Device_Arm.f fu a0 a1.At : Option S_pmem_Device).bind fun t78 => some (a0.cells, a0.plan.list, t78.plan.at_, t78.off, t78.armed, t78.left, t78.steps)) else (((if (decide (t15 = 5)) = true then ((pmem_Device_Plan.f fu a0 a1.L : Option S_pmem_Device).bind fun t96 => some (t96.cells, t96.plan.list, t96.plan.at_, t96.off, t96.armed, t96.left, t96.steps)) else (((if (decide (t15 = 6)) = true then ((pmem_Device_Crash.f fu a0 a1.L : Option S_pmem_Device).bind fun t122 => some (t122.cells, t122.plan.list, t122.plan.at_, t122.off, t122.armed, t122.left, t122.steps)) else some (a0.cells, a0.plan.list, a0.plan.at_, a0.off, a0.armed, a0.left, a0.steps)) : Option ((List S_pmem_cell) × (List Int) × Int × Bool × Bool × Int × Int)).bind fun x110 => some (x110.1, x110.2.1, x110.2.2.1, x110.2.2.2.1, x110.2.2.2.2.1, x110.2.2.2.2.2.1, x110.2.2.2.2.2.2))) : Option ((List S_pmem_cell) × (List Int) × Int × Bool × Bool × Int × Int)).bind fun x84 => some (x84.1, x84.2.1, x84.2.2.1, x84.2.2.2.1, x84.2.2.2.2.1, x84.2.2.2.2.2.1, x84.2.2.2.2.2.2))) : Option ((List S_pmem_cell) × (List Int) × Int × Bool × Bool × Int × Int)).bind fun x66 => some (0, 0, (⟨x66.1, (⟨x66.2.1, x66.2.2.1⟩ : S_pmem_plan), x66.2.2.2.1, x66.2.2.2.2.1, x66.2.2.2.2.2.1, x66.2.2.2.2.2.2⟩ : S_pmem_Device))))))))
set_option maxRecDepth 100000 in
set_option maxHeartbeats 400000 in
theorem rickyardlaw05_Do.ok (fu : Nat) (w : World) (a0 : S_pmem_Device) (G_0 : Nat) (V0_0 : Value) (O0_0 : Own k_pmem_cell 142 w 0 V0_0 a0.cells) (V0_1 : Value) (O0_1 : Own (kI .i64) 3 w 0 V0_1 a0.plan.list) (b_0 : Blk w G_0 139 [Seg.cell V0_0 O0_0.one, Seg.cell V0_1 O0_1.one, Seg.cell (.int .i64 a0.plan.at_), Seg.cell (.bool a0.off), Seg.cell (.bool a0.armed), Seg.cell (.int .i64 a0.left), Seg.cell (.int .i64 a0.steps)]) (a1 : S_rickyardlaw05_Act) (V1_0 : Value) (R1_0 : Rd (kI .i64) w V1_0 a1.L) (NR1_0_P0 : OffR V1_0 a1.L G_0) (NR1_0_R0_0 : OffRV V1_0 a1.L V0_0) (NR1_0_R0_1 : OffRV V1_0 a1.L V0_1) (r : Int × Int × S_pmem_Device) (h : rickyardlaw05_Do.f fu a0 a1 = some r) :
  Calls Try.prog 31 (([.pointer (some ⟨G_0, 0, none⟩), aggV [Seg.cell (.int .i64 a1.Kind), Seg.cell (.int .i64 a1.At), Seg.cell (.int .u64 a1.W), Seg.cell V1_0 R1_0.one]] : List Value).toArray) w (fun e w' => ∃ v, e = .returned v ∧ ∃ u1 : Value, ∃ u4 : Value, ∃ o2 : Own k_pmem_cell 142 w' 0 u1 r.2.2.cells, ∃ m3 : ∀ g, Value.ownBlock u1 = some g → w.heap.size ≤ g ∨ (g = G_0 ∨ some g = Value.ownBlock V0_0 ∨ some g = Value.ownBlock V0_1), ∃ o5 : Own (kI .i64) 3 w' 0 u4 r.2.2.plan.list, ∃ m6 : ∀ g, Value.ownBlock u4 = some g → w.heap.size ≤ g ∨ (g = G_0 ∨ some g = Value.ownBlock V0_0 ∨ some g = Value.ownBlock V0_1), v = .tuple #[.int .u64 r.1, .int .i64 r.2.1] ∧ Blk w' G_0 139 [Seg.cell u1 o2.one, Seg.cell u4 o5.one, Seg.cell (.int .i64 r.2.2.plan.at_), Seg.cell (.bool r.2.2.off), Seg.cell (.bool r.2.2.armed), Seg.cell (.int .i64 r.2.2.left), Seg.cell (.int .i64 r.2.2.steps)] ∧ Fr (fun j => j = G_0 ∨ some j = Value.ownBlock V0_0 ∨ some j = Value.ownBlock V0_1) w w') := by
 unfold rickyardlaw05_Do.f at h
 have fB : Fr (fun j => j = G_0 ∨ some j = Value.ownBlock V0_0 ∨ some j = Value.ownBlock V0_1) w w := Fr.refl _ _
 have M0_0 : ∀ g, Value.ownBlock V0_0 = some g → w.heap.size ≤ g ∨ (g = G_0 ∨ some g = Value.ownBlock V0_0 ∨ some g = Value.ownBlock V0_1) := fun g hg => .inr (.inr (.inl hg.symm))
 have M0_1 : ∀ g, Value.ownBlock V0_1 = some g → w.heap.size ≤ g ∨ (g = G_0 ∨ some g = Value.ownBlock V0_0 ∨ some g = Value.ownBlock V0_1) := fun g hg => .inr (.inr (.inr hg.symm))
 refine calls_cw Try.func31 rfl Try.ntmps31 rfl ?_
 refine cw_seq ?_
 refine cw_region ?_
 refine ol_op (by exact opv_box (ss := [Seg.cell (.int .i64 a1.Kind), Seg.cell (.int .i64 a1.At), Seg.cell (.int .u64 a1.W), Seg.cell V1_0 R1_0.one]) rfl rfl rfl) rfl rfl rfl ?_
 rintro _ w12 ⟨G7, rfl, b8, q9, z10⟩
 have n13 := b_0.ne z10
 have a14 := OffR.new R1_0 z10 rfl
 have z10 := Nat.le_trans fB.size z10
 have b_0 := b_0.gr q9
 have O0_0 := O0_0.gr q9
 have O0_1 := O0_1.gr q9
 have R1_0 := R1_0.gr q9
 have fB := fB.gr q9
 refine ol_val (v := .int .u64 0) (by exact xr_assign rfl rfl) rfl rfl rfl ?_
 refine ol_val (v := .int .i64 0) (by exact xr_assign rfl rfl) rfl rfl rfl ?_
 refine ol_nil ?_
 refine cw_seq ?_
 refine cw_seq ?_
 refine cw_region ?_
 refine ol_val (v := .pointer (some ⟨G7, 0, none⟩)) (by exact xr_fieldAddr (p := 0) (q := 0) rfl fl39_0 rfl) rfl rfl rfl ?_
 refine ol_val (v := .int .i64 a1.Kind) (by exact xr_load1 (v := .int .i64 a1.Kind) rfl ag3 rfl (b8.seg 0 rfl rfl)) rfl rfl rfl ?_
 obtain ⟨t15, k16, h⟩ := bs h
 refine ol_op (by exact opv_call rfl cal27 (ac rfl (ac rfl an)) (rickyardref01_Rest.ok fu _ a1.Kind 7 _ k16)) rfl rfl rfl ?_
 rintro _ w18 ⟨rfl, q17⟩
 have b_0 := b_0.gr q17
 have b8 := b8.gr q17
 have O0_0 := O0_0.gr q17
 have O0_1 := O0_1.gr q17
 have R1_0 := R1_0.gr q17
 have fB := fB.gr q17
 refine ol_nil ?_
 refine cw_block ?_
 refine cw_seq ?_
 refine cw_region ?_
 refine ol_val (v := .bool (decide (t15 = 0))) (by exact xr_eqI rfl Try.underlying3 rfl rfl rfl) rfl rfl rfl ?_
 refine ol_val (v := .bool (decide (t15 = 0))) (by exact xr_assign rfl rfl) rfl rfl rfl ?_
 refine ol_nil ?_
 rcases is h with ⟨c19, h⟩ | ⟨c19, h⟩
 ·refine cw_condT rfl c19 ?_
  refine cw_seq ?_
  refine cw_region ?_
  refine ol_val (v := .pointer (some ⟨G_0, 0, none⟩)) (by exact xr_move rfl rfl) rfl rfl rfl ?_
  refine ol_val (v := .pointer (some ⟨G7, 1, none⟩)) (by exact xr_fieldAddr (p := 0) (q := 1) rfl fl39_1 rfl) rfl rfl rfl ?_
  refine ol_val (v := .int .i64 a1.At) (by exact xr_load1 (v := .int .i64 a1.At) rfl ag3 rfl (b8.seg 1 rfl rfl)) rfl rfl rfl ?_
  refine ol_val (v := .pointer (some ⟨G7, 2, none⟩)) (by exact xr_fieldAddr (p := 0) (q := 2) rfl fl39_2 rfl) rfl rfl rfl ?_
  refine ol_val (v := .int .u64 a1.W) (by exact xr_load1 (v := .int .u64 a1.W) rfl ag22 rfl (b8.seg 2 rfl rfl)) rfl rfl rfl ?_
  obtain ⟨t20, k21, h⟩ := bs h
  have c31 : ∀ k, (k = G_0 ∨ some k = Value.ownBlock V0_0 ∨ some k = Value.ownBlock V0_1) → (w.heap.size ≤ k ∨ (k = G_0 ∨ some k = Value.ownBlock V0_0 ∨ some k = Value.ownBlock V0_1)) := (cv_or (cv_eq (.inr (.inl rfl))) (cv_or (cv_own M0_0) (cv_own M0_1)))
  refine ol_op (by exact opv_call rfl cal28 (ac rfl (ac rfl (ac rfl an))) (pmem_Device_Store.ok fu _ a0 G_0 V0_0 (Own.base O0_0 (Nat.zero_le _)) V0_1 (Own.base O0_1 (Nat.zero_le _)) b_0 a1.At a1.W _ k21)) rfl rfl rfl ?_
  rintro _ w32 ⟨u23, u27, o24, m25, o28, m29, rfl, b_0, q22⟩
  have m25 : ∀ g, Value.ownBlock u23 = some g → w.heap.size ≤ g ∨ (g = G_0 ∨ some g = Value.ownBlock V0_0 ∨ some g = Value.ownBlock V0_1) := fun g hg => (m25 g hg).elim (fun x => .inl (Nat.le_trans fB.size x)) (c31 g)
  have m29 : ∀ g, Value.ownBlock u27 = some g → w.heap.size ≤ g ∨ (g = G_0 ∨ some g = Value.ownBlock V0_0 ∨ some g = Value.ownBlock V0_1) := fun g hg => (m29 g hg).elim (fun x => .inl (Nat.le_trans fB.size x)) (c31 g)
  have fB := fB.call q22 c31
  refine ol_val (v := .int .u64 0) (by exact xr_assign rfl rfl) rfl rfl rfl ?_
  refine ol_val (v := .int .i64 t20.1) (by exact xr_assign rfl rfl) rfl rfl rfl ?_
  refine ol_nil ?_
  refine cw_ret ?_
  repeat (first | with_reducible refine thn_r ?_ | with_reducible refine blk_r ?_)
  obtain rfl := Option.some.inj h
  refine fin_ret2 Try.results31 rfl rfl ?_
  exact ⟨_, rfl, u23, u27, o24, m25, o28, m29, rfl, b_0, fB⟩
 refine cw_condF rfl c19 ?_
 refine cw_seq ?_
 refine cw_region ?_
 refine ol_val (v := .bool (decide (t15 = 1))) (by exact xr_eqI rfl Try.underlying3 rfl rfl rfl) rfl rfl rfl ?_
 refine ol_val (v := .bool (decide (t15 = 1))) (by exact xr_assign rfl rfl) rfl rfl rfl ?_
 refine ol_nil ?_
 rcases is h with ⟨c33, h⟩ | ⟨c33, h⟩
 ·refine cw_condT rfl c33 ?_
  refine cw_seq ?_
  refine cw_region ?_
  refine ol_val (v := .pointer (some ⟨G_0, 0, none⟩)) (by exact xr_move rfl rfl) rfl rfl rfl ?_
  refine ol_val (v := .pointer (some ⟨G7, 1, none⟩)) (by exact xr_fieldAddr (p := 0) (q := 1) rfl fl39_1 rfl) rfl rfl rfl ?_
  refine ol_val (v := .int .i64 a1.At) (by exact xr_load1 (v := .int .i64 a1.At) rfl ag3 rfl (b8.seg 1 rfl rfl)) rfl rfl rfl ?_
  obtain ⟨t34, k35, h⟩ := bs h
  refine ol_op (by exact opv_call rfl cal82 (ac rfl (ac rfl an)) (pmem_Device_Load.ok fu _ a0 G_0 V0_0 (O0_0.rd) V0_1 (O0_1.rd) b_0 a1.At _ k35)) rfl rfl rfl ?_
  rintro _ w37 ⟨rfl, q36⟩
  have b_0 := b_0.gr q36
  have O0_0 := O0_0.gr q36
  have O0_1 := O0_1.gr q36
  have fB := fB.gr q36
  refine ol_val (v := .int .u64 t34.1) (by exact xr_extract rfl rfl rfl) rfl rfl rfl ?_
  refine ol_val (v := .int .i64 t34.2) (by exact xr_extract rfl rfl rfl) rfl rfl rfl ?_
  refine ol_val (v := .int .u64 t34.1) (by exact xr_assign rfl rfl) rfl rfl rfl ?_
  refine ol_val (v := .int .i64 t34.2) (by exact xr_assign rfl rfl) rfl rfl rfl ?_
  refine ol_nil ?_
  refine cw_ret ?_
  repeat (first | with_reducible refine thn_r ?_ | with_reducible refine blk_r ?_)
  obtain rfl := Option.some.inj h
  refine fin_ret2 Try.results31 rfl rfl ?_
  exact ⟨_, rfl, V0_0, V0_1, O0_0, M0_0, O0_1, M0_1, rfl, b_0, fB⟩
 refine cw_condF rfl c33 ?_
 refine cw_seq ?_
 refine cw_region ?_
 refine ol_val (v := .bool (decide (t15 = 2))) (by exact xr_eqI rfl Try.underlying3 rfl rfl rfl) rfl rfl rfl ?_
 refine ol_val (v := .bool (decide (t15 = 2))) (by exact xr_assign rfl rfl) rfl rfl rfl ?_
 refine ol_nil ?_
 rcases is h with ⟨c38, h⟩ | ⟨c38, h⟩
 ·refine cw_condT rfl c38 ?_
  refine cw_seq ?_
  refine cw_region ?_
  refine ol_val (v := .pointer (some ⟨G_0, 0, none⟩)) (by exact xr_move rfl rfl) rfl rfl rfl ?_
  refine ol_val (v := .pointer (some ⟨G7, 1, none⟩)) (by exact xr_fieldAddr (p := 0) (q := 1) rfl fl39_1 rfl) rfl rfl rfl ?_
  refine ol_val (v := .int .i64 a1.At) (by exact xr_load1 (v := .int .i64 a1.At) rfl ag3 rfl (b8.seg 1 rfl rfl)) rfl rfl rfl ?_
  obtain ⟨t39, k40, h⟩ := bs h
  have c50 : ∀ k, (k = G_0 ∨ some k = Value.ownBlock V0_0 ∨ some k = Value.ownBlock V0_1) → (w.heap.size ≤ k ∨ (k = G_0 ∨ some k = Value.ownBlock V0_0 ∨ some k = Value.ownBlock V0_1)) := (cv_or (cv_eq (.inr (.inl rfl))) (cv_or (cv_own M0_0) (cv_own M0_1)))
  refine ol_op (by exact opv_call rfl cal29 (ac rfl (ac rfl an)) (pmem_Device_Flush.ok fu _ a0 G_0 V0_0 (Own.base O0_0 (Nat.zero_le _)) V0_1 (Own.base O0_1 (Nat.zero_le _)) b_0 a1.At _ k40)) rfl rfl rfl ?_
  rintro _ w51 ⟨u42, u46, o43, m44, o47, m48, rfl, b_0, q41⟩
  have m44 : ∀ g, Value.ownBlock u42 = some g → w.heap.size ≤ g ∨ (g = G_0 ∨ some g = Value.ownBlock V0_0 ∨ some g = Value.ownBlock V0_1) := fun g hg => (m44 g hg).elim (fun x => .inl (Nat.le_trans fB.size x)) (c50 g)
  have m48 : ∀ g, Value.ownBlock u46 = some g → w.heap.size ≤ g ∨ (g = G_0 ∨ some g = Value.ownBlock V0_0 ∨ some g = Value.ownBlock V0_1) := fun g hg => (m48 g hg).elim (fun x => .inl (Nat.le_trans fB.size x)) (c50 g)
  have fB := fB.call q41 c50
  refine ol_val (v := .int .u64 0) (by exact xr_assign rfl rfl) rfl rfl rfl ?_
  refine ol_val (v := .int .i64 t39.1) (by exact xr_assign rfl rfl) rfl rfl rfl ?_
  refine ol_nil ?_
  refine cw_ret ?_
  repeat (first | with_reducible refine thn_r ?_ | with_reducible refine blk_r ?_)
  obtain rfl := Option.some.inj h
  refine fin_ret2 Try.results31 rfl rfl ?_
  exact ⟨_, rfl, u42, u46, o43, m44, o47, m48, rfl, b_0, fB⟩
 refine cw_condF rfl c38 ?_
 refine cw_seq ?_
 refine cw_region ?_
 refine ol_val (v := .bool (decide (t15 = 3))) (by exact xr_eqI rfl Try.underlying3 rfl rfl rfl) rfl rfl rfl ?_
 refine ol_val (v := .bool (decide (t15 = 3))) (by exact xr_assign rfl rfl) rfl rfl rfl ?_
 refine ol_nil ?_
 rcases is h with ⟨c52, h⟩ | ⟨c52, h⟩
 ·refine cw_condT rfl c52 ?_
  refine cw_seq ?_
  refine cw_region ?_
  refine ol_val (v := .pointer (some ⟨G_0, 0, none⟩)) (by exact xr_move rfl rfl) rfl rfl rfl ?_
  obtain ⟨t53, k54, h⟩ := bs h
  have c64 : ∀ k, (k = G_0 ∨ some k = Value.ownBlock V0_0 ∨ some k = Value.ownBlock V0_1) → (w.heap.size ≤ k ∨ (k = G_0 ∨ some k = Value.ownBlock V0_0 ∨ some k = Value.ownBlock V0_1)) := (cv_or (cv_eq (.inr (.inl rfl))) (cv_or (cv_own M0_0) (cv_own M0_1)))
  refine ol_op (by exact opv_call rfl cal30 (ac rfl an) (pmem_Device_Fence.ok fu _ a0 G_0 V0_0 (Own.base O0_0 (Nat.zero_le _)) V0_1 (Own.base O0_1 (Nat.zero_le _)) b_0 _ k54)) rfl rfl rfl ?_
  rintro _ w65 ⟨u56, u60, o57, m58, o61, m62, rfl, b_0, q55⟩
  have m58 : ∀ g, Value.ownBlock u56 = some g → w.heap.size ≤ g ∨ (g = G_0 ∨ some g = Value.ownBlock V0_0 ∨ some g = Value.ownBlock V0_1) := fun g hg => (m58 g hg).elim (fun x => .inl (Nat.le_trans fB.size x)) (c64 g)
  have m62 : ∀ g, Value.ownBlock u60 = some g → w.heap.size ≤ g ∨ (g = G_0 ∨ some g = Value.ownBlock V0_0 ∨ some g = Value.ownBlock V0_1) := fun g hg => (m62 g hg).elim (fun x => .inl (Nat.le_trans fB.size x)) (c64 g)
  have fB := fB.call q55 c64
  refine ol_val (v := .int .u64 0) (by exact xr_assign rfl rfl) rfl rfl rfl ?_
  refine ol_val (v := .int .i64 t53.1) (by exact xr_assign rfl rfl) rfl rfl rfl ?_
  refine ol_nil ?_
  refine cw_ret ?_
  repeat (first | with_reducible refine thn_r ?_ | with_reducible refine blk_r ?_)
  obtain rfl := Option.some.inj h
  refine fin_ret2 Try.results31 rfl rfl ?_
  exact ⟨_, rfl, u56, u60, o57, m58, o61, m62, rfl, b_0, fB⟩
 refine cw_condF rfl c52 ?_
 refine cw_seq ?_
 refine cw_region ?_
 refine ol_val (v := .bool (decide (t15 = 4))) (by exact xr_eqI rfl Try.underlying3 rfl rfl rfl) rfl rfl rfl ?_
 refine ol_val (v := .bool (decide (t15 = 4))) (by exact xr_assign rfl rfl) rfl rfl rfl ?_
 refine ol_nil ?_
 obtain ⟨x66, j67, h68⟩ := bs h
 refine cw_mid (fun ρ' w' => ∃ v69 : Value, ∃ v73 : Value, ∃ o70 : Own k_pmem_cell 142 w' 0 v69 x66.1, ∃ o74 : Own (kI .i64) 3 w' 0 v73 x66.2.1, ∃ m72 : ∀ g, Value.ownBlock v69 = some g → w.heap.size ≤ g ∨ (g = G_0 ∨ some g = Value.ownBlock V0_0 ∨ some g = Value.ownBlock V0_1), ∃ m76 : ∀ g, Value.ownBlock v73 = some g → w.heap.size ≤ g ∨ (g = G_0 ∨ some g = Value.ownBlock V0_0 ∨ some g = Value.ownBlock V0_1), Blk w' G_0 139 [Seg.cell v69 o70.one, Seg.cell v73 o74.one, Seg.cell (.int .i64 x66.2.2.1), Seg.cell (.bool x66.2.2.2.1), Seg.cell (.bool x66.2.2.2.2.1), Seg.cell (.int .i64 x66.2.2.2.2.2.1), Seg.cell (.int .i64 x66.2.2.2.2.2.2)] ∧ Fr (fun j => j = G_0 ∨ some j = Value.ownBlock V0_0 ∨ some j = Value.ownBlock V0_1) w w') ?_ ?_
 ·have h := j67
  rcases is h with ⟨c77, h⟩ | ⟨c77, h⟩
  ·refine cw_condT rfl c77 ?_
   refine cw_region ?_
   refine ol_val (v := .pointer (some ⟨G_0, 0, none⟩)) (by exact xr_move rfl rfl) rfl rfl rfl ?_
   refine ol_val (v := .pointer (some ⟨G7, 1, none⟩)) (by exact xr_fieldAddr (p := 0) (q := 1) rfl fl39_1 rfl) rfl rfl rfl ?_
   refine ol_val (v := .int .i64 a1.At) (by exact xr_load1 (v := .int .i64 a1.At) rfl ag3 rfl (b8.seg 1 rfl rfl)) rfl rfl rfl ?_
   obtain ⟨t78, k79, h⟩ := bs h
   have f81 := off_ty b_0 O0_0 (by decide)
   have f82 := off_ty b_0 O0_1 (by decide)
   refine ol_op (by exact opv_call rfl cal38 (ac rfl (ac rfl an)) (pmem_Device_Arm.ok fu _ a0 G_0 V0_0 O0_0.rd (OffR.own O0_0 (off_ty b_0 O0_0 (by decide))) V0_1 O0_1.rd (OffR.own O0_1 (off_ty b_0 O0_1 (by decide))) b_0 a1.At _ k79)) rfl rfl rfl ?_
   rintro _ w83 ⟨rfl, b_0, q80⟩
   have O0_0 := O0_0.wr q80 f81
   have O0_1 := O0_1.wr q80 f82
   have fB := fB.wrS q80 (.inl rfl)
   refine ol_nil ?_
   obtain rfl := Option.some.inj h
   refine thn_i ?_
   exact ⟨V0_0, V0_1, O0_0, O0_1, M0_0, M0_1, b_0, fB⟩
  refine cw_condF rfl c77 ?_
  refine cw_seq ?_
  refine cw_region ?_
  refine ol_val (v := .bool (decide (t15 = 5))) (by exact xr_eqI rfl Try.underlying3 rfl rfl rfl) rfl rfl rfl ?_
  refine ol_val (v := .bool (decide (t15 = 5))) (by exact xr_assign rfl rfl) rfl rfl rfl ?_
  refine ol_nil ?_
  obtain ⟨x84, j85, h86⟩ := bs h
  refine cw_mid (fun ρ' w' => ∃ v87 : Value, ∃ v91 : Value, ∃ o88 : Own k_pmem_cell 142 w' 0 v87 x84.1, ∃ o92 : Own (kI .i64) 3 w' 0 v91 x84.2.1, ∃ m90 : ∀ g, Value.ownBlock v87 = some g → w.heap.size ≤ g ∨ (g = G_0 ∨ some g = Value.ownBlock V0_0 ∨ some g = Value.ownBlock V0_1), ∃ m94 : ∀ g, Value.ownBlock v91 = some g → w.heap.size ≤ g ∨ (g = G_0 ∨ some g = Value.ownBlock V0_0 ∨ some g = Value.ownBlock V0_1), Blk w' G_0 139 [Seg.cell v87 o88.one, Seg.cell v91 o92.one, Seg.cell (.int .i64 x84.2.2.1), Seg.cell (.bool x84.2.2.2.1), Seg.cell (.bool x84.2.2.2.2.1), Seg.cell (.int .i64 x84.2.2.2.2.2.1), Seg.cell (.int .i64 x84.2.2.2.2.2.2)] ∧ Fr (fun j => j = G_0 ∨ some j = Value.ownBlock V0_0 ∨ some j = Value.ownBlock V0_1) w w') ?_ ?_
  ·have h := j85
   rcases is h with ⟨c95, h⟩ | ⟨c95, h⟩
   ·refine cw_condT rfl c95 ?_
    refine cw_region ?_
    refine ol_val (v := .pointer (some ⟨G_0, 0, none⟩)) (by exact xr_move rfl rfl) rfl rfl rfl ?_
    refine ol_val (v := .pointer (some ⟨G7, 3, none⟩)) (by exact xr_fieldAddr (p := 0) (q := 3) rfl fl39_3 rfl) rfl rfl rfl ?_
    refine ol_val (v := V1_0) (by exact xr_load1 (v := V1_0) rfl ag25 rfl (b8.seg 3 rfl rfl)) rfl rfl rfl ?_
    obtain ⟨t96, k97, h⟩ := bs h
    have f107 := (ro_or (ro_eq NR1_0_P0) (ro_or (ro_own NR1_0_R0_0) (ro_own NR1_0_R0_1)))
    have c108 : ∀ k, (k = G_0 ∨ some k = Value.ownBlock V0_0 ∨ some k = Value.ownBlock V0_1) → (w.heap.size ≤ k ∨ (k = G_0 ∨ some k = Value.ownBlock V0_0 ∨ some k = Value.ownBlock V0_1)) := (cv_or (cv_eq (.inr (.inl rfl))) (cv_or (cv_own M0_0) (cv_own M0_1)))
    refine ol_op (by exact opv_call rfl cal35 (ac rfl (ac rfl an)) (pmem_Device_Plan.ok fu _ a0 G_0 V0_0 (Own.base O0_0 (Nat.zero_le _)) V0_1 (Own.base O0_1 (Nat.zero_le _)) b_0 a1.L V1_0 (R1_0) NR1_0_P0 NR1_0_R0_0 NR1_0_R0_1 _ k97)) rfl rfl rfl ?_
    rintro _ w109 ⟨u99, u103, o100, m101, o104, m105, rfl, b_0, q98⟩
    have m101 : ∀ g, Value.ownBlock u99 = some g → w.heap.size ≤ g ∨ (g = G_0 ∨ some g = Value.ownBlock V0_0 ∨ some g = Value.ownBlock V0_1) := fun g hg => (m101 g hg).elim (fun x => .inl (Nat.le_trans fB.size x)) (c108 g)
    have m105 : ∀ g, Value.ownBlock u103 = some g → w.heap.size ≤ g ∨ (g = G_0 ∨ some g = Value.ownBlock V0_0 ∨ some g = Value.ownBlock V0_1) := fun g hg => (m105 g hg).elim (fun x => .inl (Nat.le_trans fB.size x)) (c108 g)
    have fB := fB.call q98 c108
    refine ol_nil ?_
    obtain rfl := Option.some.inj h
    refine thn_i ?_
    exact ⟨u99, u103, o100, o104, m101, m105, b_0, fB⟩
   refine cw_condF rfl c95 ?_
   refine cw_seq ?_
   refine cw_region ?_
   refine ol_val (v := .bool (decide (t15 = 6))) (by exact xr_eqI rfl Try.underlying3 rfl rfl rfl) rfl rfl rfl ?_
   refine ol_val (v := .bool (decide (t15 = 6))) (by exact xr_assign rfl rfl) rfl rfl rfl ?_
   refine ol_nil ?_
   obtain ⟨x110, j111, h112⟩ := bs h
   refine cw_mid (fun ρ' w' => ∃ v113 : Value, ∃ v117 : Value, ∃ o114 : Own k_pmem_cell 142 w' 0 v113 x110.1, ∃ o118 : Own (kI .i64) 3 w' 0 v117 x110.2.1, ∃ m116 : ∀ g, Value.ownBlock v113 = some g → w.heap.size ≤ g ∨ (g = G_0 ∨ some g = Value.ownBlock V0_0 ∨ some g = Value.ownBlock V0_1), ∃ m120 : ∀ g, Value.ownBlock v117 = some g → w.heap.size ≤ g ∨ (g = G_0 ∨ some g = Value.ownBlock V0_0 ∨ some g = Value.ownBlock V0_1), Blk w' G_0 139 [Seg.cell v113 o114.one, Seg.cell v117 o118.one, Seg.cell (.int .i64 x110.2.2.1), Seg.cell (.bool x110.2.2.2.1), Seg.cell (.bool x110.2.2.2.2.1), Seg.cell (.int .i64 x110.2.2.2.2.2.1), Seg.cell (.int .i64 x110.2.2.2.2.2.2)] ∧ Fr (fun j => j = G_0 ∨ some j = Value.ownBlock V0_0 ∨ some j = Value.ownBlock V0_1) w w') ?_ ?_
   ·have h := j111
    rcases is h with ⟨c121, h⟩ | ⟨c121, h⟩
    ·refine cw_condT rfl c121 ?_
     refine cw_region ?_
     refine ol_val (v := .pointer (some ⟨G_0, 0, none⟩)) (by exact xr_move rfl rfl) rfl rfl rfl ?_
     refine ol_val (v := .pointer (some ⟨G7, 3, none⟩)) (by exact xr_fieldAddr (p := 0) (q := 3) rfl fl39_3 rfl) rfl rfl rfl ?_
     refine ol_val (v := V1_0) (by exact xr_load1 (v := V1_0) rfl ag25 rfl (b8.seg 3 rfl rfl)) rfl rfl rfl ?_
     obtain ⟨t122, k123, h⟩ := bs h
     have f133 := (ro_or (ro_eq NR1_0_P0) (ro_or (ro_own NR1_0_R0_0) (ro_own NR1_0_R0_1)))
     have c134 : ∀ k, (k = G_0 ∨ some k = Value.ownBlock V0_0 ∨ some k = Value.ownBlock V0_1) → (w.heap.size ≤ k ∨ (k = G_0 ∨ some k = Value.ownBlock V0_0 ∨ some k = Value.ownBlock V0_1)) := (cv_or (cv_eq (.inr (.inl rfl))) (cv_or (cv_own M0_0) (cv_own M0_1)))
     refine ol_op (by exact opv_call rfl cal32 (ac rfl (ac rfl an)) (pmem_Device_Crash.ok fu _ a0 G_0 V0_0 (Own.base O0_0 (Nat.zero_le _)) V0_1 (Own.base O0_1 (Nat.zero_le _)) b_0 a1.L V1_0 (R1_0) NR1_0_P0 NR1_0_R0_0 NR1_0_R0_1 _ k123)) rfl rfl rfl ?_
     rintro _ w135 ⟨u125, u129, o126, m127, o130, m131, rfl, b_0, q124⟩
     have m127 : ∀ g, Value.ownBlock u125 = some g → w.heap.size ≤ g ∨ (g = G_0 ∨ some g = Value.ownBlock V0_0 ∨ some g = Value.ownBlock V0_1) := fun g hg => (m127 g hg).elim (fun x => .inl (Nat.le_trans fB.size x)) (c134 g)
     have m131 : ∀ g, Value.ownBlock u129 = some g → w.heap.size ≤ g ∨ (g = G_0 ∨ some g = Value.ownBlock V0_0 ∨ some g = Value.ownBlock V0_1) := fun g hg => (m131 g hg).elim (fun x => .inl (Nat.le_trans fB.size x)) (c134 g)
     have fB := fB.call q124 c134
     refine ol_nil ?_
     obtain rfl := Option.some.inj h
     refine thn_i ?_
     exact ⟨u125, u129, o126, o130, m127, m131, b_0, fB⟩
    refine cw_condF rfl c121 ?_
    refine cw_skip ?_
    obtain rfl := Option.some.inj h
    refine thn_i ?_
    exact ⟨V0_0, V0_1, O0_0, O0_1, M0_0, M0_1, b_0, fB⟩
   rintro ρ136 w137 ⟨v113, v117, o114, o118, m116, m120, b_0, fB⟩
   have h := h112
   obtain rfl := Option.some.inj h
   refine thn_i ?_
   exact ⟨v113, v117, o114, o118, m116, m120, b_0, fB⟩
  rintro ρ138 w139 ⟨v87, v91, o88, o92, m90, m94, b_0, fB⟩
  have h := h86
  obtain rfl := Option.some.inj h
  refine thn_i ?_
  exact ⟨v87, v91, o88, o92, m90, m94, b_0, fB⟩
 rintro ρ140 w141 ⟨v69, v73, o70, o74, m72, m76, b_0, fB⟩
 have h := h68
 refine blk_i ?_
 refine cw_seq ?_
 refine cw_region ?_
 refine ol_val (v := .int .u64 0) (by exact xr_assign rfl rfl) rfl rfl rfl ?_
 refine ol_val (v := .int .i64 0) (by exact xr_assign rfl rfl) rfl rfl rfl ?_
 refine ol_nil ?_
 refine cw_ret ?_
 repeat (first | with_reducible refine thn_r ?_ | with_reducible refine blk_r ?_)
 obtain rfl := Option.some.inj h
 refine fin_ret2 Try.results31 rfl rfl ?_
 exact ⟨_, rfl, v69, v73, o70, m72, o74, m76, rfl, b_0, fB⟩
def rickyardref05_Device_error.f (fu : Nat) (a0 : S_rickyardref05_Device) (a1 : Int) (a2 : Int) : Option Int := (if (decide (a0.Left = 0)) = true then some (3) else (if (if (decide (a1 < 0)) = true then true else (decide (a1 ≥ a2))) = true then some (2) else some (0)))
set_option maxRecDepth 100000 in
set_option maxHeartbeats 400000 in
theorem rickyardref05_Device_error.ok (fu : Nat) (w : World) (a0 : S_rickyardref05_Device) (G_0 : Nat) (V0_0 : Value) (R0_0 : Rd (kI .u64) w V0_0 a0.Lasts) (V0_1 : Value) (R0_1 : Rd (kI .u64) w V0_1 a0.Stored) (V0_2 : Value) (R0_2 : Rd (kI .u64) w V0_2 a0.Sent) (V0_3 : Value) (R0_3 : Rd kB w V0_3 a0.Flushed) (V0_4 : Value) (R0_4 : Rd (kI .i64) w V0_4 a0.Plan) (b_0 : Blk w G_0 65 [Seg.cell V0_0 R0_0.one, Seg.cell V0_1 R0_1.one, Seg.cell V0_2 R0_2.one, Seg.cell V0_3 R0_3.one, Seg.cell V0_4 R0_4.one, Seg.cell (.int .i64 a0.Since), Seg.cell (.int .i64 a0.Left), Seg.cell (.int .i64 a0.Steps)]) (a1 : Int) (a2 : Int) (r : Int) (h : rickyardref05_Device_error.f fu a0 a1 a2 = some r) :
  Calls Try.prog 124 (([.pointer (some ⟨G_0, 0, none⟩), .int .i64 a1, .int .i64 a2] : List Value).toArray) w (fun e w' => ∃ v, e = .returned v ∧ v = .int .i64 r ∧ Gr w w') := by
 unfold rickyardref05_Device_error.f at h
 have fB : Gr w w := Fr.refl _ _
 refine calls_cw Try.func124 rfl Try.ntmps124 rfl ?_
 refine cw_seq ?_
 refine cw_region ?_
 refine ol_val (v := .int .i64 0) (by exact xr_assign rfl rfl) rfl rfl rfl ?_
 refine ol_nil ?_
 refine cw_seq ?_
 refine cw_seq ?_
 refine cw_region ?_
 refine ol_val (v := .pointer (some ⟨G_0, 0, none⟩)) (by exact xr_move rfl rfl) rfl rfl rfl ?_
 refine ol_val (v := .pointer (some ⟨G_0, 0, none⟩)) (by exact xr_nilCheck rfl rfl) rfl rfl rfl ?_
 refine ol_val (v := .pointer (some ⟨G_0, 6, none⟩)) (by exact xr_fieldAddr (p := 0) (q := 6) rfl fl65_6 rfl) rfl rfl rfl ?_
 refine ol_val (v := .int .i64 a0.Left) (by exact xr_load1 (v := .int .i64 a0.Left) rfl ag3 rfl (b_0.seg 6 rfl rfl)) rfl rfl rfl ?_
 refine ol_val (v := .bool (decide (a0.Left = 0))) (by exact xr_eqI rfl Try.underlying3 rfl rfl rfl) rfl rfl rfl ?_
 refine ol_nil ?_
 rcases is h with ⟨c1, h⟩ | ⟨c1, h⟩
 ·refine cw_condT rfl c1 ?_
  refine cw_seq ?_
  refine cw_region ?_
  refine ol_val (v := .int .i64 3) (by exact xr_assign rfl rfl) rfl rfl rfl ?_
  refine ol_nil ?_
  refine cw_ret ?_
  repeat (first | with_reducible refine thn_r ?_ | with_reducible refine blk_r ?_)
  obtain rfl := Option.some.inj h
  refine fin_ret1 Try.results124 rfl ?_
  exact ⟨_, rfl, rfl, fB⟩
 refine cw_condF rfl c1 ?_
 refine cw_skip ?_
 refine cw_seq ?_
 refine cw_seq ?_
 refine cw_mid (fun ρ' w' => ρ' 18 = .bool (if (decide (a1 < 0)) = true then true else (decide (a1 ≥ a2))) ∧ w = w') ?_ ?_
 ·skip
  refine cw_region ?_
  refine ol_val (v := .int .i64 a1) (by exact xr_move rfl rfl) rfl rfl rfl ?_
  refine ol_val (v := .bool (decide (a1 < 0))) (by exact xr_lss rfl rfl rfl) rfl rfl rfl ?_
  refine ol_val (v := .bool (decide (a1 < 0))) (by exact xr_move rfl rfl) rfl rfl rfl ?_
  rcases bt (decide (a1 < 0)) with c2 | c2
  ·skip
   refine ol_gskip rfl rfl rfl rfl rfl c2 ?_
   refine ol_gskip rfl rfl rfl rfl rfl c2 ?_
   refine ol_gskip rfl rfl rfl rfl rfl c2 ?_
   refine ol_val (v := .bool true) (by exact xr_pickT rfl rfl c2 rfl) rfl rfl rfl ?_
   refine ol_nil ?_
   refine thn_i ?_
   exact ⟨(rfl).trans (congrArg (fun z => (.bool z : Value)) (show true = (if (decide (a1 < 0)) = true then true else (decide (a1 ≥ a2))) from by rw [ite_t c2])), rfl⟩
  refine ol_gval (v := .int .i64 a1) (by exact xr_move rfl rfl) rfl rfl rfl rfl rfl c2 ?_
  refine ol_gval (v := .int .i64 a2) (by exact xr_move rfl rfl) rfl rfl rfl rfl rfl c2 ?_
  refine ol_gval (v := .bool (decide (a1 ≥ a2))) (by exact xr_geq rfl rfl rfl) rfl rfl rfl rfl rfl c2 ?_
  refine ol_val (v := .bool (decide (a1 ≥ a2))) (by exact xr_pickF rfl rfl c2 rfl) rfl rfl rfl ?_
  refine ol_nil ?_
  refine thn_i ?_
  exact ⟨(rfl).trans (congrArg (fun z => (.bool z : Value)) (show (decide (a1 ≥ a2)) = (if (decide (a1 < 0)) = true then true else (decide (a1 ≥ a2))) from by rw [ite_f c2])), rfl⟩
 rintro ρ3 _ ⟨e18, rfl⟩
 rcases is h with ⟨c4, h⟩ | ⟨c4, h⟩
 ·refine cw_condT e18 c4 ?_
  refine cw_seq ?_
  refine cw_region ?_
  refine ol_val (v := .int .i64 2) (by exact xr_assign rfl rfl) rfl rfl rfl ?_
  refine ol_nil ?_
  refine cw_ret ?_
  repeat (first | with_reducible refine thn_r ?_ | with_reducible refine blk_r ?_)
  obtain rfl := Option.some.inj h
  refine fin_ret1 Try.results124 rfl ?_
  exact ⟨_, rfl, rfl, fB⟩
 refine cw_condF e18 c4 ?_
 refine cw_skip ?_
 refine cw_seq ?_
 refine cw_region ?_
 refine ol_val (v := .int .i64 0) (by exact xr_assign rfl rfl) rfl rfl rfl ?_
 refine ol_nil ?_
 refine cw_ret ?_
 repeat (first | with_reducible refine thn_r ?_ | with_reducible refine blk_r ?_)
 obtain rfl := Option.some.inj h
 refine fin_ret1 Try.results124 rfl ?_
 exact ⟨_, rfl, rfl, fB⟩
def rickyardref05_Device_last.f (fu : Nat) (a0 : S_rickyardref05_Device) (a1 : Int) (a2 : Int) : Option S_rickyardref05_Device := (if 0 ≤ a1 ∧ a1 < (List.length a0.Lasts : Int) then (if 0 ≤ a1 ∧ a1 < (List.length a0.Sent : Int) then (if 0 ≤ a1 ∧ a1 < (List.length a0.Flushed : Int) then some ((⟨(List.set a0.Lasts (Int.toNat a1) a2), a0.Stored, (List.set a0.Sent (Int.toNat a1) 0), (List.set a0.Flushed (Int.toNat a1) false), a0.Plan, a0.Since, a0.Left, a0.Steps⟩ : S_rickyardref05_Device)) else none) else none) else none)
set_option maxRecDepth 100000 in
set_option maxHeartbeats 400000 in
theorem rickyardref05_Device_last.ok (fu : Nat) (w : World) (a0 : S_rickyardref05_Device) (G_0 : Nat) (V0_0 : Value) (O0_0 : Own (kI .u64) 22 w 0 V0_0 a0.Lasts) (V0_1 : Value) (O0_1 : Own (kI .u64) 22 w 0 V0_1 a0.Stored) (V0_2 : Value) (O0_2 : Own (kI .u64) 22 w 0 V0_2 a0.Sent) (V0_3 : Value) (O0_3 : Own kB 4 w 0 V0_3 a0.Flushed) (V0_4 : Value) (O0_4 : Own (kI .i64) 3 w 0 V0_4 a0.Plan) (b_0 : Blk w G_0 65 [Seg.cell V0_0 O0_0.one, Seg.cell V0_1 O0_1.one, Seg.cell V0_2 O0_2.one, Seg.cell V0_3 O0_3.one, Seg.cell V0_4 O0_4.one, Seg.cell (.int .i64 a0.Since), Seg.cell (.int .i64 a0.Left), Seg.cell (.int .i64 a0.Steps)]) (a1 : Int) (a2 : Int) (A_R0_0_R0_1 : OffV V0_0 V0_1) (A_R0_0_R0_2 : OffV V0_0 V0_2) (A_R0_1_R0_2 : OffV V0_1 V0_2) (r : S_rickyardref05_Device) (h : rickyardref05_Device_last.f fu a0 a1 a2 = some r) :
  Calls Try.prog 126 (([.pointer (some ⟨G_0, 0, none⟩), .int .i64 a1, .int .u64 a2] : List Value).toArray) w (fun e w' => ∃ v, e = .returned v ∧ ∃ u1 : Value, ∃ u4 : Value, ∃ u7 : Value, ∃ u10 : Value, ∃ u13 : Value, ∃ o2 : Own (kI .u64) 22 w' 0 u1 r.Lasts, ∃ m3 : ∀ g, Value.ownBlock u1 = some g → w.heap.size ≤ g ∨ (g = G_0 ∨ some g = Value.ownBlock V0_0 ∨ some g = Value.ownBlock V0_1 ∨ some g = Value.ownBlock V0_2 ∨ some g = Value.ownBlock V0_3 ∨ some g = Value.ownBlock V0_4), ∃ o5 : Own (kI .u64) 22 w' 0 u4 r.Stored, ∃ m6 : ∀ g, Value.ownBlock u4 = some g → w.heap.size ≤ g ∨ (g = G_0 ∨ some g = Value.ownBlock V0_0 ∨ some g = Value.ownBlock V0_1 ∨ some g = Value.ownBlock V0_2 ∨ some g = Value.ownBlock V0_3 ∨ some g = Value.ownBlock V0_4), ∃ o8 : Own (kI .u64) 22 w' 0 u7 r.Sent, ∃ m9 : ∀ g, Value.ownBlock u7 = some g → w.heap.size ≤ g ∨ (g = G_0 ∨ some g = Value.ownBlock V0_0 ∨ some g = Value.ownBlock V0_1 ∨ some g = Value.ownBlock V0_2 ∨ some g = Value.ownBlock V0_3 ∨ some g = Value.ownBlock V0_4), ∃ o11 : Own kB 4 w' 0 u10 r.Flushed, ∃ m12 : ∀ g, Value.ownBlock u10 = some g → w.heap.size ≤ g ∨ (g = G_0 ∨ some g = Value.ownBlock V0_0 ∨ some g = Value.ownBlock V0_1 ∨ some g = Value.ownBlock V0_2 ∨ some g = Value.ownBlock V0_3 ∨ some g = Value.ownBlock V0_4), ∃ o14 : Own (kI .i64) 3 w' 0 u13 r.Plan, ∃ m15 : ∀ g, Value.ownBlock u13 = some g → w.heap.size ≤ g ∨ (g = G_0 ∨ some g = Value.ownBlock V0_0 ∨ some g = Value.ownBlock V0_1 ∨ some g = Value.ownBlock V0_2 ∨ some g = Value.ownBlock V0_3 ∨ some g = Value.ownBlock V0_4), ∃ a16 : OffV u1 u4, ∃ a17 : OffV u1 u7, ∃ a18 : OffV u4 u7, v = .tuple #[] ∧ Blk w' G_0 65 [Seg.cell u1 o2.one, Seg.cell u4 o5.one, Seg.cell u7 o8.one, Seg.cell u10 o11.one, Seg.cell u13 o14.one, Seg.cell (.int .i64 r.Since), Seg.cell (.int .i64 r.Left), Seg.cell (.int .i64 r.Steps)] ∧ Fr (fun j => j = G_0 ∨ some j = Value.ownBlock V0_0 ∨ some j = Value.ownBlock V0_1 ∨ some j = Value.ownBlock V0_2 ∨ some j = Value.ownBlock V0_3 ∨ some j = Value.ownBlock V0_4) w w') := by
 unfold rickyardref05_Device_last.f at h
 have fB : Fr (fun j => j = G_0 ∨ some j = Value.ownBlock V0_0 ∨ some j = Value.ownBlock V0_1 ∨ some j = Value.ownBlock V0_2 ∨ some j = Value.ownBlock V0_3 ∨ some j = Value.ownBlock V0_4) w w := Fr.refl _ _
 have M0_0 : ∀ g, Value.ownBlock V0_0 = some g → w.heap.size ≤ g ∨ (g = G_0 ∨ some g = Value.ownBlock V0_0 ∨ some g = Value.ownBlock V0_1 ∨ some g = Value.ownBlock V0_2 ∨ some g = Value.ownBlock V0_3 ∨ some g = Value.ownBlock V0_4) := fun g hg => .inr (.inr (.inl hg.symm))
 have M0_1 : ∀ g, Value.ownBlock V0_1 = some g → w.heap.size ≤ g ∨ (g = G_0 ∨ some g = Value.ownBlock V0_0 ∨ some g = Value.ownBlock V0_1 ∨ some g = Value.ownBlock V0_2 ∨ some g = Value.ownBlock V0_3 ∨ some g = Value.ownBlock V0_4) := fun g hg => .inr (.inr (.inr (.inl hg.symm)))
 have M0_2 : ∀ g, Value.ownBlock V0_2 = some g → w.heap.size ≤ g ∨ (g = G_0 ∨ some g = Value.ownBlock V0_0 ∨ some g = Value.ownBlock V0_1 ∨ some g = Value.ownBlock V0_2 ∨ some g = Value.ownBlock V0_3 ∨ some g = Value.ownBlock V0_4) := fun g hg => .inr (.inr (.inr (.inr (.inl hg.symm))))
 have M0_3 : ∀ g, Value.ownBlock V0_3 = some g → w.heap.size ≤ g ∨ (g = G_0 ∨ some g = Value.ownBlock V0_0 ∨ some g = Value.ownBlock V0_1 ∨ some g = Value.ownBlock V0_2 ∨ some g = Value.ownBlock V0_3 ∨ some g = Value.ownBlock V0_4) := fun g hg => .inr (.inr (.inr (.inr (.inr (.inl hg.symm)))))
 have M0_4 : ∀ g, Value.ownBlock V0_4 = some g → w.heap.size ≤ g ∨ (g = G_0 ∨ some g = Value.ownBlock V0_0 ∨ some g = Value.ownBlock V0_1 ∨ some g = Value.ownBlock V0_2 ∨ some g = Value.ownBlock V0_3 ∨ some g = Value.ownBlock V0_4) := fun g hg => .inr (.inr (.inr (.inr (.inr (.inr hg.symm)))))
 refine calls_cw Try.func126 rfl Try.ntmps126 rfl ?_
 refine cw_seq ?_
 refine cw_region ?_
 refine ol_val (v := .pointer (some ⟨G_0, 0, none⟩)) (by exact xr_move rfl rfl) rfl rfl rfl ?_
 refine ol_val (v := .pointer (some ⟨G_0, 0, none⟩)) (by exact xr_nilCheck rfl rfl) rfl rfl rfl ?_
 refine ol_val (v := .pointer (some ⟨G_0, 0, none⟩)) (by exact xr_fieldAddr (p := 0) (q := 0) rfl fl65_0 rfl) rfl rfl rfl ?_
 refine ol_val (v := V0_0) (by exact xr_load1 (v := V0_0) rfl ag46 rfl (b_0.seg 0 rfl rfl)) rfl rfl rfl ?_
 refine ol_val (v := .int .i64 a1) (by exact xr_move rfl rfl) rfl rfl rfl ?_
 refine ol_val (v := .int .u64 a2) (by exact xr_move rfl rfl) rfl rfl rfl ?_
 obtain ⟨g19, h⟩ := gs h
 refine ol_val (v := .pointer (some ⟨(sb V0_0), so V0_0 + Int.toNat a1 * 1, none⟩)) (by exact xr_indexR (K := (kI .u64)) (v := V0_0) rfl Try.underlying46 sz22 rfl O0_0.rd rfl g19.1 g19.2) rfl rfl rfl ?_
 have f21 := off_ty b_0 O0_0 (by decide)
 have f22 := A_R0_0_R0_1.symm
 have f23 := A_R0_0_R0_2.symm
 have f24 := OffV.ty O0_3 O0_0 (by decide)
 have f25 := OffV.ty O0_4 O0_0 (by decide)
 refine ol_op0 (by exact opv_storeRow (z := a2) (xs := cellsOf [Seg.cell (.int .u64 a2)]) rfl sz22 rfl rfl rfl (len_cellsOf _) (one_cellsOf _) O0_0 g19.1 g19.2 (Spl.whole ((Kd.len _ _).trans (Kd.len _ _).symm)) rfl) rfl rfl ?_
 rintro _ w27 ⟨O0_0, q20⟩
 have b_0 := b_0.wrO q20 f21
 have O0_1 := O0_1.wrV q20 f22
 have O0_2 := O0_2.wrV q20 f23
 have O0_3 := O0_3.wrV q20 f24
 have O0_4 := O0_4.wrV q20 f25
 have fB := fB.wrM q20 M0_0
 refine ol_nil ?_
 refine cw_seq ?_
 refine cw_region ?_
 refine ol_val (v := .pointer (some ⟨G_0, 0, none⟩)) (by exact xr_move rfl rfl) rfl rfl rfl ?_
 refine ol_val (v := .pointer (some ⟨G_0, 0, none⟩)) (by exact xr_nilCheck rfl rfl) rfl rfl rfl ?_
 refine ol_val (v := .pointer (some ⟨G_0, 2, none⟩)) (by exact xr_fieldAddr (p := 0) (q := 2) rfl fl65_2 rfl) rfl rfl rfl ?_
 refine ol_val (v := V0_2) (by exact xr_load1 (v := V0_2) rfl ag46 rfl (b_0.seg 2 rfl rfl)) rfl rfl rfl ?_
 refine ol_val (v := .int .i64 a1) (by exact xr_move rfl rfl) rfl rfl rfl ?_
 obtain ⟨g28, h⟩ := gs h
 refine ol_val (v := .pointer (some ⟨(sb V0_2), so V0_2 + Int.toNat a1 * 1, none⟩)) (by exact xr_indexR (K := (kI .u64)) (v := V0_2) rfl Try.underlying46 sz22 rfl O0_2.rd rfl g28.1 g28.2) rfl rfl rfl ?_
 have f30 := off_ty b_0 O0_2 (by decide)
 have f31 := A_R0_0_R0_2
 have f32 := A_R0_1_R0_2
 have f33 := OffV.ty O0_3 O0_2 (by decide)
 have f34 := OffV.ty O0_4 O0_2 (by decide)
 refine ol_op0 (by exact opv_storeRow (z := 0) (xs := cellsOf [Seg.cell (.int .u64 0)]) rfl sz22 rfl rfl rfl (len_cellsOf _) (one_cellsOf _) O0_2 g28.1 g28.2 (Spl.whole ((Kd.len _ _).trans (Kd.len _ _).symm)) rfl) rfl rfl ?_
 rintro _ w36 ⟨O0_2, q29⟩
 have b_0 := b_0.wrO q29 f30
 have O0_0 := O0_0.wrV q29 f31
 have O0_1 := O0_1.wrV q29 f32
 have O0_3 := O0_3.wrV q29 f33
 have O0_4 := O0_4.wrV q29 f34
 have fB := fB.wrM q29 M0_2
 refine ol_nil ?_
 refine cw_region ?_
 refine ol_val (v := .pointer (some ⟨G_0, 0, none⟩)) (by exact xr_move rfl rfl) rfl rfl rfl ?_
 refine ol_val (v := .pointer (some ⟨G_0, 0, none⟩)) (by exact xr_nilCheck rfl rfl) rfl rfl rfl ?_
 refine ol_val (v := .pointer (some ⟨G_0, 3, none⟩)) (by exact xr_fieldAddr (p := 0) (q := 3) rfl fl65_3 rfl) rfl rfl rfl ?_
 refine ol_val (v := V0_3) (by exact xr_load1 (v := V0_3) rfl ag63 rfl (b_0.seg 3 rfl rfl)) rfl rfl rfl ?_
 refine ol_val (v := .int .i64 a1) (by exact xr_move rfl rfl) rfl rfl rfl ?_
 obtain ⟨g37, h⟩ := gs h
 refine ol_val (v := .pointer (some ⟨(sb V0_3), so V0_3 + Int.toNat a1 * 1, none⟩)) (by exact xr_indexR (K := kB) (v := V0_3) rfl Try.underlying63 sz4 rfl O0_3.rd rfl g37.1 g37.2) rfl rfl rfl ?_
 have f39 := off_ty b_0 O0_3 (by decide)
 have f40 := OffV.ty O0_0 O0_3 (by decide)
 have f41 := OffV.ty O0_1 O0_3 (by decide)
 have f42 := OffV.ty O0_2 O0_3 (by decide)
 have f43 := OffV.ty O0_4 O0_3 (by decide)
 refine ol_op0 (by exact opv_storeRow (z := false) (xs := cellsOf [Seg.cell (.bool false)]) rfl sz4 rfl rfl rfl (len_cellsOf _) (one_cellsOf _) O0_3 g37.1 g37.2 (Spl.whole ((Kd.len _ _).trans (Kd.len _ _).symm)) rfl) rfl rfl ?_
 rintro _ w45 ⟨O0_3, q38⟩
 have b_0 := b_0.wrO q38 f39
 have O0_0 := O0_0.wrV q38 f40
 have O0_1 := O0_1.wrV q38 f41
 have O0_2 := O0_2.wrV q38 f42
 have O0_4 := O0_4.wrV q38 f43
 have fB := fB.wrM q38 M0_3
 refine ol_nil ?_
 obtain rfl := Option.some.inj h
 refine fin_end0 Try.results126 ?_
 exact ⟨_, rfl, V0_0, V0_1, V0_2, V0_3, V0_4, O0_0, M0_0, O0_1, M0_1, O0_2, M0_2, O0_3, M0_3, O0_4, M0_4, A_R0_0_R0_1, A_R0_0_R0_2, A_R0_1_R0_2, rfl, b_0, fB⟩
def rickyardref05_Device_step.f (fu : Nat) (a0 : S_rickyardref05_Device) : Option S_rickyardref05_Device := (((if (if (decide ((List.length a0.Plan : Int) > 0)) = true then (decide ((List.length a0.Lasts : Int) > 0)) else false) = true then (if (List.length a0.Plan : Int) ≠ 0 then (if 0 ≤ (Int.tmod a0.Since (List.length a0.Plan : Int)) ∧ (Int.tmod a0.Since (List.length a0.Plan : Int)) < (List.length a0.Plan : Int) then (((if (decide ((ix a0.Plan (Int.tmod a0.Since (List.length a0.Plan : Int))) ≥ 0)) = true then (if (List.length a0.Lasts : Int) ≠ 0 then (if (List.length a0.Lasts : Int) ≠ 0 then (if 0 ≤ (Int.tmod (ix a0.Plan (Int.tmod a0.Since (List.length a0.Plan : Int))) (List.length a0.Lasts : Int)) ∧ (Int.tmod (ix a0.Plan (Int.tmod a0.Since (List.length a0.Plan : Int))) (List.length a0.Lasts : Int)) < (List.length a0.Stored : Int) then ((rickyardref05_Device_last.f fu a0 (Int.tmod (ix a0.Plan (Int.tmod a0.Since (List.length a0.Plan : Int))) (List.length a0.Lasts : Int)) (ix a0.Stored (Int.tmod (ix a0.Plan (Int.tmod a0.Since (List.length a0.Plan : Int))) (List.length a0.Lasts : Int))) : Option S_rickyardref05_Device).bind fun t86 => some (t86.Lasts, t86.Stored, t86.Sent, t86.Flushed, t86.Plan, t86.Since, t86.Left, t86.Steps)) else none) else none) else none) else some (a0.Lasts, a0.Stored, a0.Sent, a0.Flushed, a0.Plan, a0.Since, a0.Left, a0.Steps)) : Option ((List Int) × (List Int) × (List Int) × (List Bool) × (List Int) × Int × Int × Int)).bind fun x53 => some (x53.1, x53.2.1, x53.2.2.1, x53.2.2.2.1, x53.2.2.2.2.1, x53.2.2.2.2.2.1, x53.2.2.2.2.2.2.1, x53.2.2.2.2.2.2.2)) else none) else none) else some (a0.Lasts, a0.Stored, a0.Sent, a0.Flushed, a0.Plan, a0.Since, a0.Left, a0.Steps)) : Option ((List Int) × (List Int) × (List Int) × (List Bool) × (List Int) × Int × Int × Int)).bind fun x21 => (((if (decide (x21.2.2.2.2.2.2.1 > 0)) = true then some ((IntKind.i64.wrap (x21.2.2.2.2.2.2.1 - 1))) else some (x21.2.2.2.2.2.2.1)) : Option Int).bind fun x132 => some ((⟨x21.1, x21.2.1, x21.2.2.1, x21.2.2.2.1, x21.2.2.2.2.1, (IntKind.i64.wrap (x21.2.2.2.2.2.1 + 1)), x132, (IntKind.i64.wrap (x21.2.2.2.2.2.2.2 + 1))⟩ : S_rickyardref05_Device))))
set_option maxRecDepth 100000 in
set_option maxHeartbeats 400000 in
theorem rickyardref05_Device_step.ok (fu : Nat) (w : World) (a0 : S_rickyardref05_Device) (G_0 : Nat) (V0_0 : Value) (O0_0 : Own (kI .u64) 22 w 0 V0_0 a0.Lasts) (V0_1 : Value) (O0_1 : Own (kI .u64) 22 w 0 V0_1 a0.Stored) (V0_2 : Value) (O0_2 : Own (kI .u64) 22 w 0 V0_2 a0.Sent) (V0_3 : Value) (O0_3 : Own kB 4 w 0 V0_3 a0.Flushed) (V0_4 : Value) (O0_4 : Own (kI .i64) 3 w 0 V0_4 a0.Plan) (b_0 : Blk w G_0 65 [Seg.cell V0_0 O0_0.one, Seg.cell V0_1 O0_1.one, Seg.cell V0_2 O0_2.one, Seg.cell V0_3 O0_3.one, Seg.cell V0_4 O0_4.one, Seg.cell (.int .i64 a0.Since), Seg.cell (.int .i64 a0.Left), Seg.cell (.int .i64 a0.Steps)]) (A_R0_0_R0_1 : OffV V0_0 V0_1) (A_R0_0_R0_2 : OffV V0_0 V0_2) (A_R0_1_R0_2 : OffV V0_1 V0_2) (r : S_rickyardref05_Device) (h : rickyardref05_Device_step.f fu a0 = some r) :
  Calls Try.prog 125 (([.pointer (some ⟨G_0, 0, none⟩)] : List Value).toArray) w (fun e w' => ∃ v, e = .returned v ∧ ∃ u1 : Value, ∃ u4 : Value, ∃ u7 : Value, ∃ u10 : Value, ∃ u13 : Value, ∃ o2 : Own (kI .u64) 22 w' 0 u1 r.Lasts, ∃ m3 : ∀ g, Value.ownBlock u1 = some g → w.heap.size ≤ g ∨ (g = G_0 ∨ some g = Value.ownBlock V0_0 ∨ some g = Value.ownBlock V0_1 ∨ some g = Value.ownBlock V0_2 ∨ some g = Value.ownBlock V0_3 ∨ some g = Value.ownBlock V0_4), ∃ o5 : Own (kI .u64) 22 w' 0 u4 r.Stored, ∃ m6 : ∀ g, Value.ownBlock u4 = some g → w.heap.size ≤ g ∨ (g = G_0 ∨ some g = Value.ownBlock V0_0 ∨ some g = Value.ownBlock V0_1 ∨ some g = Value.ownBlock V0_2 ∨ some g = Value.ownBlock V0_3 ∨ some g = Value.ownBlock V0_4), ∃ o8 : Own (kI .u64) 22 w' 0 u7 r.Sent, ∃ m9 : ∀ g, Value.ownBlock u7 = some g → w.heap.size ≤ g ∨ (g = G_0 ∨ some g = Value.ownBlock V0_0 ∨ some g = Value.ownBlock V0_1 ∨ some g = Value.ownBlock V0_2 ∨ some g = Value.ownBlock V0_3 ∨ some g = Value.ownBlock V0_4), ∃ o11 : Own kB 4 w' 0 u10 r.Flushed, ∃ m12 : ∀ g, Value.ownBlock u10 = some g → w.heap.size ≤ g ∨ (g = G_0 ∨ some g = Value.ownBlock V0_0 ∨ some g = Value.ownBlock V0_1 ∨ some g = Value.ownBlock V0_2 ∨ some g = Value.ownBlock V0_3 ∨ some g = Value.ownBlock V0_4), ∃ o14 : Own (kI .i64) 3 w' 0 u13 r.Plan, ∃ m15 : ∀ g, Value.ownBlock u13 = some g → w.heap.size ≤ g ∨ (g = G_0 ∨ some g = Value.ownBlock V0_0 ∨ some g = Value.ownBlock V0_1 ∨ some g = Value.ownBlock V0_2 ∨ some g = Value.ownBlock V0_3 ∨ some g = Value.ownBlock V0_4), ∃ a16 : OffV u1 u4, ∃ a17 : OffV u1 u7, ∃ a18 : OffV u4 u7, v = .tuple #[] ∧ Blk w' G_0 65 [Seg.cell u1 o2.one, Seg.cell u4 o5.one, Seg.cell u7 o8.one, Seg.cell u10 o11.one, Seg.cell u13 o14.one, Seg.cell (.int .i64 r.Since), Seg.cell (.int .i64 r.Left), Seg.cell (.int .i64 r.Steps)] ∧ Fr (fun j => j = G_0 ∨ some j = Value.ownBlock V0_0 ∨ some j = Value.ownBlock V0_1 ∨ some j = Value.ownBlock V0_2 ∨ some j = Value.ownBlock V0_3 ∨ some j = Value.ownBlock V0_4) w w') := by
 unfold rickyardref05_Device_step.f at h
 have fB : Fr (fun j => j = G_0 ∨ some j = Value.ownBlock V0_0 ∨ some j = Value.ownBlock V0_1 ∨ some j = Value.ownBlock V0_2 ∨ some j = Value.ownBlock V0_3 ∨ some j = Value.ownBlock V0_4) w w := Fr.refl _ _
 have M0_0 : ∀ g, Value.ownBlock V0_0 = some g → w.heap.size ≤ g ∨ (g = G_0 ∨ some g = Value.ownBlock V0_0 ∨ some g = Value.ownBlock V0_1 ∨ some g = Value.ownBlock V0_2 ∨ some g = Value.ownBlock V0_3 ∨ some g = Value.ownBlock V0_4) := fun g hg => .inr (.inr (.inl hg.symm))
 have M0_1 : ∀ g, Value.ownBlock V0_1 = some g → w.heap.size ≤ g ∨ (g = G_0 ∨ some g = Value.ownBlock V0_0 ∨ some g = Value.ownBlock V0_1 ∨ some g = Value.ownBlock V0_2 ∨ some g = Value.ownBlock V0_3 ∨ some g = Value.ownBlock V0_4) := fun g hg => .inr (.inr (.inr (.inl hg.symm)))
 have M0_2 : ∀ g, Value.ownBlock V0_2 = some g → w.heap.size ≤ g ∨ (g = G_0 ∨ some g = Value.ownBlock V0_0 ∨ some g = Value.ownBlock V0_1 ∨ some g = Value.ownBlock V0_2 ∨ some g = Value.ownBlock V0_3 ∨ some g = Value.ownBlock V0_4) := fun g hg => .inr (.inr (.inr (.inr (.inl hg.symm))))
 have M0_3 : ∀ g, Value.ownBlock V0_3 = some g → w.heap.size ≤ g ∨ (g = G_0 ∨ some g = Value.ownBlock V0_0 ∨ some g = Value.ownBlock V0_1 ∨ some g = Value.ownBlock V0_2 ∨ some g = Value.ownBlock V0_3 ∨ some g = Value.ownBlock V0_4) := fun g hg => .inr (.inr (.inr (.inr (.inr (.inl hg.symm)))))
 have M0_4 : ∀ g, Value.ownBlock V0_4 = some g → w.heap.size ≤ g ∨ (g = G_0 ∨ some g = Value.ownBlock V0_0 ∨ some g = Value.ownBlock V0_1 ∨ some g = Value.ownBlock V0_2 ∨ some g = Value.ownBlock V0_3 ∨ some g = Value.ownBlock V0_4) := fun g hg => .inr (.inr (.inr (.inr (.inr (.inr hg.symm)))))
 refine calls_cw Try.func125 rfl Try.ntmps125 rfl ?_
 refine cw_seq ?_
 refine cw_region ?_
 refine ol_val (v := .pointer (some ⟨G_0, 0, none⟩)) (by exact xr_move rfl rfl) rfl rfl rfl ?_
 refine ol_val (v := .pointer (some ⟨G_0, 0, none⟩)) (by exact xr_nilCheck rfl rfl) rfl rfl rfl ?_
 refine ol_val (v := .pointer (some ⟨G_0, 0, none⟩)) (by exact xr_fieldAddr (p := 0) (q := 0) rfl fl65_0 rfl) rfl rfl rfl ?_
 refine ol_val (v := V0_0) (by exact xr_load1 (v := V0_0) rfl ag46 rfl (b_0.seg 0 rfl rfl)) rfl rfl rfl ?_
 refine ol_val (v := .int .i64 (List.length a0.Lasts : Int)) (by exact xr_lenR rfl Try.underlying46 rfl O0_0.rd) rfl rfl rfl ?_
 refine ol_val (v := .int .i64 (List.length a0.Lasts : Int)) (by exact xr_assign rfl rfl) rfl rfl rfl ?_
 refine ol_nil ?_
 refine cw_seq ?_
 refine cw_seq ?_
 refine cw_mid (fun ρ' w' => ρ' 0 = .pointer (some ⟨G_0, 0, none⟩) ∧ ρ' 2 = .int .i64 (List.length a0.Lasts : Int) ∧ ρ' 18 = .bool (if (decide ((List.length a0.Plan : Int) > 0)) = true then (decide ((List.length a0.Lasts : Int) > 0)) else false) ∧ w = w') ?_ ?_
 ·skip
  refine cw_region ?_
  refine ol_val (v := .pointer (some ⟨G_0, 0, none⟩)) (by exact xr_move rfl rfl) rfl rfl rfl ?_
  refine ol_val (v := .pointer (some ⟨G_0, 0, none⟩)) (by exact xr_nilCheck rfl rfl) rfl rfl rfl ?_
  refine ol_val (v := .pointer (some ⟨G_0, 4, none⟩)) (by exact xr_fieldAddr (p := 0) (q := 4) rfl fl65_4 rfl) rfl rfl rfl ?_
  refine ol_val (v := V0_4) (by exact xr_load1 (v := V0_4) rfl ag25 rfl (b_0.seg 4 rfl rfl)) rfl rfl rfl ?_
  refine ol_val (v := .int .i64 (List.length a0.Plan : Int)) (by exact xr_lenR rfl Try.underlying25 rfl O0_4.rd) rfl rfl rfl ?_
  refine ol_val (v := .bool (decide ((List.length a0.Plan : Int) > 0))) (by exact xr_gtr rfl rfl rfl) rfl rfl rfl ?_
  refine ol_val (v := .bool (decide ((List.length a0.Plan : Int) > 0))) (by exact xr_move rfl rfl) rfl rfl rfl ?_
  rcases bt (decide ((List.length a0.Plan : Int) > 0)) with c19 | c19
  ·skip
   refine ol_gval (v := .int .i64 (List.length a0.Lasts : Int)) (by exact xr_move rfl rfl) rfl rfl rfl rfl rfl c19 ?_
   refine ol_gval (v := .bool (decide ((List.length a0.Lasts : Int) > 0))) (by exact xr_gtr rfl rfl rfl) rfl rfl rfl rfl rfl c19 ?_
   refine ol_val (v := .bool (decide ((List.length a0.Lasts : Int) > 0))) (by exact xr_pickT rfl rfl c19 rfl) rfl rfl rfl ?_
   refine ol_nil ?_
   refine thn_i ?_
   exact ⟨rfl, rfl, (rfl).trans (congrArg (fun z => (.bool z : Value)) (show (decide ((List.length a0.Lasts : Int) > 0)) = (if (decide ((List.length a0.Plan : Int) > 0)) = true then (decide ((List.length a0.Lasts : Int) > 0)) else false) from by rw [ite_t c19])), rfl⟩
  refine ol_gskip rfl rfl rfl rfl rfl c19 ?_
  refine ol_gskip rfl rfl rfl rfl rfl c19 ?_
  refine ol_val (v := .bool false) (by exact xr_pickF rfl rfl c19 rfl) rfl rfl rfl ?_
  refine ol_nil ?_
  refine thn_i ?_
  exact ⟨rfl, rfl, (rfl).trans (congrArg (fun z => (.bool z : Value)) (show false = (if (decide ((List.length a0.Plan : Int) > 0)) = true then (decide ((List.length a0.Lasts : Int) > 0)) else false) from by rw [ite_f c19])), rfl⟩
 rintro ρ20 _ ⟨e0, e2, e18, rfl⟩
 obtain ⟨x21, j22, h23⟩ := bs h
 refine cw_mid (fun ρ' w' => ∃ v24 : Value, ∃ v28 : Value, ∃ v32 : Value, ∃ v36 : Value, ∃ v40 : Value, ∃ o25 : Own (kI .u64) 22 w' 0 v24 x21.1, ∃ o29 : Own (kI .u64) 22 w' 0 v28 x21.2.1, ∃ o33 : Own (kI .u64) 22 w' 0 v32 x21.2.2.1, ∃ o37 : Own kB 4 w' 0 v36 x21.2.2.2.1, ∃ o41 : Own (kI .i64) 3 w' 0 v40 x21.2.2.2.2.1, ∃ m27 : ∀ g, Value.ownBlock v24 = some g → w.heap.size ≤ g ∨ (g = G_0 ∨ some g = Value.ownBlock V0_0 ∨ some g = Value.ownBlock V0_1 ∨ some g = Value.ownBlock V0_2 ∨ some g = Value.ownBlock V0_3 ∨ some g = Value.ownBlock V0_4), ∃ m31 : ∀ g, Value.ownBlock v28 = some g → w.heap.size ≤ g ∨ (g = G_0 ∨ some g = Value.ownBlock V0_0 ∨ some g = Value.ownBlock V0_1 ∨ some g = Value.ownBlock V0_2 ∨ some g = Value.ownBlock V0_3 ∨ some g = Value.ownBlock V0_4), ∃ m35 : ∀ g, Value.ownBlock v32 = some g → w.heap.size ≤ g ∨ (g = G_0 ∨ some g = Value.ownBlock V0_0 ∨ some g = Value.ownBlock V0_1 ∨ some g = Value.ownBlock V0_2 ∨ some g = Value.ownBlock V0_3 ∨ some g = Value.ownBlock V0_4), ∃ m39 : ∀ g, Value.ownBlock v36 = some g → w.heap.size ≤ g ∨ (g = G_0 ∨ some g = Value.ownBlock V0_0 ∨ some g = Value.ownBlock V0_1 ∨ some g = Value.ownBlock V0_2 ∨ some g = Value.ownBlock V0_3 ∨ some g = Value.ownBlock V0_4), ∃ m43 : ∀ g, Value.ownBlock v40 = some g → w.heap.size ≤ g ∨ (g = G_0 ∨ some g = Value.ownBlock V0_0 ∨ some g = Value.ownBlock V0_1 ∨ some g = Value.ownBlock V0_2 ∨ some g = Value.ownBlock V0_3 ∨ some g = Value.ownBlock V0_4), OffV v24 v28 ∧ OffV v24 v32 ∧ OffV v28 v32 ∧ ρ' 0 = .pointer (some ⟨G_0, 0, none⟩) ∧ Blk w' G_0 65 [Seg.cell v24 o25.one, Seg.cell v28 o29.one, Seg.cell v32 o33.one, Seg.cell v36 o37.one, Seg.cell v40 o41.one, Seg.cell (.int .i64 x21.2.2.2.2.2.1), Seg.cell (.int .i64 x21.2.2.2.2.2.2.1), Seg.cell (.int .i64 x21.2.2.2.2.2.2.2)] ∧ Fr (fun j => j = G_0 ∨ some j = Value.ownBlock V0_0 ∨ some j = Value.ownBlock V0_1 ∨ some j = Value.ownBlock V0_2 ∨ some j = Value.ownBlock V0_3 ∨ some j = Value.ownBlock V0_4) w w') ?_ ?_
 ·have h := j22
  rcases is h with ⟨c47, h⟩ | ⟨c47, h⟩
  ·refine cw_condT e18 c47 ?_
   refine cw_seq ?_
   obtain ⟨g48, h⟩ := gs h
   refine cw_drawL 14 [fun vz wz => vz = (.pointer (some ⟨G_0, 0, none⟩) : Value), fun vz wz => vz = (.pointer (some ⟨G_0, 0, none⟩) : Value), fun vz wz => vz = (.pointer (some ⟨G_0, 4, none⟩) : Value), fun vz wz => vz = (V0_4 : Value), fun vz wz => vz = (.pointer (some ⟨G_0, 0, none⟩) : Value), fun vz wz => vz = (.pointer (some ⟨G_0, 0, none⟩) : Value), fun vz wz => vz = (.pointer (some ⟨G_0, 5, none⟩) : Value), fun vz wz => vz = (.int .i64 a0.Since : Value), fun vz wz => vz = (.pointer (some ⟨G_0, 0, none⟩) : Value), fun vz wz => vz = (.pointer (some ⟨G_0, 0, none⟩) : Value), fun vz wz => vz = (.pointer (some ⟨G_0, 4, none⟩) : Value), fun vz wz => vz = (V0_4 : Value), fun vz wz => vz = (.int .i64 (List.length a0.Plan : Int) : Value), fun vz wz => vz = (.int .i64 (Int.tmod a0.Since (List.length a0.Plan : Int)) : Value)] mo rfl ⟨fun _ _ _ h _ => h, fun _ _ _ h _ => h, fun _ _ _ h _ => h, fun _ _ _ h _ => h, fun _ _ _ h _ => h, fun _ _ _ h _ => h, fun _ _ _ h _ => h, fun _ _ _ h _ => h, fun _ _ _ h _ => h, fun _ _ _ h _ => h, fun _ _ _ h _ => h, fun _ _ _ h _ => h, fun _ _ _ h _ => h, fun _ _ _ h _ => h, trivial⟩ ?_ ?_
   ·refine ⟨?_, ?_, ?_, ?_, ?_, ?_, ?_, ?_, ?_, ?_, ?_, ?_, ?_, ?_, trivial⟩
    ·intro ρz wz hz hk hd
     exact sk_val (v := .pointer (some ⟨G_0, 0, none⟩)) (by exact xr_move rfl ((hk 0 rfl).trans e0)) rfl rfl
    ·intro ρz wz hz hk hd
     have d19 := hd 0 rfl 19 rfl
     exact sk_val (v := .pointer (some ⟨G_0, 0, none⟩)) (by exact xr_nilCheck rfl d19) rfl rfl
    ·intro ρz wz hz hk hd
     have d20 := hd 1 rfl 20 rfl
     exact sk_val (v := .pointer (some ⟨G_0, 4, none⟩)) (by exact xr_fieldAddr (p := 0) (q := 4) rfl fl65_4 d20) rfl rfl
    ·intro ρz wz hz hk hd
     have d21 := hd 2 rfl 21 rfl
     exact sk_val (v := V0_4) (by exact xr_load1 (v := V0_4) rfl ag25 d21 ((b_0.gr hz).seg 4 rfl rfl)) rfl rfl
    ·intro ρz wz hz hk hd
     exact sk_val (v := .pointer (some ⟨G_0, 0, none⟩)) (by exact xr_move rfl ((hk 0 rfl).trans e0)) rfl rfl
    ·intro ρz wz hz hk hd
     have d23 := hd 4 rfl 23 rfl
     exact sk_val (v := .pointer (some ⟨G_0, 0, none⟩)) (by exact xr_nilCheck rfl d23) rfl rfl
    ·intro ρz wz hz hk hd
     have d24 := hd 5 rfl 24 rfl
     exact sk_val (v := .pointer (some ⟨G_0, 5, none⟩)) (by exact xr_fieldAddr (p := 0) (q := 5) rfl fl65_5 d24) rfl rfl
    ·intro ρz wz hz hk hd
     have d25 := hd 6 rfl 25 rfl
     exact sk_val (v := .int .i64 a0.Since) (by exact xr_load1 (v := .int .i64 a0.Since) rfl ag3 d25 ((b_0.gr hz).seg 5 rfl rfl)) rfl rfl
    ·intro ρz wz hz hk hd
     exact sk_val (v := .pointer (some ⟨G_0, 0, none⟩)) (by exact xr_move rfl ((hk 0 rfl).trans e0)) rfl rfl
    ·intro ρz wz hz hk hd
     have d27 := hd 8 rfl 27 rfl
     exact sk_val (v := .pointer (some ⟨G_0, 0, none⟩)) (by exact xr_nilCheck rfl d27) rfl rfl
    ·intro ρz wz hz hk hd
     have d28 := hd 9 rfl 28 rfl
     exact sk_val (v := .pointer (some ⟨G_0, 4, none⟩)) (by exact xr_fieldAddr (p := 0) (q := 4) rfl fl65_4 d28) rfl rfl
    ·intro ρz wz hz hk hd
     have d29 := hd 10 rfl 29 rfl
     exact sk_val (v := V0_4) (by exact xr_load1 (v := V0_4) rfl ag25 d29 ((b_0.gr hz).seg 4 rfl rfl)) rfl rfl
    ·intro ρz wz hz hk hd
     have d30 := hd 11 rfl 30 rfl
     exact sk_val (v := .int .i64 (List.length a0.Plan : Int)) (by exact xr_lenR rfl Try.underlying25 d30 (O0_4.gr hz).rd) rfl rfl
    intro ρz wz hz hk hd
    have d26 := hd 7 rfl 26 rfl
    have d31 := hd 12 rfl 31 rfl
    exact sk_val (v := .int .i64 (Int.tmod a0.Since (List.length a0.Plan : Int))) (by exact xr_rem rfl d26 d31 g48) rfl rfl
   intro ρ49 w50 q51 hk hd
   have e0 := (hk 0 rfl).trans e0
   have e2 := (hk 2 rfl).trans e2
   have e22 := hd 3 rfl 22 rfl
   have e32 := hd 13 rfl 32 rfl
   have b_0 := b_0.gr q51
   have O0_0 := O0_0.gr q51
   have O0_1 := O0_1.gr q51
   have O0_2 := O0_2.gr q51
   have O0_3 := O0_3.gr q51
   have O0_4 := O0_4.gr q51
   have fB := fB.gr q51
   obtain ⟨g52, h⟩ := gs h
   refine ol_val (v := .pointer (some ⟨(sb V0_4), so V0_4 + Int.toNat (Int.tmod a0.Since (List.length a0.Plan : Int)) * 1, none⟩)) (by exact xr_indexR (K := (kI .i64)) (v := V0_4) rfl Try.underlying25 sz3 e22 O0_4.rd e32 g52.1 g52.2) rfl rfl rfl ?_
   refine ol_val (v := .int .i64 (ix a0.Plan (Int.tmod a0.Since (List.length a0.Plan : Int)))) (by exact xr_load1 (v := .int .i64 (ix a0.Plan (Int.tmod a0.Since (List.length a0.Plan : Int)))) rfl ag3 rfl (O0_4.rd.elem g52.1 g52.2)) rfl rfl rfl ?_
   refine ol_val (v := .int .i64 (ix a0.Plan (Int.tmod a0.Since (List.length a0.Plan : Int)))) (by exact xr_assign rfl rfl) rfl rfl rfl ?_
   refine ol_nil ?_
   refine cw_seq ?_
   refine cw_region ?_
   refine ol_val (v := .int .i64 (ix a0.Plan (Int.tmod a0.Since (List.length a0.Plan : Int)))) (by exact xr_move rfl rfl) rfl rfl rfl ?_
   refine ol_val (v := .bool (decide ((ix a0.Plan (Int.tmod a0.Since (List.length a0.Plan : Int))) ≥ 0))) (by exact xr_geq rfl rfl rfl) rfl rfl rfl ?_
   refine ol_nil ?_
   obtain ⟨x53, j54, h55⟩ := bs h
   refine cw_mid (fun ρ' w' => ∃ v56 : Value, ∃ v60 : Value, ∃ v64 : Value, ∃ v68 : Value, ∃ v72 : Value, ∃ o57 : Own (kI .u64) 22 w' 0 v56 x53.1, ∃ o61 : Own (kI .u64) 22 w' 0 v60 x53.2.1, ∃ o65 : Own (kI .u64) 22 w' 0 v64 x53.2.2.1, ∃ o69 : Own kB 4 w' 0 v68 x53.2.2.2.1, ∃ o73 : Own (kI .i64) 3 w' 0 v72 x53.2.2.2.2.1, ∃ m59 : ∀ g, Value.ownBlock v56 = some g → w.heap.size ≤ g ∨ (g = G_0 ∨ some g = Value.ownBlock V0_0 ∨ some g = Value.ownBlock V0_1 ∨ some g = Value.ownBlock V0_2 ∨ some g = Value.ownBlock V0_3 ∨ some g = Value.ownBlock V0_4), ∃ m63 : ∀ g, Value.ownBlock v60 = some g → w.heap.size ≤ g ∨ (g = G_0 ∨ some g = Value.ownBlock V0_0 ∨ some g = Value.ownBlock V0_1 ∨ some g = Value.ownBlock V0_2 ∨ some g = Value.ownBlock V0_3 ∨ some g = Value.ownBlock V0_4), ∃ m67 : ∀ g, Value.ownBlock v64 = some g → w.heap.size ≤ g ∨ (g = G_0 ∨ some g = Value.ownBlock V0_0 ∨ some g = Value.ownBlock V0_1 ∨ some g = Value.ownBlock V0_2 ∨ some g = Value.ownBlock V0_3 ∨ some g = Value.ownBlock V0_4), ∃ m71 : ∀ g, Value.ownBlock v68 = some g → w.heap.size ≤ g ∨ (g = G_0 ∨ some g = Value.ownBlock V0_0 ∨ some g = Value.ownBlock V0_1 ∨ some g = Value.ownBlock V0_2 ∨ some g = Value.ownBlock V0_3 ∨ some g = Value.ownBlock V0_4), ∃ m75 : ∀ g, Value.ownBlock v72 = some g → w.heap.size ≤ g ∨ (g = G_0 ∨ some g = Value.ownBlock V0_0 ∨ some g = Value.ownBlock V0_1 ∨ some g = Value.ownBlock V0_2 ∨ some g = Value.ownBlock V0_3 ∨ some g = Value.ownBlock V0_4), OffV v56 v60 ∧ OffV v56 v64 ∧ OffV v60 v64 ∧ ρ' 0 = .pointer (some ⟨G_0, 0, none⟩) ∧ Blk w' G_0 65 [Seg.cell v56 o57.one, Seg.cell v60 o61.one, Seg.cell v64 o65.one, Seg.cell v68 o69.one, Seg.cell v72 o73.one, Seg.cell (.int .i64 x53.2.2.2.2.2.1), Seg.cell (.int .i64 x53.2.2.2.2.2.2.1), Seg.cell (.int .i64 x53.2.2.2.2.2.2.2)] ∧ Fr (fun j => j = G_0 ∨ some j = Value.ownBlock V0_0 ∨ some j = Value.ownBlock V0_1 ∨ some j = Value.ownBlock V0_2 ∨ some j = Value.ownBlock V0_3 ∨ some j = Value.ownBlock V0_4) w w') ?_ ?_
   ·have h := j54
    rcases is h with ⟨c79, h⟩ | ⟨c79, h⟩
    ·refine cw_condT rfl c79 ?_
     obtain ⟨g80, h⟩ := gs h
     obtain ⟨g81, h⟩ := gs h
     obtain ⟨g82, h⟩ := gs h
     refine cw_drawL 13 [fun vz wz => vz = (.pointer (some ⟨G_0, 0, none⟩) : Value), fun vz wz => vz = (.int .i64 (ix a0.Plan (Int.tmod a0.Since (List.length a0.Plan : Int))) : Value), fun vz wz => vz = (.int .i64 (List.length a0.Lasts : Int) : Value), fun vz wz => vz = (.int .i64 (Int.tmod (ix a0.Plan (Int.tmod a0.Since (List.length a0.Plan : Int))) (List.length a0.Lasts : Int)) : Value), fun vz wz => vz = (.pointer (some ⟨G_0, 0, none⟩) : Value), fun vz wz => vz = (.pointer (some ⟨G_0, 0, none⟩) : Value), fun vz wz => vz = (.pointer (some ⟨G_0, 1, none⟩) : Value), fun vz wz => vz = (V0_1 : Value), fun vz wz => vz = (.int .i64 (ix a0.Plan (Int.tmod a0.Since (List.length a0.Plan : Int))) : Value), fun vz wz => vz = (.int .i64 (List.length a0.Lasts : Int) : Value), fun vz wz => vz = (.int .i64 (Int.tmod (ix a0.Plan (Int.tmod a0.Since (List.length a0.Plan : Int))) (List.length a0.Lasts : Int)) : Value), fun vz wz => vz = (.pointer (some ⟨(sb V0_1), so V0_1 + Int.toNat (Int.tmod (ix a0.Plan (Int.tmod a0.Since (List.length a0.Plan : Int))) (List.length a0.Lasts : Int)) * 1, none⟩) : Value), fun vz wz => vz = (.int .u64 (ix a0.Stored (Int.tmod (ix a0.Plan (Int.tmod a0.Since (List.length a0.Plan : Int))) (List.length a0.Lasts : Int))) : Value)] mo rfl ⟨fun _ _ _ h _ => h, fun _ _ _ h _ => h, fun _ _ _ h _ => h, fun _ _ _ h _ => h, fun _ _ _ h _ => h, fun _ _ _ h _ => h, fun _ _ _ h _ => h, fun _ _ _ h _ => h, fun _ _ _ h _ => h, fun _ _ _ h _ => h, fun _ _ _ h _ => h, fun _ _ _ h _ => h, fun _ _ _ h _ => h, trivial⟩ ?_ ?_
     ·refine ⟨?_, ?_, ?_, ?_, ?_, ?_, ?_, ?_, ?_, ?_, ?_, ?_, ?_, trivial⟩
      ·intro ρz wz hz hk hd
       exact sk_val (v := .pointer (some ⟨G_0, 0, none⟩)) (by exact xr_move rfl ((hk 0 rfl).trans e0)) rfl rfl
      ·intro ρz wz hz hk hd
       exact sk_val (by exact xr_move rfl ((hk 3 rfl).trans rfl)) rfl rfl
      ·intro ρz wz hz hk hd
       exact sk_val (v := .int .i64 (List.length a0.Lasts : Int)) (by exact xr_move rfl ((hk 2 rfl).trans e2)) rfl rfl
      ·intro ρz wz hz hk hd
       have d38 := hd 1 rfl 38 rfl
       have d39 := hd 2 rfl 39 rfl
       exact sk_val (by exact xr_rem rfl d38 d39 g80) rfl rfl
      ·intro ρz wz hz hk hd
       exact sk_val (v := .pointer (some ⟨G_0, 0, none⟩)) (by exact xr_move rfl ((hk 0 rfl).trans e0)) rfl rfl
      ·intro ρz wz hz hk hd
       have d41 := hd 4 rfl 41 rfl
       exact sk_val (v := .pointer (some ⟨G_0, 0, none⟩)) (by exact xr_nilCheck rfl d41) rfl rfl
      ·intro ρz wz hz hk hd
       have d42 := hd 5 rfl 42 rfl
       exact sk_val (v := .pointer (some ⟨G_0, 1, none⟩)) (by exact xr_fieldAddr (p := 0) (q := 1) rfl fl65_1 d42) rfl rfl
      ·intro ρz wz hz hk hd
       have d43 := hd 6 rfl 43 rfl
       exact sk_val (v := V0_1) (by exact xr_load1 (v := V0_1) rfl ag46 d43 ((b_0.gr hz).seg 1 rfl rfl)) rfl rfl
      ·intro ρz wz hz hk hd
       exact sk_val (by exact xr_move rfl ((hk 3 rfl).trans rfl)) rfl rfl
      ·intro ρz wz hz hk hd
       exact sk_val (v := .int .i64 (List.length a0.Lasts : Int)) (by exact xr_move rfl ((hk 2 rfl).trans e2)) rfl rfl
      ·intro ρz wz hz hk hd
       have d45 := hd 8 rfl 45 rfl
       have d46 := hd 9 rfl 46 rfl
       exact sk_val (by exact xr_rem rfl d45 d46 g81) rfl rfl
      ·intro ρz wz hz hk hd
       have d44 := hd 7 rfl 44 rfl
       have d47 := hd 10 rfl 47 rfl
       exact sk_val (by exact xr_indexR (K := (kI .u64)) (v := V0_1) rfl Try.underlying46 sz22 d44 (O0_1.gr hz).rd d47 g82.1 g82.2) rfl rfl
      intro ρz wz hz hk hd
      have d48 := hd 11 rfl 48 rfl
      exact sk_val (by exact xr_load1 (v := .int .u64 (ix a0.Stored (Int.tmod (ix a0.Plan (Int.tmod a0.Since (List.length a0.Plan : Int))) (List.length a0.Lasts : Int)))) rfl ag22 d48 ((O0_1.gr hz).rd.elem g82.1 g82.2)) rfl rfl
     intro ρ83 w84 q85 hk hd
     have e0 := (hk 0 rfl).trans e0
     have e37 := hd 0 rfl 37 rfl
     have e40 := hd 3 rfl 40 rfl
     have e49 := hd 12 rfl 49 rfl
     have b_0 := b_0.gr q85
     have O0_0 := O0_0.gr q85
     have O0_1 := O0_1.gr q85
     have O0_2 := O0_2.gr q85
     have O0_3 := O0_3.gr q85
     have O0_4 := O0_4.gr q85
     have fB := fB.gr q85
     obtain ⟨t86, k87, h⟩ := bs h
     have c112 : ∀ k, (k = G_0 ∨ some k = Value.ownBlock V0_0 ∨ some k = Value.ownBlock V0_1 ∨ some k = Value.ownBlock V0_2 ∨ some k = Value.ownBlock V0_3 ∨ some k = Value.ownBlock V0_4) → (w.heap.size ≤ k ∨ (k = G_0 ∨ some k = Value.ownBlock V0_0 ∨ some k = Value.ownBlock V0_1 ∨ some k = Value.ownBlock V0_2 ∨ some k = Value.ownBlock V0_3 ∨ some k = Value.ownBlock V0_4)) := (cv_or (cv_eq (.inr (.inl rfl))) (cv_or (cv_own M0_0) (cv_or (cv_own M0_1) (cv_or (cv_own M0_2) (cv_or (cv_own M0_3) (cv_own M0_4))))))
     refine ol_op (by exact opv_call rfl cal126 (ac e37 (ac e40 (ac e49 an))) (rickyardref05_Device_last.ok fu _ a0 G_0 V0_0 (Own.base O0_0 (Nat.zero_le _)) V0_1 (Own.base O0_1 (Nat.zero_le _)) V0_2 (Own.base O0_2 (Nat.zero_le _)) V0_3 (Own.base O0_3 (Nat.zero_le _)) V0_4 (Own.base O0_4 (Nat.zero_le _)) b_0 (Int.tmod (ix a0.Plan (Int.tmod a0.Since (List.length a0.Plan : Int))) (List.length a0.Lasts : Int)) (ix a0.Stored (Int.tmod (ix a0.Plan (Int.tmod a0.Since (List.length a0.Plan : Int))) (List.length a0.Lasts : Int))) A_R0_0_R0_1 A_R0_0_R0_2 A_R0_1_R0_2 _ k87)) rfl rfl rfl ?_
     rintro _ w113 ⟨u89, u93, u97, u101, u105, o90, m91, o94, m95, o98, m99, o102, m103, o106, m107, a109, a110, a111, rfl, b_0, q88⟩
     have m91 : ∀ g, Value.ownBlock u89 = some g → w.heap.size ≤ g ∨ (g = G_0 ∨ some g = Value.ownBlock V0_0 ∨ some g = Value.ownBlock V0_1 ∨ some g = Value.ownBlock V0_2 ∨ some g = Value.ownBlock V0_3 ∨ some g = Value.ownBlock V0_4) := fun g hg => (m91 g hg).elim (fun x => .inl (Nat.le_trans fB.size x)) (c112 g)
     have m95 : ∀ g, Value.ownBlock u93 = some g → w.heap.size ≤ g ∨ (g = G_0 ∨ some g = Value.ownBlock V0_0 ∨ some g = Value.ownBlock V0_1 ∨ some g = Value.ownBlock V0_2 ∨ some g = Value.ownBlock V0_3 ∨ some g = Value.ownBlock V0_4) := fun g hg => (m95 g hg).elim (fun x => .inl (Nat.le_trans fB.size x)) (c112 g)
     have m99 : ∀ g, Value.ownBlock u97 = some g → w.heap.size ≤ g ∨ (g = G_0 ∨ some g = Value.ownBlock V0_0 ∨ some g = Value.ownBlock V0_1 ∨ some g = Value.ownBlock V0_2 ∨ some g = Value.ownBlock V0_3 ∨ some g = Value.ownBlock V0_4) := fun g hg => (m99 g hg).elim (fun x => .inl (Nat.le_trans fB.size x)) (c112 g)
     have m103 : ∀ g, Value.ownBlock u101 = some g → w.heap.size ≤ g ∨ (g = G_0 ∨ some g = Value.ownBlock V0_0 ∨ some g = Value.ownBlock V0_1 ∨ some g = Value.ownBlock V0_2 ∨ some g = Value.ownBlock V0_3 ∨ some g = Value.ownBlock V0_4) := fun g hg => (m103 g hg).elim (fun x => .inl (Nat.le_trans fB.size x)) (c112 g)
     have m107 : ∀ g, Value.ownBlock u105 = some g → w.heap.size ≤ g ∨ (g = G_0 ∨ some g = Value.ownBlock V0_0 ∨ some g = Value.ownBlock V0_1 ∨ some g = Value.ownBlock V0_2 ∨ some g = Value.ownBlock V0_3 ∨ some g = Value.ownBlock V0_4) := fun g hg => (m107 g hg).elim (fun x => .inl (Nat.le_trans fB.size x)) (c112 g)
     have fB := fB.call q88 c112
     refine ol_nil ?_
     obtain rfl := Option.some.inj h
     refine thn_i ?_
     exact ⟨u89, u93, u97, u101, u105, o90, o94, o98, o102, o106, m91, m95, m99, m103, m107, a109, a110, a111, e0, b_0, fB⟩
    refine cw_condF rfl c79 ?_
    refine cw_skip ?_
    obtain rfl := Option.some.inj h
    refine thn_i ?_
    exact ⟨V0_0, V0_1, V0_2, V0_3, V0_4, O0_0, O0_1, O0_2, O0_3, O0_4, M0_0, M0_1, M0_2, M0_3, M0_4, A_R0_0_R0_1, A_R0_0_R0_2, A_R0_1_R0_2, e0, b_0, fB⟩
   rintro ρ114 w115 ⟨v56, v60, v64, v68, v72, o57, o61, o65, o69, o73, m59, m63, m67, m71, m75, a76, a77, a78, e0, b_0, fB⟩
   have h := h55
   obtain rfl := Option.some.inj h
   refine thn_i ?_
   exact ⟨v56, v60, v64, v68, v72, o57, o61, o65, o69, o73, m59, m63, m67, m71, m75, a76, a77, a78, e0, b_0, fB⟩
  refine cw_condF e18 c47 ?_
  refine cw_skip ?_
  obtain rfl := Option.some.inj h
  refine thn_i ?_
  exact ⟨V0_0, V0_1, V0_2, V0_3, V0_4, O0_0, O0_1, O0_2, O0_3, O0_4, M0_0, M0_1, M0_2, M0_3, M0_4, A_R0_0_R0_1, A_R0_0_R0_2, A_R0_1_R0_2, e0, b_0, fB⟩
 rintro ρ116 w117 ⟨v24, v28, v32, v36, v40, o25, o29, o33, o37, o41, m27, m31, m35, m39, m43, a44, a45, a46, e0, b_0, fB⟩
 have h := h23
 refine cw_seq ?_
 refine cw_region ?_
 refine ol_val (v := .pointer (some ⟨G_0, 0, none⟩)) (by exact xr_move rfl e0) rfl rfl rfl ?_
 refine ol_val (v := .pointer (some ⟨G_0, 0, none⟩)) (by exact xr_nilCheck rfl rfl) rfl rfl rfl ?_
 refine ol_val (v := .pointer (some ⟨G_0, 5, none⟩)) (by exact xr_fieldAddr (p := 0) (q := 5) rfl fl65_5 rfl) rfl rfl rfl ?_
 refine ol_val (v := .int .i64 x21.2.2.2.2.2.1) (by exact xr_load1 (v := .int .i64 x21.2.2.2.2.2.1) rfl ag3 rfl (b_0.seg 5 rfl rfl)) rfl rfl rfl ?_
 refine ol_val (v := .int .i64 (IntKind.i64.wrap (x21.2.2.2.2.2.1 + 1))) (by exact xr_add rfl rfl rfl) rfl rfl rfl ?_
 refine ol_val (v := .pointer (some ⟨G_0, 0, none⟩)) (by exact xr_nilCheck rfl rfl) rfl rfl rfl ?_
 refine ol_val (v := .pointer (some ⟨G_0, 5, none⟩)) (by exact xr_fieldAddr (p := 0) (q := 5) rfl fl65_5 rfl) rfl rfl rfl ?_
 have f119 := off_ty b_0 o25 (by decide)
 have f120 := off_ty b_0 o29 (by decide)
 have f121 := off_ty b_0 o33 (by decide)
 have f122 := off_ty b_0 o37 (by decide)
 have f123 := off_ty b_0 o41 (by decide)
 refine ol_op0 (by exact opv_store (ss' := [Seg.cell v24 o25.one, Seg.cell v28 o29.one, Seg.cell v32 o33.one, Seg.cell v36 o37.one, Seg.cell v40 o41.one, Seg.cell (.int .i64 (IntKind.i64.wrap (x21.2.2.2.2.2.1 + 1))), Seg.cell (.int .i64 x21.2.2.2.2.2.2.1), Seg.cell (.int .i64 x21.2.2.2.2.2.2.2)]) (xs := cellsOf [Seg.cell (.int .i64 (IntKind.i64.wrap (x21.2.2.2.2.2.1 + 1)))]) rfl sz3 rfl rfl rfl (len_cellsOf _) (one_cellsOf _) b_0 (Spl.segs _ 5 1 [Seg.cell (.int .i64 (IntKind.i64.wrap (x21.2.2.2.2.2.1 + 1)))] rfl rfl)) rfl rfl ?_
 rintro _ w124 ⟨b_0, q118⟩
 have o25 := o25.wr q118 f119
 have o29 := o29.wr q118 f120
 have o33 := o33.wr q118 f121
 have o37 := o37.wr q118 f122
 have o41 := o41.wr q118 f123
 have fB := fB.wrS q118 (.inl rfl)
 refine ol_nil ?_
 refine cw_seq ?_
 refine cw_region ?_
 refine ol_val (v := .pointer (some ⟨G_0, 0, none⟩)) (by exact xr_move rfl e0) rfl rfl rfl ?_
 refine ol_val (v := .pointer (some ⟨G_0, 0, none⟩)) (by exact xr_nilCheck rfl rfl) rfl rfl rfl ?_
 refine ol_val (v := .pointer (some ⟨G_0, 7, none⟩)) (by exact xr_fieldAddr (p := 0) (q := 7) rfl fl65_7 rfl) rfl rfl rfl ?_
 refine ol_val (v := .int .i64 x21.2.2.2.2.2.2.2) (by exact xr_load1 (v := .int .i64 x21.2.2.2.2.2.2.2) rfl ag3 rfl (b_0.seg 7 rfl rfl)) rfl rfl rfl ?_
 refine ol_val (v := .int .i64 (IntKind.i64.wrap (x21.2.2.2.2.2.2.2 + 1))) (by exact xr_add rfl rfl rfl) rfl rfl rfl ?_
 refine ol_val (v := .pointer (some ⟨G_0, 0, none⟩)) (by exact xr_nilCheck rfl rfl) rfl rfl rfl ?_
 refine ol_val (v := .pointer (some ⟨G_0, 7, none⟩)) (by exact xr_fieldAddr (p := 0) (q := 7) rfl fl65_7 rfl) rfl rfl rfl ?_
 have f126 := off_ty b_0 o25 (by decide)
 have f127 := off_ty b_0 o29 (by decide)
 have f128 := off_ty b_0 o33 (by decide)
 have f129 := off_ty b_0 o37 (by decide)
 have f130 := off_ty b_0 o41 (by decide)
 refine ol_op0 (by exact opv_store (ss' := [Seg.cell v24 o25.one, Seg.cell v28 o29.one, Seg.cell v32 o33.one, Seg.cell v36 o37.one, Seg.cell v40 o41.one, Seg.cell (.int .i64 (IntKind.i64.wrap (x21.2.2.2.2.2.1 + 1))), Seg.cell (.int .i64 x21.2.2.2.2.2.2.1), Seg.cell (.int .i64 (IntKind.i64.wrap (x21.2.2.2.2.2.2.2 + 1)))]) (xs := cellsOf [Seg.cell (.int .i64 (IntKind.i64.wrap (x21.2.2.2.2.2.2.2 + 1)))]) rfl sz3 rfl rfl rfl (len_cellsOf _) (one_cellsOf _) b_0 (Spl.segs _ 7 1 [Seg.cell (.int .i64 (IntKind.i64.wrap (x21.2.2.2.2.2.2.2 + 1)))] rfl rfl)) rfl rfl ?_
 rintro _ w131 ⟨b_0, q125⟩
 have o25 := o25.wr q125 f126
 have o29 := o29.wr q125 f127
 have o33 := o33.wr q125 f128
 have o37 := o37.wr q125 f129
 have o41 := o41.wr q125 f130
 have fB := fB.wrS q125 (.inl rfl)
 refine ol_nil ?_
 refine cw_seq ?_
 refine cw_region ?_
 refine ol_val (v := .pointer (some ⟨G_0, 0, none⟩)) (by exact xr_move rfl e0) rfl rfl rfl ?_
 refine ol_val (v := .pointer (some ⟨G_0, 0, none⟩)) (by exact xr_nilCheck rfl rfl) rfl rfl rfl ?_
 refine ol_val (v := .pointer (some ⟨G_0, 6, none⟩)) (by exact xr_fieldAddr (p := 0) (q := 6) rfl fl65_6 rfl) rfl rfl rfl ?_
 refine ol_val (v := .int .i64 x21.2.2.2.2.2.2.1) (by exact xr_load1 (v := .int .i64 x21.2.2.2.2.2.2.1) rfl ag3 rfl (b_0.seg 6 rfl rfl)) rfl rfl rfl ?_
 refine ol_val (v := .bool (decide (x21.2.2.2.2.2.2.1 > 0))) (by exact xr_gtr rfl rfl rfl) rfl rfl rfl ?_
 refine ol_nil ?_
 obtain ⟨x132, j133, h134⟩ := bs h
 refine cw_mid (fun ρ' w' => ∃ o25 : Own (kI .u64) 22 w' 0 v24 x21.1, ∃ o29 : Own (kI .u64) 22 w' 0 v28 x21.2.1, ∃ o33 : Own (kI .u64) 22 w' 0 v32 x21.2.2.1, ∃ o37 : Own kB 4 w' 0 v36 x21.2.2.2.1, ∃ o41 : Own (kI .i64) 3 w' 0 v40 x21.2.2.2.2.1, ∃ m27 : ∀ g, Value.ownBlock v24 = some g → w.heap.size ≤ g ∨ (g = G_0 ∨ some g = Value.ownBlock V0_0 ∨ some g = Value.ownBlock V0_1 ∨ some g = Value.ownBlock V0_2 ∨ some g = Value.ownBlock V0_3 ∨ some g = Value.ownBlock V0_4), ∃ m31 : ∀ g, Value.ownBlock v28 = some g → w.heap.size ≤ g ∨ (g = G_0 ∨ some g = Value.ownBlock V0_0 ∨ some g = Value.ownBlock V0_1 ∨ some g = Value.ownBlock V0_2 ∨ some g = Value.ownBlock V0_3 ∨ some g = Value.ownBlock V0_4), ∃ m35 : ∀ g, Value.ownBlock v32 = some g → w.heap.size ≤ g ∨ (g = G_0 ∨ some g = Value.ownBlock V0_0 ∨ some g = Value.ownBlock V0_1 ∨ some g = Value.ownBlock V0_2 ∨ some g = Value.ownBlock V0_3 ∨ some g = Value.ownBlock V0_4), ∃ m39 : ∀ g, Value.ownBlock v36 = some g → w.heap.size ≤ g ∨ (g = G_0 ∨ some g = Value.ownBlock V0_0 ∨ some g = Value.ownBlock V0_1 ∨ some g = Value.ownBlock V0_2 ∨ some g = Value.ownBlock V0_3 ∨ some g = Value.ownBlock V0_4), ∃ m43 : ∀ g, Value.ownBlock v40 = some g → w.heap.size ≤ g ∨ (g = G_0 ∨ some g = Value.ownBlock V0_0 ∨ some g = Value.ownBlock V0_1 ∨ some g = Value.ownBlock V0_2 ∨ some g = Value.ownBlock V0_3 ∨ some g = Value.ownBlock V0_4), Blk w' G_0 65 [Seg.cell v24 o25.one, Seg.cell v28 o29.one, Seg.cell v32 o33.one, Seg.cell v36 o37.one, Seg.cell v40 o41.one, Seg.cell (.int .i64 (IntKind.i64.wrap (x21.2.2.2.2.2.1 + 1))), Seg.cell (.int .i64 x132), Seg.cell (.int .i64 (IntKind.i64.wrap (x21.2.2.2.2.2.2.2 + 1)))] ∧ Fr (fun j => j = G_0 ∨ some j = Value.ownBlock V0_0 ∨ some j = Value.ownBlock V0_1 ∨ some j = Value.ownBlock V0_2 ∨ some j = Value.ownBlock V0_3 ∨ some j = Value.ownBlock V0_4) w w') ?_ ?_
 ·have h := j133
  rcases is h with ⟨c135, h⟩ | ⟨c135, h⟩
  ·refine cw_condT rfl c135 ?_
   refine cw_region ?_
   refine ol_val (v := .pointer (some ⟨G_0, 0, none⟩)) (by exact xr_move rfl e0) rfl rfl rfl ?_
   refine ol_val (v := .pointer (some ⟨G_0, 0, none⟩)) (by exact xr_move rfl e0) rfl rfl rfl ?_
   refine ol_val (v := .pointer (some ⟨G_0, 0, none⟩)) (by exact xr_nilCheck rfl rfl) rfl rfl rfl ?_
   refine ol_val (v := .pointer (some ⟨G_0, 6, none⟩)) (by exact xr_fieldAddr (p := 0) (q := 6) rfl fl65_6 rfl) rfl rfl rfl ?_
   refine ol_val (v := .int .i64 x21.2.2.2.2.2.2.1) (by exact xr_load1 (v := .int .i64 x21.2.2.2.2.2.2.1) rfl ag3 rfl (b_0.seg 6 rfl rfl)) rfl rfl rfl ?_
   refine ol_val (v := .int .i64 (IntKind.i64.wrap (x21.2.2.2.2.2.2.1 - 1))) (by exact xr_sub rfl rfl rfl) rfl rfl rfl ?_
   refine ol_val (v := .pointer (some ⟨G_0, 0, none⟩)) (by exact xr_nilCheck rfl rfl) rfl rfl rfl ?_
   refine ol_val (v := .pointer (some ⟨G_0, 6, none⟩)) (by exact xr_fieldAddr (p := 0) (q := 6) rfl fl65_6 rfl) rfl rfl rfl ?_
   have f137 := off_ty b_0 o25 (by decide)
   have f138 := off_ty b_0 o29 (by decide)
   have f139 := off_ty b_0 o33 (by decide)
   have f140 := off_ty b_0 o37 (by decide)
   have f141 := off_ty b_0 o41 (by decide)
   refine ol_op0 (by exact opv_store (ss' := [Seg.cell v24 o25.one, Seg.cell v28 o29.one, Seg.cell v32 o33.one, Seg.cell v36 o37.one, Seg.cell v40 o41.one, Seg.cell (.int .i64 (IntKind.i64.wrap (x21.2.2.2.2.2.1 + 1))), Seg.cell (.int .i64 (IntKind.i64.wrap (x21.2.2.2.2.2.2.1 - 1))), Seg.cell (.int .i64 (IntKind.i64.wrap (x21.2.2.2.2.2.2.2 + 1)))]) (xs := cellsOf [Seg.cell (.int .i64 (IntKind.i64.wrap (x21.2.2.2.2.2.2.1 - 1)))]) rfl sz3 rfl rfl rfl (len_cellsOf _) (one_cellsOf _) b_0 (Spl.segs _ 6 1 [Seg.cell (.int .i64 (IntKind.i64.wrap (x21.2.2.2.2.2.2.1 - 1)))] rfl rfl)) rfl rfl ?_
   rintro _ w142 ⟨b_0, q136⟩
   have o25 := o25.wr q136 f137
   have o29 := o29.wr q136 f138
   have o33 := o33.wr q136 f139
   have o37 := o37.wr q136 f140
   have o41 := o41.wr q136 f141
   have fB := fB.wrS q136 (.inl rfl)
   refine ol_nil ?_
   obtain rfl := Option.some.inj h
   refine thn_i ?_
   exact ⟨o25, o29, o33, o37, o41, m27, m31, m35, m39, m43, b_0, fB⟩
  refine cw_condF rfl c135 ?_
  refine cw_skip ?_
  obtain rfl := Option.some.inj h
  refine thn_i ?_
  exact ⟨o25, o29, o33, o37, o41, m27, m31, m35, m39, m43, b_0, fB⟩
 rintro ρ143 w144 ⟨o25, o29, o33, o37, o41, m27, m31, m35, m39, m43, b_0, fB⟩
 have h := h134
 obtain rfl := Option.some.inj h
 refine fin_end0 Try.results125 ?_
 exact ⟨_, rfl, v24, v28, v32, v36, v40, o25, m27, o29, m31, o33, m35, o37, m39, o41, m43, a44, a45, a46, rfl, b_0, fB⟩
def rickyardref05_Device_Store.f (fu : Nat) (a0 : S_rickyardref05_Device) (a1 : Int) (a2 : Int) : Option (Int × S_rickyardref05_Device) := ((rickyardref05_Device_error.f fu a0 a1 (List.length a0.Lasts : Int) : Option Int).bind fun t19 => (((if (decide (t19 = 0)) = true then (if 0 ≤ a1 ∧ a1 < (List.length a0.Stored : Int) then ((rickyardref05_Device_step.f fu (⟨a0.Lasts, (List.set a0.Stored (Int.toNat a1) a2), a0.Sent, a0.Flushed, a0.Plan, a0.Since, a0.Left, a0.Steps⟩ : S_rickyardref05_Device) : Option S_rickyardref05_Device).bind fun t59 => some (t59.Lasts, t59.Stored, t59.Sent, t59.Flushed, t59.Plan, t59.Since, t59.Left, t59.Steps)) else none) else some (a0.Lasts, a0.Stored, a0.Sent, a0.Flushed, a0.Plan, a0.Since, a0.Left, a0.Steps)) : Option ((List Int) × (List Int) × (List Int) × (List Bool) × (List Int) × Int × Int × Int)).bind fun x23 => some (t19, (⟨x23.1, x23.2.1, x23.2.2.1, x23.2.2.2.1, x23.2.2.2.2.1, x23.2.2.2.2.2.1, x23.2.2.2.2.2.2.1, x23.2.2.2.2.2.2.2⟩ : S_rickyardref05_Device))))
set_option maxRecDepth 100000 in
set_option maxHeartbeats 400000 in
theorem rickyardref05_Device_Store.ok (fu : Nat) (w : World) (a0 : S_rickyardref05_Device) (G_0 : Nat) (V0_0 : Value) (O0_0 : Own (kI .u64) 22 w 0 V0_0 a0.Lasts) (V0_1 : Value) (O0_1 : Own (kI .u64) 22 w 0 V0_1 a0.Stored) (V0_2 : Value) (O0_2 : Own (kI .u64) 22 w 0 V0_2 a0.Sent) (V0_3 : Value) (O0_3 : Own kB 4 w 0 V0_3 a0.Flushed) (V0_4 : Value) (O0_4 : Own (kI .i64) 3 w 0 V0_4 a0.Plan) (b_0 : Blk w G_0 65 [Seg.cell V0_0 O0_0.one, Seg.cell V0_1 O0_1.one, Seg.cell V0_2 O0_2.one, Seg.cell V0_3 O0_3.one, Seg.cell V0_4 O0_4.one, Seg.cell (.int .i64 a0.Since), Seg.cell (.int .i64 a0.Left), Seg.cell (.int .i64 a0.Steps)]) (a1 : Int) (a2 : Int) (A_R0_0_R0_1 : OffV V0_0 V0_1) (A_R0_0_R0_2 : OffV V0_0 V0_2) (A_R0_1_R0_2 : OffV V0_1 V0_2) (r : Int × S_rickyardref05_Device) (h : rickyardref05_Device_Store.f fu a0 a1 a2 = some r) :
  Calls Try.prog 92 (([.pointer (some ⟨G_0, 0, none⟩), .int .i64 a1, .int .u64 a2] : List Value).toArray) w (fun e w' => ∃ v, e = .returned v ∧ ∃ u1 : Value, ∃ u4 : Value, ∃ u7 : Value, ∃ u10 : Value, ∃ u13 : Value, ∃ o2 : Own (kI .u64) 22 w' 0 u1 r.2.Lasts, ∃ m3 : ∀ g, Value.ownBlock u1 = some g → w.heap.size ≤ g ∨ (g = G_0 ∨ some g = Value.ownBlock V0_0 ∨ some g = Value.ownBlock V0_1 ∨ some g = Value.ownBlock V0_2 ∨ some g = Value.ownBlock V0_3 ∨ some g = Value.ownBlock V0_4), ∃ o5 : Own (kI .u64) 22 w' 0 u4 r.2.Stored, ∃ m6 : ∀ g, Value.ownBlock u4 = some g → w.heap.size ≤ g ∨ (g = G_0 ∨ some g = Value.ownBlock V0_0 ∨ some g = Value.ownBlock V0_1 ∨ some g = Value.ownBlock V0_2 ∨ some g = Value.ownBlock V0_3 ∨ some g = Value.ownBlock V0_4), ∃ o8 : Own (kI .u64) 22 w' 0 u7 r.2.Sent, ∃ m9 : ∀ g, Value.ownBlock u7 = some g → w.heap.size ≤ g ∨ (g = G_0 ∨ some g = Value.ownBlock V0_0 ∨ some g = Value.ownBlock V0_1 ∨ some g = Value.ownBlock V0_2 ∨ some g = Value.ownBlock V0_3 ∨ some g = Value.ownBlock V0_4), ∃ o11 : Own kB 4 w' 0 u10 r.2.Flushed, ∃ m12 : ∀ g, Value.ownBlock u10 = some g → w.heap.size ≤ g ∨ (g = G_0 ∨ some g = Value.ownBlock V0_0 ∨ some g = Value.ownBlock V0_1 ∨ some g = Value.ownBlock V0_2 ∨ some g = Value.ownBlock V0_3 ∨ some g = Value.ownBlock V0_4), ∃ o14 : Own (kI .i64) 3 w' 0 u13 r.2.Plan, ∃ m15 : ∀ g, Value.ownBlock u13 = some g → w.heap.size ≤ g ∨ (g = G_0 ∨ some g = Value.ownBlock V0_0 ∨ some g = Value.ownBlock V0_1 ∨ some g = Value.ownBlock V0_2 ∨ some g = Value.ownBlock V0_3 ∨ some g = Value.ownBlock V0_4), ∃ a16 : OffV u1 u4, ∃ a17 : OffV u1 u7, ∃ a18 : OffV u4 u7, v = .int .i64 r.1 ∧ Blk w' G_0 65 [Seg.cell u1 o2.one, Seg.cell u4 o5.one, Seg.cell u7 o8.one, Seg.cell u10 o11.one, Seg.cell u13 o14.one, Seg.cell (.int .i64 r.2.Since), Seg.cell (.int .i64 r.2.Left), Seg.cell (.int .i64 r.2.Steps)] ∧ Fr (fun j => j = G_0 ∨ some j = Value.ownBlock V0_0 ∨ some j = Value.ownBlock V0_1 ∨ some j = Value.ownBlock V0_2 ∨ some j = Value.ownBlock V0_3 ∨ some j = Value.ownBlock V0_4) w w') := by
 unfold rickyardref05_Device_Store.f at h
 have fB : Fr (fun j => j = G_0 ∨ some j = Value.ownBlock V0_0 ∨ some j = Value.ownBlock V0_1 ∨ some j = Value.ownBlock V0_2 ∨ some j = Value.ownBlock V0_3 ∨ some j = Value.ownBlock V0_4) w w := Fr.refl _ _
 have M0_0 : ∀ g, Value.ownBlock V0_0 = some g → w.heap.size ≤ g ∨ (g = G_0 ∨ some g = Value.ownBlock V0_0 ∨ some g = Value.ownBlock V0_1 ∨ some g = Value.ownBlock V0_2 ∨ some g = Value.ownBlock V0_3 ∨ some g = Value.ownBlock V0_4) := fun g hg => .inr (.inr (.inl hg.symm))
 have M0_1 : ∀ g, Value.ownBlock V0_1 = some g → w.heap.size ≤ g ∨ (g = G_0 ∨ some g = Value.ownBlock V0_0 ∨ some g = Value.ownBlock V0_1 ∨ some g = Value.ownBlock V0_2 ∨ some g = Value.ownBlock V0_3 ∨ some g = Value.ownBlock V0_4) := fun g hg => .inr (.inr (.inr (.inl hg.symm)))
 have M0_2 : ∀ g, Value.ownBlock V0_2 = some g → w.heap.size ≤ g ∨ (g = G_0 ∨ some g = Value.ownBlock V0_0 ∨ some g = Value.ownBlock V0_1 ∨ some g = Value.ownBlock V0_2 ∨ some g = Value.ownBlock V0_3 ∨ some g = Value.ownBlock V0_4) := fun g hg => .inr (.inr (.inr (.inr (.inl hg.symm))))
 have M0_3 : ∀ g, Value.ownBlock V0_3 = some g → w.heap.size ≤ g ∨ (g = G_0 ∨ some g = Value.ownBlock V0_0 ∨ some g = Value.ownBlock V0_1 ∨ some g = Value.ownBlock V0_2 ∨ some g = Value.ownBlock V0_3 ∨ some g = Value.ownBlock V0_4) := fun g hg => .inr (.inr (.inr (.inr (.inr (.inl hg.symm)))))
 have M0_4 : ∀ g, Value.ownBlock V0_4 = some g → w.heap.size ≤ g ∨ (g = G_0 ∨ some g = Value.ownBlock V0_0 ∨ some g = Value.ownBlock V0_1 ∨ some g = Value.ownBlock V0_2 ∨ some g = Value.ownBlock V0_3 ∨ some g = Value.ownBlock V0_4) := fun g hg => .inr (.inr (.inr (.inr (.inr (.inr hg.symm)))))
 refine calls_cw Try.func92 rfl Try.ntmps92 rfl ?_
 refine cw_seq ?_
 refine cw_region ?_
 refine ol_val (v := .int .i64 0) (by exact xr_assign rfl rfl) rfl rfl rfl ?_
 refine ol_nil ?_
 refine cw_seq ?_
 refine cw_region ?_
 refine ol_val (v := .pointer (some ⟨G_0, 0, none⟩)) (by exact xr_move rfl rfl) rfl rfl rfl ?_
 refine ol_val (v := .int .i64 a1) (by exact xr_move rfl rfl) rfl rfl rfl ?_
 refine ol_val (v := .pointer (some ⟨G_0, 0, none⟩)) (by exact xr_move rfl rfl) rfl rfl rfl ?_
 refine ol_val (v := .pointer (some ⟨G_0, 0, none⟩)) (by exact xr_nilCheck rfl rfl) rfl rfl rfl ?_
 refine ol_val (v := .pointer (some ⟨G_0, 0, none⟩)) (by exact xr_fieldAddr (p := 0) (q := 0) rfl fl65_0 rfl) rfl rfl rfl ?_
 refine ol_val (v := V0_0) (by exact xr_load1 (v := V0_0) rfl ag46 rfl (b_0.seg 0 rfl rfl)) rfl rfl rfl ?_
 refine ol_val (v := .int .i64 (List.length a0.Lasts : Int)) (by exact xr_lenR rfl Try.underlying46 rfl O0_0.rd) rfl rfl rfl ?_
 obtain ⟨t19, k20, h⟩ := bs h
 refine ol_op (by exact opv_call rfl cal124 (ac rfl (ac rfl (ac rfl an))) (rickyardref05_Device_error.ok fu _ a0 G_0 V0_0 (O0_0.rd) V0_1 (O0_1.rd) V0_2 (O0_2.rd) V0_3 (O0_3.rd) V0_4 (O0_4.rd) b_0 a1 (List.length a0.Lasts : Int) _ k20)) rfl rfl rfl ?_
 rintro _ w22 ⟨rfl, q21⟩
 have b_0 := b_0.gr q21
 have O0_0 := O0_0.gr q21
 have O0_1 := O0_1.gr q21
 have O0_2 := O0_2.gr q21
 have O0_3 := O0_3.gr q21
 have O0_4 := O0_4.gr q21
 have fB := fB.gr q21
 refine ol_val (v := .int .i64 t19) (by exact xr_assign rfl rfl) rfl rfl rfl ?_
 refine ol_nil ?_
 refine cw_seq ?_
 refine cw_seq ?_
 refine cw_region ?_
 refine ol_val (v := .int .i64 t19) (by exact xr_move rfl rfl) rfl rfl rfl ?_
 refine ol_val (v := .bool (decide (t19 = 0))) (by exact xr_eqI rfl Try.underlying3 rfl rfl rfl) rfl rfl rfl ?_
 refine ol_nil ?_
 obtain ⟨x23, j24, h25⟩ := bs h
 refine cw_mid (fun ρ' w' => ∃ v26 : Value, ∃ v30 : Value, ∃ v34 : Value, ∃ v38 : Value, ∃ v42 : Value, ∃ o27 : Own (kI .u64) 22 w' 0 v26 x23.1, ∃ o31 : Own (kI .u64) 22 w' 0 v30 x23.2.1, ∃ o35 : Own (kI .u64) 22 w' 0 v34 x23.2.2.1, ∃ o39 : Own kB 4 w' 0 v38 x23.2.2.2.1, ∃ o43 : Own (kI .i64) 3 w' 0 v42 x23.2.2.2.2.1, ∃ m29 : ∀ g, Value.ownBlock v26 = some g → w.heap.size ≤ g ∨ (g = G_0 ∨ some g = Value.ownBlock V0_0 ∨ some g = Value.ownBlock V0_1 ∨ some g = Value.ownBlock V0_2 ∨ some g = Value.ownBlock V0_3 ∨ some g = Value.ownBlock V0_4), ∃ m33 : ∀ g, Value.ownBlock v30 = some g → w.heap.size ≤ g ∨ (g = G_0 ∨ some g = Value.ownBlock V0_0 ∨ some g = Value.ownBlock V0_1 ∨ some g = Value.ownBlock V0_2 ∨ some g = Value.ownBlock V0_3 ∨ some g = Value.ownBlock V0_4), ∃ m37 : ∀ g, Value.ownBlock v34 = some g → w.heap.size ≤ g ∨ (g = G_0 ∨ some g = Value.ownBlock V0_0 ∨ some g = Value.ownBlock V0_1 ∨ some g = Value.ownBlock V0_2 ∨ some g = Value.ownBlock V0_3 ∨ some g = Value.ownBlock V0_4), ∃ m41 : ∀ g, Value.ownBlock v38 = some g → w.heap.size ≤ g ∨ (g = G_0 ∨ some g = Value.ownBlock V0_0 ∨ some g = Value.ownBlock V0_1 ∨ some g = Value.ownBlock V0_2 ∨ some g = Value.ownBlock V0_3 ∨ some g = Value.ownBlock V0_4), ∃ m45 : ∀ g, Value.ownBlock v42 = some g → w.heap.size ≤ g ∨ (g = G_0 ∨ some g = Value.ownBlock V0_0 ∨ some g = Value.ownBlock V0_1 ∨ some g = Value.ownBlock V0_2 ∨ some g = Value.ownBlock V0_3 ∨ some g = Value.ownBlock V0_4), OffV v26 v30 ∧ OffV v26 v34 ∧ OffV v30 v34 ∧ ρ' 7 = .int .i64 t19 ∧ Blk w' G_0 65 [Seg.cell v26 o27.one, Seg.cell v30 o31.one, Seg.cell v34 o35.one, Seg.cell v38 o39.one, Seg.cell v42 o43.one, Seg.cell (.int .i64 x23.2.2.2.2.2.1), Seg.cell (.int .i64 x23.2.2.2.2.2.2.1), Seg.cell (.int .i64 x23.2.2.2.2.2.2.2)] ∧ Fr (fun j => j = G_0 ∨ some j = Value.ownBlock V0_0 ∨ some j = Value.ownBlock V0_1 ∨ some j = Value.ownBlock V0_2 ∨ some j = Value.ownBlock V0_3 ∨ some j = Value.ownBlock V0_4) w w') ?_ ?_
 ·have h := j24
  rcases is h with ⟨c49, h⟩ | ⟨c49, h⟩
  ·refine cw_condT rfl c49 ?_
   refine cw_seq ?_
   refine cw_region ?_
   refine ol_val (v := .pointer (some ⟨G_0, 0, none⟩)) (by exact xr_move rfl rfl) rfl rfl rfl ?_
   refine ol_val (v := .pointer (some ⟨G_0, 0, none⟩)) (by exact xr_nilCheck rfl rfl) rfl rfl rfl ?_
   refine ol_val (v := .pointer (some ⟨G_0, 1, none⟩)) (by exact xr_fieldAddr (p := 0) (q := 1) rfl fl65_1 rfl) rfl rfl rfl ?_
   refine ol_val (v := V0_1) (by exact xr_load1 (v := V0_1) rfl ag46 rfl (b_0.seg 1 rfl rfl)) rfl rfl rfl ?_
   refine ol_val (v := .int .i64 a1) (by exact xr_move rfl rfl) rfl rfl rfl ?_
   refine ol_val (v := .int .u64 a2) (by exact xr_move rfl rfl) rfl rfl rfl ?_
   obtain ⟨g50, h⟩ := gs h
   refine ol_val (v := .pointer (some ⟨(sb V0_1), so V0_1 + Int.toNat a1 * 1, none⟩)) (by exact xr_indexR (K := (kI .u64)) (v := V0_1) rfl Try.underlying46 sz22 rfl O0_1.rd rfl g50.1 g50.2) rfl rfl rfl ?_
   have f52 := off_ty b_0 O0_1 (by decide)
   have f53 := A_R0_0_R0_1
   have f54 := A_R0_1_R0_2.symm
   have f55 := OffV.ty O0_3 O0_1 (by decide)
   have f56 := OffV.ty O0_4 O0_1 (by decide)
   refine ol_op0 (by exact opv_storeRow (z := a2) (xs := cellsOf [Seg.cell (.int .u64 a2)]) rfl sz22 rfl rfl rfl (len_cellsOf _) (one_cellsOf _) O0_1 g50.1 g50.2 (Spl.whole ((Kd.len _ _).trans (Kd.len _ _).symm)) rfl) rfl rfl ?_
   rintro _ w58 ⟨O0_1, q51⟩
   have b_0 := b_0.wrO q51 f52
   have O0_0 := O0_0.wrV q51 f53
   have O0_2 := O0_2.wrV q51 f54
   have O0_3 := O0_3.wrV q51 f55
   have O0_4 := O0_4.wrV q51 f56
   have fB := fB.wrM q51 M0_1
   refine ol_nil ?_
   refine cw_region ?_
   refine ol_val (v := .pointer (some ⟨G_0, 0, none⟩)) (by exact xr_move rfl rfl) rfl rfl rfl ?_
   obtain ⟨t59, k60, h⟩ := bs h
   have c85 : ∀ k, (k = G_0 ∨ some k = Value.ownBlock V0_0 ∨ some k = Value.ownBlock V0_1 ∨ some k = Value.ownBlock V0_2 ∨ some k = Value.ownBlock V0_3 ∨ some k = Value.ownBlock V0_4) → (w.heap.size ≤ k ∨ (k = G_0 ∨ some k = Value.ownBlock V0_0 ∨ some k = Value.ownBlock V0_1 ∨ some k = Value.ownBlock V0_2 ∨ some k = Value.ownBlock V0_3 ∨ some k = Value.ownBlock V0_4)) := (cv_or (cv_eq (.inr (.inl rfl))) (cv_or (cv_own M0_0) (cv_or (cv_own M0_1) (cv_or (cv_own M0_2) (cv_or (cv_own M0_3) (cv_own M0_4))))))
   refine ol_op (by exact opv_call rfl cal125 (ac rfl an) (rickyardref05_Device_step.ok fu _ (⟨a0.Lasts, (List.set a0.Stored (Int.toNat a1) a2), a0.Sent, a0.Flushed, a0.Plan, a0.Since, a0.Left, a0.Steps⟩ : S_rickyardref05_Device) G_0 V0_0 (Own.base O0_0 (Nat.zero_le _)) V0_1 (Own.base O0_1 (Nat.zero_le _)) V0_2 (Own.base O0_2 (Nat.zero_le _)) V0_3 (Own.base O0_3 (Nat.zero_le _)) V0_4 (Own.base O0_4 (Nat.zero_le _)) b_0 A_R0_0_R0_1 A_R0_0_R0_2 A_R0_1_R0_2 _ k60)) rfl rfl rfl ?_
   rintro _ w86 ⟨u62, u66, u70, u74, u78, o63, m64, o67, m68, o71, m72, o75, m76, o79, m80, a82, a83, a84, rfl, b_0, q61⟩
   have m64 : ∀ g, Value.ownBlock u62 = some g → w.heap.size ≤ g ∨ (g = G_0 ∨ some g = Value.ownBlock V0_0 ∨ some g = Value.ownBlock V0_1 ∨ some g = Value.ownBlock V0_2 ∨ some g = Value.ownBlock V0_3 ∨ some g = Value.ownBlock V0_4) := fun g hg => (m64 g hg).elim (fun x => .inl (Nat.le_trans fB.size x)) (c85 g)
   have m68 : ∀ g, Value.ownBlock u66 = some g → w.heap.size ≤ g ∨ (g = G_0 ∨ some g = Value.ownBlock V0_0 ∨ some g = Value.ownBlock V0_1 ∨ some g = Value.ownBlock V0_2 ∨ some g = Value.ownBlock V0_3 ∨ some g = Value.ownBlock V0_4) := fun g hg => (m68 g hg).elim (fun x => .inl (Nat.le_trans fB.size x)) (c85 g)
   have m72 : ∀ g, Value.ownBlock u70 = some g → w.heap.size ≤ g ∨ (g = G_0 ∨ some g = Value.ownBlock V0_0 ∨ some g = Value.ownBlock V0_1 ∨ some g = Value.ownBlock V0_2 ∨ some g = Value.ownBlock V0_3 ∨ some g = Value.ownBlock V0_4) := fun g hg => (m72 g hg).elim (fun x => .inl (Nat.le_trans fB.size x)) (c85 g)
   have m76 : ∀ g, Value.ownBlock u74 = some g → w.heap.size ≤ g ∨ (g = G_0 ∨ some g = Value.ownBlock V0_0 ∨ some g = Value.ownBlock V0_1 ∨ some g = Value.ownBlock V0_2 ∨ some g = Value.ownBlock V0_3 ∨ some g = Value.ownBlock V0_4) := fun g hg => (m76 g hg).elim (fun x => .inl (Nat.le_trans fB.size x)) (c85 g)
   have m80 : ∀ g, Value.ownBlock u78 = some g → w.heap.size ≤ g ∨ (g = G_0 ∨ some g = Value.ownBlock V0_0 ∨ some g = Value.ownBlock V0_1 ∨ some g = Value.ownBlock V0_2 ∨ some g = Value.ownBlock V0_3 ∨ some g = Value.ownBlock V0_4) := fun g hg => (m80 g hg).elim (fun x => .inl (Nat.le_trans fB.size x)) (c85 g)
   have fB := fB.call q61 c85
   refine ol_nil ?_
   obtain rfl := Option.some.inj h
   refine thn_i ?_
   exact ⟨u62, u66, u70, u74, u78, o63, o67, o71, o75, o79, m64, m68, m72, m76, m80, a82, a83, a84, rfl, b_0, fB⟩
  refine cw_condF rfl c49 ?_
  refine cw_skip ?_
  obtain rfl := Option.some.inj h
  refine thn_i ?_
  exact ⟨V0_0, V0_1, V0_2, V0_3, V0_4, O0_0, O0_1, O0_2, O0_3, O0_4, M0_0, M0_1, M0_2, M0_3, M0_4, A_R0_0_R0_1, A_R0_0_R0_2, A_R0_1_R0_2, rfl, b_0, fB⟩
 rintro ρ87 w88 ⟨v26, v30, v34, v38, v42, o27, o31, o35, o39, o43, m29, m33, m37, m41, m45, a46, a47, a48, e7, b_0, fB⟩
 have h := h25
 refine cw_seq ?_
 refine cw_region ?_
 refine ol_val (v := .int .i64 t19) (by exact xr_move rfl e7) rfl rfl rfl ?_
 refine ol_val (v := .int .i64 t19) (by exact xr_assign rfl rfl) rfl rfl rfl ?_
 refine ol_nil ?_
 refine cw_ret ?_
 repeat (first | with_reducible refine thn_r ?_ | with_reducible refine blk_r ?_)
 obtain rfl := Option.some.inj h
 refine fin_ret1 Try.results92 rfl ?_
 exact ⟨_, rfl, v26, v30, v34, v38, v42, o27, m29, o31, m33, o35, m37, o39, m41, o43, m45, a46, a47, a48, rfl, b_0, fB⟩
def rickyardref05_Device_Load.f (fu : Nat) (a0 : S_rickyardref05_Device) (a1 : Int) : Option (Int × Int) := ((rickyardref05_Device_error.f fu a0 a1 (List.length a0.Lasts : Int) : Option Int).bind fun t1 => (if (!decide (t1 = 0)) = true then some (0, t1) else (if 0 ≤ a1 ∧ a1 < (List.length a0.Stored : Int) then some ((ix a0.Stored a1), 0) else none)))
set_option maxRecDepth 100000 in
set_option maxHeartbeats 400000 in
theorem rickyardref05_Device_Load.ok (fu : Nat) (w : World) (a0 : S_rickyardref05_Device) (G_0 : Nat) (V0_0 : Value) (R0_0 : Rd (kI .u64) w V0_0 a0.Lasts) (V0_1 : Value) (R0_1 : Rd (kI .u64) w V0_1 a0.Stored) (V0_2 : Value) (R0_2 : Rd (kI .u64) w V0_2 a0.Sent) (V0_3 : Value) (R0_3 : Rd kB w V0_3 a0.Flushed) (V0_4 : Value) (R0_4 : Rd (kI .i64) w V0_4 a0.Plan) (b_0 : Blk w G_0 65 [Seg.cell V0_0 R0_0.one, Seg.cell V0_1 R0_1.one, Seg.cell V0_2 R0_2.one, Seg.cell V0_3 R0_3.one, Seg.cell V0_4 R0_4.one, Seg.cell (.int .i64 a0.Since), Seg.cell (.int .i64 a0.Left), Seg.cell (.int .i64 a0.Steps)]) (a1 : Int) (r : Int × Int) (h : rickyardref05_Device_Load.f fu a0 a1 = some r) :
  Calls Try.prog 93 (([.pointer (some ⟨G_0, 0, none⟩), .int .i64 a1] : List Value).toArray) w (fun e w' => ∃ v, e = .returned v ∧ v = .tuple #[.int .u64 r.1, .int .i64 r.2] ∧ Gr w w') := by
 unfold rickyardref05_Device_Load.f at h
 have fB : Gr w w := Fr.refl _ _
 refine calls_cw Try.func93 rfl Try.ntmps93 rfl ?_
 refine cw_seq ?_
 refine cw_region ?_
 refine ol_val (v := .int .u64 0) (by exact xr_assign rfl rfl) rfl rfl rfl ?_
 refine ol_val (v := .int .i64 0) (by exact xr_assign rfl rfl) rfl rfl rfl ?_
 refine ol_nil ?_
 refine cw_seq ?_
 refine cw_region ?_
 refine ol_val (v := .pointer (some ⟨G_0, 0, none⟩)) (by exact xr_move rfl rfl) rfl rfl rfl ?_
 refine ol_val (v := .int .i64 a1) (by exact xr_move rfl rfl) rfl rfl rfl ?_
 refine ol_val (v := .pointer (some ⟨G_0, 0, none⟩)) (by exact xr_move rfl rfl) rfl rfl rfl ?_
 refine ol_val (v := .pointer (some ⟨G_0, 0, none⟩)) (by exact xr_nilCheck rfl rfl) rfl rfl rfl ?_
 refine ol_val (v := .pointer (some ⟨G_0, 0, none⟩)) (by exact xr_fieldAddr (p := 0) (q := 0) rfl fl65_0 rfl) rfl rfl rfl ?_
 refine ol_val (v := V0_0) (by exact xr_load1 (v := V0_0) rfl ag46 rfl (b_0.seg 0 rfl rfl)) rfl rfl rfl ?_
 refine ol_val (v := .int .i64 (List.length a0.Lasts : Int)) (by exact xr_lenR rfl Try.underlying46 rfl (R0_0.gr fB)) rfl rfl rfl ?_
 obtain ⟨t1, k2, h⟩ := bs h
 refine ol_op (by exact opv_call rfl cal124 (ac rfl (ac rfl (ac rfl an))) (rickyardref05_Device_error.ok fu _ a0 G_0 V0_0 (R0_0.gr fB) V0_1 (R0_1.gr fB) V0_2 (R0_2.gr fB) V0_3 (R0_3.gr fB) V0_4 (R0_4.gr fB) b_0 a1 (List.length a0.Lasts : Int) _ k2)) rfl rfl rfl ?_
 rintro _ w4 ⟨rfl, q3⟩
 have b_0 := b_0.gr q3
 have fB := fB.gr q3
 refine ol_val (v := .int .i64 t1) (by exact xr_assign rfl rfl) rfl rfl rfl ?_
 refine ol_nil ?_
 refine cw_seq ?_
 refine cw_seq ?_
 refine cw_region ?_
 refine ol_val (v := .int .i64 t1) (by exact xr_move rfl rfl) rfl rfl rfl ?_
 refine ol_val (v := .bool (!decide (t1 = 0))) (by exact xr_neI rfl Try.underlying3 rfl rfl rfl) rfl rfl rfl ?_
 refine ol_nil ?_
 rcases is h with ⟨c5, h⟩ | ⟨c5, h⟩
 ·refine cw_condT rfl c5 ?_
  refine cw_seq ?_
  refine cw_region ?_
  refine ol_val (v := .int .i64 t1) (by exact xr_move rfl rfl) rfl rfl rfl ?_
  refine ol_val (v := .int .u64 0) (by exact xr_assign rfl rfl) rfl rfl rfl ?_
  refine ol_val (v := .int .i64 t1) (by exact xr_assign rfl rfl) rfl rfl rfl ?_
  refine ol_nil ?_
  refine cw_ret ?_
  repeat (first | with_reducible refine thn_r ?_ | with_reducible refine blk_r ?_)
  obtain rfl := Option.some.inj h
  refine fin_ret2 Try.results93 rfl rfl ?_
  exact ⟨_, rfl, rfl, fB⟩
 refine cw_condF rfl c5 ?_
 refine cw_skip ?_
 refine cw_seq ?_
 refine cw_region ?_
 refine ol_val (v := .pointer (some ⟨G_0, 0, none⟩)) (by exact xr_move rfl rfl) rfl rfl rfl ?_
 refine ol_val (v := .pointer (some ⟨G_0, 0, none⟩)) (by exact xr_nilCheck rfl rfl) rfl rfl rfl ?_
 refine ol_val (v := .pointer (some ⟨G_0, 1, none⟩)) (by exact xr_fieldAddr (p := 0) (q := 1) rfl fl65_1 rfl) rfl rfl rfl ?_
 refine ol_val (v := V0_1) (by exact xr_load1 (v := V0_1) rfl ag46 rfl (b_0.seg 1 rfl rfl)) rfl rfl rfl ?_
 refine ol_val (v := .int .i64 a1) (by exact xr_move rfl rfl) rfl rfl rfl ?_
 obtain ⟨g6, h⟩ := gs h
 refine ol_val (v := .pointer (some ⟨(sb V0_1), so V0_1 + Int.toNat a1 * 1, none⟩)) (by exact xr_indexR (K := (kI .u64)) (v := V0_1) rfl Try.underlying46 sz22 rfl (R0_1.gr fB) rfl g6.1 g6.2) rfl rfl rfl ?_
 refine ol_val (v := .int .u64 (ix a0.Stored a1)) (by exact xr_load1 (v := .int .u64 (ix a0.Stored a1)) rfl ag22 rfl ((R0_1.gr fB).elem g6.1 g6.2)) rfl rfl rfl ?_
 refine ol_val (v := .int .u64 (ix a0.Stored a1)) (by exact xr_assign rfl rfl) rfl rfl rfl ?_
 refine ol_val (v := .int .i64 0) (by exact xr_assign rfl rfl) rfl rfl rfl ?_
 refine ol_nil ?_
 refine cw_ret ?_
 repeat (first | with_reducible refine thn_r ?_ | with_reducible refine blk_r ?_)
 obtain rfl := Option.some.inj h
 refine fin_ret2 Try.results93 rfl rfl ?_
 exact ⟨_, rfl, rfl, fB⟩
def rickyardref05_Device_Flush.s1 (fu : Nat) (a0 : S_rickyardref05_Device) (a1 : Int) : (Int × (List Int) × (List Bool)) → Option (Sum ((List Int) × (List Bool)) (Int × (List Int) × (List Bool))) := fun s50 => (if (decide (s50.1 < (IntKind.i64.wrap ((IntKind.i64.wrap (8 * a1)) + 8)))) = true then (if 0 ≤ s50.1 ∧ s50.1 < (List.length a0.Stored : Int) then (if 0 ≤ s50.1 ∧ s50.1 < (List.length s50.2.1 : Int) then (if 0 ≤ s50.1 ∧ s50.1 < (List.length s50.2.2 : Int) then some (Sum.inr ((IntKind.i64.wrap (s50.1 + 1)), (List.set s50.2.1 (Int.toNat s50.1) (ix a0.Stored s50.1)), (List.set s50.2.2 (Int.toNat s50.1) true))) else none) else none) else none) else some (Sum.inl (s50.2.1, s50.2.2)))
def rickyardref05_Device_Flush.f (fu : Nat) (a0 : S_rickyardref05_Device) (a1 : Int) : Option (Int × S_rickyardref05_Device) := ((rickyardref05_Device_error.f fu a0 a1 (IntKind.i64.wrap (Int.tdiv (List.length a0.Lasts : Int) 8)) : Option Int).bind fun t19 => (((if (decide (t19 = 0)) = true then ((loopM (rickyardref05_Device_Flush.s1 fu a0 a1) fu ((IntKind.i64.wrap (8 * a1)), a0.Sent, a0.Flushed)).bind fun e51 => ((rickyardref05_Device_step.f fu (⟨a0.Lasts, a0.Stored, e51.1, e51.2, a0.Plan, a0.Since, a0.Left, a0.Steps⟩ : S_rickyardref05_Device) : Option S_rickyardref05_Device).bind fun t82 => some (t82.Lasts, t82.Stored, t82.Sent, t82.Flushed, t82.Plan, t82.Since, t82.Left, t82.Steps))) else some (a0.Lasts, a0.Stored, a0.Sent, a0.Flushed, a0.Plan, a0.Since, a0.Left, a0.Steps)) : Option ((List Int) × (List Int) × (List Int) × (List Bool) × (List Int) × Int × Int × Int)).bind fun x23 => some (t19, (⟨x23.1, x23.2.1, x23.2.2.1, x23.2.2.2.1, x23.2.2.2.2.1, x23.2.2.2.2.2.1, x23.2.2.2.2.2.2.1, x23.2.2.2.2.2.2.2⟩ : S_rickyardref05_Device))))
set_option maxRecDepth 100000 in
set_option maxHeartbeats 400000 in
theorem rickyardref05_Device_Flush.ok (fu : Nat) (w : World) (a0 : S_rickyardref05_Device) (G_0 : Nat) (V0_0 : Value) (O0_0 : Own (kI .u64) 22 w 0 V0_0 a0.Lasts) (V0_1 : Value) (O0_1 : Own (kI .u64) 22 w 0 V0_1 a0.Stored) (V0_2 : Value) (O0_2 : Own (kI .u64) 22 w 0 V0_2 a0.Sent) (V0_3 : Value) (O0_3 : Own kB 4 w 0 V0_3 a0.Flushed) (V0_4 : Value) (O0_4 : Own (kI .i64) 3 w 0 V0_4 a0.Plan) (b_0 : Blk w G_0 65 [Seg.cell V0_0 O0_0.one, Seg.cell V0_1 O0_1.one, Seg.cell V0_2 O0_2.one, Seg.cell V0_3 O0_3.one, Seg.cell V0_4 O0_4.one, Seg.cell (.int .i64 a0.Since), Seg.cell (.int .i64 a0.Left), Seg.cell (.int .i64 a0.Steps)]) (a1 : Int) (A_R0_0_R0_1 : OffV V0_0 V0_1) (A_R0_0_R0_2 : OffV V0_0 V0_2) (A_R0_1_R0_2 : OffV V0_1 V0_2) (r : Int × S_rickyardref05_Device) (h : rickyardref05_Device_Flush.f fu a0 a1 = some r) :
  Calls Try.prog 94 (([.pointer (some ⟨G_0, 0, none⟩), .int .i64 a1] : List Value).toArray) w (fun e w' => ∃ v, e = .returned v ∧ ∃ u1 : Value, ∃ u4 : Value, ∃ u7 : Value, ∃ u10 : Value, ∃ u13 : Value, ∃ o2 : Own (kI .u64) 22 w' 0 u1 r.2.Lasts, ∃ m3 : ∀ g, Value.ownBlock u1 = some g → w.heap.size ≤ g ∨ (g = G_0 ∨ some g = Value.ownBlock V0_0 ∨ some g = Value.ownBlock V0_1 ∨ some g = Value.ownBlock V0_2 ∨ some g = Value.ownBlock V0_3 ∨ some g = Value.ownBlock V0_4), ∃ o5 : Own (kI .u64) 22 w' 0 u4 r.2.Stored, ∃ m6 : ∀ g, Value.ownBlock u4 = some g → w.heap.size ≤ g ∨ (g = G_0 ∨ some g = Value.ownBlock V0_0 ∨ some g = Value.ownBlock V0_1 ∨ some g = Value.ownBlock V0_2 ∨ some g = Value.ownBlock V0_3 ∨ some g = Value.ownBlock V0_4), ∃ o8 : Own (kI .u64) 22 w' 0 u7 r.2.Sent, ∃ m9 : ∀ g, Value.ownBlock u7 = some g → w.heap.size ≤ g ∨ (g = G_0 ∨ some g = Value.ownBlock V0_0 ∨ some g = Value.ownBlock V0_1 ∨ some g = Value.ownBlock V0_2 ∨ some g = Value.ownBlock V0_3 ∨ some g = Value.ownBlock V0_4), ∃ o11 : Own kB 4 w' 0 u10 r.2.Flushed, ∃ m12 : ∀ g, Value.ownBlock u10 = some g → w.heap.size ≤ g ∨ (g = G_0 ∨ some g = Value.ownBlock V0_0 ∨ some g = Value.ownBlock V0_1 ∨ some g = Value.ownBlock V0_2 ∨ some g = Value.ownBlock V0_3 ∨ some g = Value.ownBlock V0_4), ∃ o14 : Own (kI .i64) 3 w' 0 u13 r.2.Plan, ∃ m15 : ∀ g, Value.ownBlock u13 = some g → w.heap.size ≤ g ∨ (g = G_0 ∨ some g = Value.ownBlock V0_0 ∨ some g = Value.ownBlock V0_1 ∨ some g = Value.ownBlock V0_2 ∨ some g = Value.ownBlock V0_3 ∨ some g = Value.ownBlock V0_4), ∃ a16 : OffV u1 u4, ∃ a17 : OffV u1 u7, ∃ a18 : OffV u4 u7, v = .int .i64 r.1 ∧ Blk w' G_0 65 [Seg.cell u1 o2.one, Seg.cell u4 o5.one, Seg.cell u7 o8.one, Seg.cell u10 o11.one, Seg.cell u13 o14.one, Seg.cell (.int .i64 r.2.Since), Seg.cell (.int .i64 r.2.Left), Seg.cell (.int .i64 r.2.Steps)] ∧ Fr (fun j => j = G_0 ∨ some j = Value.ownBlock V0_0 ∨ some j = Value.ownBlock V0_1 ∨ some j = Value.ownBlock V0_2 ∨ some j = Value.ownBlock V0_3 ∨ some j = Value.ownBlock V0_4) w w') := by
 unfold rickyardref05_Device_Flush.f at h
 have fB : Fr (fun j => j = G_0 ∨ some j = Value.ownBlock V0_0 ∨ some j = Value.ownBlock V0_1 ∨ some j = Value.ownBlock V0_2 ∨ some j = Value.ownBlock V0_3 ∨ some j = Value.ownBlock V0_4) w w := Fr.refl _ _
 have M0_0 : ∀ g, Value.ownBlock V0_0 = some g → w.heap.size ≤ g ∨ (g = G_0 ∨ some g = Value.ownBlock V0_0 ∨ some g = Value.ownBlock V0_1 ∨ some g = Value.ownBlock V0_2 ∨ some g = Value.ownBlock V0_3 ∨ some g = Value.ownBlock V0_4) := fun g hg => .inr (.inr (.inl hg.symm))
 have M0_1 : ∀ g, Value.ownBlock V0_1 = some g → w.heap.size ≤ g ∨ (g = G_0 ∨ some g = Value.ownBlock V0_0 ∨ some g = Value.ownBlock V0_1 ∨ some g = Value.ownBlock V0_2 ∨ some g = Value.ownBlock V0_3 ∨ some g = Value.ownBlock V0_4) := fun g hg => .inr (.inr (.inr (.inl hg.symm)))
 have M0_2 : ∀ g, Value.ownBlock V0_2 = some g → w.heap.size ≤ g ∨ (g = G_0 ∨ some g = Value.ownBlock V0_0 ∨ some g = Value.ownBlock V0_1 ∨ some g = Value.ownBlock V0_2 ∨ some g = Value.ownBlock V0_3 ∨ some g = Value.ownBlock V0_4) := fun g hg => .inr (.inr (.inr (.inr (.inl hg.symm))))
 have M0_3 : ∀ g, Value.ownBlock V0_3 = some g → w.heap.size ≤ g ∨ (g = G_0 ∨ some g = Value.ownBlock V0_0 ∨ some g = Value.ownBlock V0_1 ∨ some g = Value.ownBlock V0_2 ∨ some g = Value.ownBlock V0_3 ∨ some g = Value.ownBlock V0_4) := fun g hg => .inr (.inr (.inr (.inr (.inr (.inl hg.symm)))))
 have M0_4 : ∀ g, Value.ownBlock V0_4 = some g → w.heap.size ≤ g ∨ (g = G_0 ∨ some g = Value.ownBlock V0_0 ∨ some g = Value.ownBlock V0_1 ∨ some g = Value.ownBlock V0_2 ∨ some g = Value.ownBlock V0_3 ∨ some g = Value.ownBlock V0_4) := fun g hg => .inr (.inr (.inr (.inr (.inr (.inr hg.symm)))))
 refine calls_cw Try.func94 rfl Try.ntmps94 rfl ?_
 refine cw_seq ?_
 refine cw_region ?_
 refine ol_val (v := .int .i64 0) (by exact xr_assign rfl rfl) rfl rfl rfl ?_
 refine ol_nil ?_
 refine cw_seq ?_
 refine cw_region ?_
 refine ol_val (v := .pointer (some ⟨G_0, 0, none⟩)) (by exact xr_move rfl rfl) rfl rfl rfl ?_
 refine ol_val (v := .int .i64 a1) (by exact xr_move rfl rfl) rfl rfl rfl ?_
 refine ol_val (v := .pointer (some ⟨G_0, 0, none⟩)) (by exact xr_move rfl rfl) rfl rfl rfl ?_
 refine ol_val (v := .pointer (some ⟨G_0, 0, none⟩)) (by exact xr_nilCheck rfl rfl) rfl rfl rfl ?_
 refine ol_val (v := .pointer (some ⟨G_0, 0, none⟩)) (by exact xr_fieldAddr (p := 0) (q := 0) rfl fl65_0 rfl) rfl rfl rfl ?_
 refine ol_val (v := V0_0) (by exact xr_load1 (v := V0_0) rfl ag46 rfl (b_0.seg 0 rfl rfl)) rfl rfl rfl ?_
 refine ol_val (v := .int .i64 (List.length a0.Lasts : Int)) (by exact xr_lenR rfl Try.underlying46 rfl O0_0.rd) rfl rfl rfl ?_
 refine ol_val (v := .int .i64 (IntKind.i64.wrap (Int.tdiv (List.length a0.Lasts : Int) 8))) (by exact xr_quo rfl rfl rfl (by decide)) rfl rfl rfl ?_
 obtain ⟨t19, k20, h⟩ := bs h
 refine ol_op (by exact opv_call rfl cal124 (ac rfl (ac rfl (ac rfl an))) (rickyardref05_Device_error.ok fu _ a0 G_0 V0_0 (O0_0.rd) V0_1 (O0_1.rd) V0_2 (O0_2.rd) V0_3 (O0_3.rd) V0_4 (O0_4.rd) b_0 a1 (IntKind.i64.wrap (Int.tdiv (List.length a0.Lasts : Int) 8)) _ k20)) rfl rfl rfl ?_
 rintro _ w22 ⟨rfl, q21⟩
 have b_0 := b_0.gr q21
 have O0_0 := O0_0.gr q21
 have O0_1 := O0_1.gr q21
 have O0_2 := O0_2.gr q21
 have O0_3 := O0_3.gr q21
 have O0_4 := O0_4.gr q21
 have fB := fB.gr q21
 refine ol_val (v := .int .i64 t19) (by exact xr_assign rfl rfl) rfl rfl rfl ?_
 refine ol_nil ?_
 refine cw_seq ?_
 refine cw_seq ?_
 refine cw_region ?_
 refine ol_val (v := .int .i64 t19) (by exact xr_move rfl rfl) rfl rfl rfl ?_
 refine ol_val (v := .bool (decide (t19 = 0))) (by exact xr_eqI rfl Try.underlying3 rfl rfl rfl) rfl rfl rfl ?_
 refine ol_nil ?_
 obtain ⟨x23, j24, h25⟩ := bs h
 refine cw_mid (fun ρ' w' => ∃ v26 : Value, ∃ v30 : Value, ∃ v34 : Value, ∃ v38 : Value, ∃ v42 : Value, ∃ o27 : Own (kI .u64) 22 w' 0 v26 x23.1, ∃ o31 : Own (kI .u64) 22 w' 0 v30 x23.2.1, ∃ o35 : Own (kI .u64) 22 w' 0 v34 x23.2.2.1, ∃ o39 : Own kB 4 w' 0 v38 x23.2.2.2.1, ∃ o43 : Own (kI .i64) 3 w' 0 v42 x23.2.2.2.2.1, ∃ m29 : ∀ g, Value.ownBlock v26 = some g → w.heap.size ≤ g ∨ (g = G_0 ∨ some g = Value.ownBlock V0_0 ∨ some g = Value.ownBlock V0_1 ∨ some g = Value.ownBlock V0_2 ∨ some g = Value.ownBlock V0_3 ∨ some g = Value.ownBlock V0_4), ∃ m33 : ∀ g, Value.ownBlock v30 = some g → w.heap.size ≤ g ∨ (g = G_0 ∨ some g = Value.ownBlock V0_0 ∨ some g = Value.ownBlock V0_1 ∨ some g = Value.ownBlock V0_2 ∨ some g = Value.ownBlock V0_3 ∨ some g = Value.ownBlock V0_4), ∃ m37 : ∀ g, Value.ownBlock v34 = some g → w.heap.size ≤ g ∨ (g = G_0 ∨ some g = Value.ownBlock V0_0 ∨ some g = Value.ownBlock V0_1 ∨ some g = Value.ownBlock V0_2 ∨ some g = Value.ownBlock V0_3 ∨ some g = Value.ownBlock V0_4), ∃ m41 : ∀ g, Value.ownBlock v38 = some g → w.heap.size ≤ g ∨ (g = G_0 ∨ some g = Value.ownBlock V0_0 ∨ some g = Value.ownBlock V0_1 ∨ some g = Value.ownBlock V0_2 ∨ some g = Value.ownBlock V0_3 ∨ some g = Value.ownBlock V0_4), ∃ m45 : ∀ g, Value.ownBlock v42 = some g → w.heap.size ≤ g ∨ (g = G_0 ∨ some g = Value.ownBlock V0_0 ∨ some g = Value.ownBlock V0_1 ∨ some g = Value.ownBlock V0_2 ∨ some g = Value.ownBlock V0_3 ∨ some g = Value.ownBlock V0_4), OffV v26 v30 ∧ OffV v26 v34 ∧ OffV v30 v34 ∧ ρ' 5 = .int .i64 t19 ∧ Blk w' G_0 65 [Seg.cell v26 o27.one, Seg.cell v30 o31.one, Seg.cell v34 o35.one, Seg.cell v38 o39.one, Seg.cell v42 o43.one, Seg.cell (.int .i64 x23.2.2.2.2.2.1), Seg.cell (.int .i64 x23.2.2.2.2.2.2.1), Seg.cell (.int .i64 x23.2.2.2.2.2.2.2)] ∧ Fr (fun j => j = G_0 ∨ some j = Value.ownBlock V0_0 ∨ some j = Value.ownBlock V0_1 ∨ some j = Value.ownBlock V0_2 ∨ some j = Value.ownBlock V0_3 ∨ some j = Value.ownBlock V0_4) w w') ?_ ?_
 ·have h := j24
  rcases is h with ⟨c49, h⟩ | ⟨c49, h⟩
  ·refine cw_condT rfl c49 ?_
   refine cw_seq ?_
   refine cw_seq ?_
   refine cw_region ?_
   refine ol_val (v := .int .i64 a1) (by exact xr_move rfl rfl) rfl rfl rfl ?_
   refine ol_val (v := .int .i64 (IntKind.i64.wrap (8 * a1))) (by exact xr_mul rfl rfl rfl) rfl rfl rfl ?_
   refine ol_val (v := .int .i64 (IntKind.i64.wrap (8 * a1))) (by exact xr_assign rfl rfl) rfl rfl rfl ?_
   refine ol_nil ?_
   obtain ⟨e51, l52, h53⟩ := bs h
   refine cw_mid (fun ρ' w' => ∃ O0_0 : Own (kI .u64) 22 w' 0 V0_0 a0.Lasts, ∃ O0_1 : Own (kI .u64) 22 w' 0 V0_1 a0.Stored, ∃ O0_2 : Own (kI .u64) 22 w' 0 V0_2 e51.1, ∃ O0_3 : Own kB 4 w' 0 V0_3 e51.2, ∃ O0_4 : Own (kI .i64) 3 w' 0 V0_4 a0.Plan, ρ' 0 = .pointer (some ⟨G_0, 0, none⟩) ∧ ρ' 5 = .int .i64 t19 ∧ Blk w' G_0 65 [Seg.cell V0_0 O0_0.one, Seg.cell V0_1 O0_1.one, Seg.cell V0_2 O0_2.one, Seg.cell V0_3 O0_3.one, Seg.cell V0_4 O0_4.one, Seg.cell (.int .i64 a0.Since), Seg.cell (.int .i64 a0.Left), Seg.cell (.int .i64 a0.Steps)] ∧ Fr (fun j => j = G_0 ∨ some j = Value.ownBlock V0_0 ∨ some j = Value.ownBlock V0_1 ∨ some j = Value.ownBlock V0_2 ∨ some j = Value.ownBlock V0_3 ∨ some j = Value.ownBlock V0_4) w w') ?_ ?_
   ·refine cw_block ?_
    refine cw_round (fun (s50 : Int × (List Int) × (List Bool)) ρ' w' => ∃ O0_0 : Own (kI .u64) 22 w' 0 V0_0 a0.Lasts, ∃ O0_1 : Own (kI .u64) 22 w' 0 V0_1 a0.Stored, ∃ O0_2 : Own (kI .u64) 22 w' 0 V0_2 s50.2.1, ∃ O0_3 : Own kB 4 w' 0 V0_3 s50.2.2, ∃ O0_4 : Own (kI .i64) 3 w' 0 V0_4 a0.Plan, ρ' 0 = .pointer (some ⟨G_0, 0, none⟩) ∧ ρ' 1 = .int .i64 a1 ∧ ρ' 5 = .int .i64 t19 ∧ ρ' 6 = .int .i64 s50.1 ∧ Blk w' G_0 65 [Seg.cell V0_0 O0_0.one, Seg.cell V0_1 O0_1.one, Seg.cell V0_2 O0_2.one, Seg.cell V0_3 O0_3.one, Seg.cell V0_4 O0_4.one, Seg.cell (.int .i64 a0.Since), Seg.cell (.int .i64 a0.Left), Seg.cell (.int .i64 a0.Steps)] ∧ Fr (fun j => j = G_0 ∨ some j = Value.ownBlock V0_0 ∨ some j = Value.ownBlock V0_1 ∨ some j = Value.ownBlock V0_2 ∨ some j = Value.ownBlock V0_3 ∨ some j = Value.ownBlock V0_4) w w') l52 ?_ ?_
    ·skip
     exact ⟨O0_0, O0_1, O0_2, O0_3, O0_4, rfl, rfl, rfl, rfl, b_0, fB⟩
    rintro s50 x56 ρ54 w55 ⟨O0_0, O0_1, O0_2, O0_3, O0_4, e0, e1, e5, e6, b_0, fB⟩ h
    unfold rickyardref05_Device_Flush.s1 at h
    refine cw_seq ?_
    refine cw_seq ?_
    refine cw_region ?_
    refine ol_val (v := .int .i64 s50.1) (by exact xr_move rfl e6) rfl rfl rfl ?_
    refine ol_val (v := .int .i64 a1) (by exact xr_move rfl e1) rfl rfl rfl ?_
    refine ol_val (v := .int .i64 (IntKind.i64.wrap (8 * a1))) (by exact xr_mul rfl rfl rfl) rfl rfl rfl ?_
    refine ol_val (v := .int .i64 (IntKind.i64.wrap ((IntKind.i64.wrap (8 * a1)) + 8))) (by exact xr_add rfl rfl rfl) rfl rfl rfl ?_
    refine ol_val (v := .bool (decide (s50.1 < (IntKind.i64.wrap ((IntKind.i64.wrap (8 * a1)) + 8))))) (by exact xr_lss rfl rfl rfl) rfl rfl rfl ?_
    refine ol_nil ?_
    rcases is h with ⟨c57, h⟩ | ⟨c57, h⟩
    ·refine cw_condT rfl c57 ?_
     refine cw_skip ?_
     refine cw_seq ?_
     refine cw_block ?_
     refine cw_seq ?_
     obtain ⟨g58, h⟩ := gs h
     refine cw_drawL 12 [fun vz wz => vz = (.pointer (some ⟨G_0, 0, none⟩) : Value), fun vz wz => vz = (.pointer (some ⟨G_0, 0, none⟩) : Value), fun vz wz => vz = (.pointer (some ⟨G_0, 2, none⟩) : Value), fun vz wz => vz = (V0_2 : Value), fun vz wz => vz = (.int .i64 s50.1 : Value), fun vz wz => vz = (.pointer (some ⟨G_0, 0, none⟩) : Value), fun vz wz => vz = (.pointer (some ⟨G_0, 0, none⟩) : Value), fun vz wz => vz = (.pointer (some ⟨G_0, 1, none⟩) : Value), fun vz wz => vz = (V0_1 : Value), fun vz wz => vz = (.int .i64 s50.1 : Value), fun vz wz => vz = (.pointer (some ⟨(sb V0_1), so V0_1 + Int.toNat s50.1 * 1, none⟩) : Value), fun vz wz => vz = (.int .u64 (ix a0.Stored s50.1) : Value)] mo rfl ⟨fun _ _ _ h _ => h, fun _ _ _ h _ => h, fun _ _ _ h _ => h, fun _ _ _ h _ => h, fun _ _ _ h _ => h, fun _ _ _ h _ => h, fun _ _ _ h _ => h, fun _ _ _ h _ => h, fun _ _ _ h _ => h, fun _ _ _ h _ => h, fun _ _ _ h _ => h, fun _ _ _ h _ => h, trivial⟩ ?_ ?_
     ·refine ⟨?_, ?_, ?_, ?_, ?_, ?_, ?_, ?_, ?_, ?_, ?_, ?_, trivial⟩
      ·intro ρz wz hz hk hd
       exact sk_val (v := .pointer (some ⟨G_0, 0, none⟩)) (by exact xr_move rfl ((hk 0 rfl).trans e0)) rfl rfl
      ·intro ρz wz hz hk hd
       have d27 := hd 0 rfl 27 rfl
       exact sk_val (v := .pointer (some ⟨G_0, 0, none⟩)) (by exact xr_nilCheck rfl d27) rfl rfl
      ·intro ρz wz hz hk hd
       have d28 := hd 1 rfl 28 rfl
       exact sk_val (v := .pointer (some ⟨G_0, 2, none⟩)) (by exact xr_fieldAddr (p := 0) (q := 2) rfl fl65_2 d28) rfl rfl
      ·intro ρz wz hz hk hd
       have d29 := hd 2 rfl 29 rfl
       exact sk_val (v := V0_2) (by exact xr_load1 (v := V0_2) rfl ag46 d29 ((b_0.gr hz).seg 2 rfl rfl)) rfl rfl
      ·intro ρz wz hz hk hd
       exact sk_val (v := .int .i64 s50.1) (by exact xr_move rfl ((hk 6 rfl).trans e6)) rfl rfl
      ·intro ρz wz hz hk hd
       exact sk_val (v := .pointer (some ⟨G_0, 0, none⟩)) (by exact xr_move rfl ((hk 0 rfl).trans e0)) rfl rfl
      ·intro ρz wz hz hk hd
       have d32 := hd 5 rfl 32 rfl
       exact sk_val (v := .pointer (some ⟨G_0, 0, none⟩)) (by exact xr_nilCheck rfl d32) rfl rfl
      ·intro ρz wz hz hk hd
       have d33 := hd 6 rfl 33 rfl
       exact sk_val (v := .pointer (some ⟨G_0, 1, none⟩)) (by exact xr_fieldAddr (p := 0) (q := 1) rfl fl65_1 d33) rfl rfl
      ·intro ρz wz hz hk hd
       have d34 := hd 7 rfl 34 rfl
       exact sk_val (v := V0_1) (by exact xr_load1 (v := V0_1) rfl ag46 d34 ((b_0.gr hz).seg 1 rfl rfl)) rfl rfl
      ·intro ρz wz hz hk hd
       exact sk_val (v := .int .i64 s50.1) (by exact xr_move rfl ((hk 6 rfl).trans e6)) rfl rfl
      ·intro ρz wz hz hk hd
       have d35 := hd 8 rfl 35 rfl
       have d36 := hd 9 rfl 36 rfl
       exact sk_val (by exact xr_indexR (K := (kI .u64)) (v := V0_1) rfl Try.underlying46 sz22 d35 (O0_1.gr hz).rd d36 g58.1 g58.2) rfl rfl
      intro ρz wz hz hk hd
      have d37 := hd 10 rfl 37 rfl
      exact sk_val (v := .int .u64 (ix a0.Stored s50.1)) (by exact xr_load1 (v := .int .u64 (ix a0.Stored s50.1)) rfl ag22 d37 ((O0_1.gr hz).rd.elem g58.1 g58.2)) rfl rfl
     intro ρ59 w60 q61 hk hd
     have e0 := (hk 0 rfl).trans e0
     have e1 := (hk 1 rfl).trans e1
     have e5 := (hk 5 rfl).trans e5
     have e6 := (hk 6 rfl).trans e6
     have e30 := hd 3 rfl 30 rfl
     have e31 := hd 4 rfl 31 rfl
     have e38 := hd 11 rfl 38 rfl
     have b_0 := b_0.gr q61
     have O0_0 := O0_0.gr q61
     have O0_1 := O0_1.gr q61
     have O0_2 := O0_2.gr q61
     have O0_3 := O0_3.gr q61
     have O0_4 := O0_4.gr q61
     have fB := fB.gr q61
     obtain ⟨g62, h⟩ := gs h
     refine ol_val (v := .pointer (some ⟨(sb V0_2), so V0_2 + Int.toNat s50.1 * 1, none⟩)) (by exact xr_indexR (K := (kI .u64)) (v := V0_2) rfl Try.underlying46 sz22 e30 O0_2.rd e31 g62.1 g62.2) rfl rfl rfl ?_
     have f64 := off_ty b_0 O0_2 (by decide)
     have f65 := A_R0_0_R0_2
     have f66 := A_R0_1_R0_2
     have f67 := OffV.ty O0_3 O0_2 (by decide)
     have f68 := OffV.ty O0_4 O0_2 (by decide)
     refine ol_op0 (by exact opv_storeRow (z := (ix a0.Stored s50.1)) (xs := cellsOf [Seg.cell (.int .u64 (ix a0.Stored s50.1))]) rfl sz22 rfl e38 rfl (len_cellsOf _) (one_cellsOf _) O0_2 g62.1 g62.2 (Spl.whole ((Kd.len _ _).trans (Kd.len _ _).symm)) rfl) rfl rfl ?_
     rintro _ w70 ⟨O0_2, q63⟩
     have b_0 := b_0.wrO q63 f64
     have O0_0 := O0_0.wrV q63 f65
     have O0_1 := O0_1.wrV q63 f66
     have O0_3 := O0_3.wrV q63 f67
     have O0_4 := O0_4.wrV q63 f68
     have fB := fB.wrM q63 M0_2
     refine ol_nil ?_
     refine cw_region ?_
     refine ol_val (v := .pointer (some ⟨G_0, 0, none⟩)) (by exact xr_move rfl e0) rfl rfl rfl ?_
     refine ol_val (v := .pointer (some ⟨G_0, 0, none⟩)) (by exact xr_nilCheck rfl rfl) rfl rfl rfl ?_
     refine ol_val (v := .pointer (some ⟨G_0, 3, none⟩)) (by exact xr_fieldAddr (p := 0) (q := 3) rfl fl65_3 rfl) rfl rfl rfl ?_
     refine ol_val (v := V0_3) (by exact xr_load1 (v := V0_3) rfl ag63 rfl (b_0.seg 3 rfl rfl)) rfl rfl rfl ?_
     refine ol_val (v := .int .i64 s50.1) (by exact xr_move rfl e6) rfl rfl rfl ?_
     obtain ⟨g71, h⟩ := gs h
     refine ol_val (v := .pointer (some ⟨(sb V0_3), so V0_3 + Int.toNat s50.1 * 1, none⟩)) (by exact xr_indexR (K := kB) (v := V0_3) rfl Try.underlying63 sz4 rfl O0_3.rd rfl g71.1 g71.2) rfl rfl rfl ?_
     have f73 := off_ty b_0 O0_3 (by decide)
     have f74 := OffV.ty O0_0 O0_3 (by decide)
     have f75 := OffV.ty O0_1 O0_3 (by decide)
     have f76 := OffV.ty O0_2 O0_3 (by decide)
     have f77 := OffV.ty O0_4 O0_3 (by decide)
     refine ol_op0 (by exact opv_storeRow (z := true) (xs := cellsOf [Seg.cell (.bool true)]) rfl sz4 rfl rfl rfl (len_cellsOf _) (one_cellsOf _) O0_3 g71.1 g71.2 (Spl.whole ((Kd.len _ _).trans (Kd.len _ _).symm)) rfl) rfl rfl ?_
     rintro _ w79 ⟨O0_3, q72⟩
     have b_0 := b_0.wrO q72 f73
     have O0_0 := O0_0.wrV q72 f74
     have O0_1 := O0_1.wrV q72 f75
     have O0_2 := O0_2.wrV q72 f76
     have O0_4 := O0_4.wrV q72 f77
     have fB := fB.wrM q72 M0_3
     refine ol_nil ?_
     refine blk_i ?_
     refine cw_region ?_
     refine ol_val (v := .int .i64 s50.1) (by exact xr_move rfl e6) rfl rfl rfl ?_
     refine ol_val (v := .int .i64 (IntKind.i64.wrap (s50.1 + 1))) (by exact xr_add rfl rfl rfl) rfl rfl rfl ?_
     refine ol_val (v := .int .i64 (IntKind.i64.wrap (s50.1 + 1))) (by exact xr_assign rfl rfl) rfl rfl rfl ?_
     refine ol_nil ?_
     obtain rfl := Option.some.inj h
     refine lp_in ?_
     exact ⟨O0_0, O0_1, O0_2, O0_3, O0_4, e0, e1, e5, rfl, b_0, fB⟩
    refine cw_condF rfl c57 ?_
    refine cw_exit ?_
    repeat (first | with_reducible refine thn_e ?_ | with_reducible refine blk_e rfl ?_)
    obtain rfl := Option.some.inj h
    refine lp_exit ?_
    rintro rfl
    refine thn_x ?_
    exact ⟨O0_0, O0_1, O0_2, O0_3, O0_4, e0, e5, b_0, fB⟩
   rintro ρ80 w81 ⟨O0_0, O0_1, O0_2, O0_3, O0_4, e0, e5, b_0, fB⟩
   have h := h53
   refine cw_region ?_
   refine ol_val (v := .pointer (some ⟨G_0, 0, none⟩)) (by exact xr_move rfl e0) rfl rfl rfl ?_
   obtain ⟨t82, k83, h⟩ := bs h
   have c108 : ∀ k, (k = G_0 ∨ some k = Value.ownBlock V0_0 ∨ some k = Value.ownBlock V0_1 ∨ some k = Value.ownBlock V0_2 ∨ some k = Value.ownBlock V0_3 ∨ some k = Value.ownBlock V0_4) → (w.heap.size ≤ k ∨ (k = G_0 ∨ some k = Value.ownBlock V0_0 ∨ some k = Value.ownBlock V0_1 ∨ some k = Value.ownBlock V0_2 ∨ some k = Value.ownBlock V0_3 ∨ some k = Value.ownBlock V0_4)) := (cv_or (cv_eq (.inr (.inl rfl))) (cv_or (cv_own M0_0) (cv_or (cv_own M0_1) (cv_or (cv_own M0_2) (cv_or (cv_own M0_3) (cv_own M0_4))))))
   refine ol_op (by exact opv_call rfl cal125 (ac rfl an) (rickyardref05_Device_step.ok fu _ (⟨a0.Lasts, a0.Stored, e51.1, e51.2, a0.Plan, a0.Since, a0.Left, a0.Steps⟩ : S_rickyardref05_Device) G_0 V0_0 (Own.base O0_0 (Nat.zero_le _)) V0_1 (Own.base O0_1 (Nat.zero_le _)) V0_2 (Own.base O0_2 (Nat.zero_le _)) V0_3 (Own.base O0_3 (Nat.zero_le _)) V0_4 (Own.base O0_4 (Nat.zero_le _)) b_0 A_R0_0_R0_1 A_R0_0_R0_2 A_R0_1_R0_2 _ k83)) rfl rfl rfl ?_
   rintro _ w109 ⟨u85, u89, u93, u97, u101, o86, m87, o90, m91, o94, m95, o98, m99, o102, m103, a105, a106, a107, rfl, b_0, q84⟩
   have m87 : ∀ g, Value.ownBlock u85 = some g → w.heap.size ≤ g ∨ (g = G_0 ∨ some g = Value.ownBlock V0_0 ∨ some g = Value.ownBlock V0_1 ∨ some g = Value.ownBlock V0_2 ∨ some g = Value.ownBlock V0_3 ∨ some g = Value.ownBlock V0_4) := fun g hg => (m87 g hg).elim (fun x => .inl (Nat.le_trans fB.size x)) (c108 g)
   have m91 : ∀ g, Value.ownBlock u89 = some g → w.heap.size ≤ g ∨ (g = G_0 ∨ some g = Value.ownBlock V0_0 ∨ some g = Value.ownBlock V0_1 ∨ some g = Value.ownBlock V0_2 ∨ some g = Value.ownBlock V0_3 ∨ some g = Value.ownBlock V0_4) := fun g hg => (m91 g hg).elim (fun x => .inl (Nat.le_trans fB.size x)) (c108 g)
   have m95 : ∀ g, Value.ownBlock u93 = some g → w.heap.size ≤ g ∨ (g = G_0 ∨ some g = Value.ownBlock V0_0 ∨ some g = Value.ownBlock V0_1 ∨ some g = Value.ownBlock V0_2 ∨ some g = Value.ownBlock V0_3 ∨ some g = Value.ownBlock V0_4) := fun g hg => (m95 g hg).elim (fun x => .inl (Nat.le_trans fB.size x)) (c108 g)
   have m99 : ∀ g, Value.ownBlock u97 = some g → w.heap.size ≤ g ∨ (g = G_0 ∨ some g = Value.ownBlock V0_0 ∨ some g = Value.ownBlock V0_1 ∨ some g = Value.ownBlock V0_2 ∨ some g = Value.ownBlock V0_3 ∨ some g = Value.ownBlock V0_4) := fun g hg => (m99 g hg).elim (fun x => .inl (Nat.le_trans fB.size x)) (c108 g)
   have m103 : ∀ g, Value.ownBlock u101 = some g → w.heap.size ≤ g ∨ (g = G_0 ∨ some g = Value.ownBlock V0_0 ∨ some g = Value.ownBlock V0_1 ∨ some g = Value.ownBlock V0_2 ∨ some g = Value.ownBlock V0_3 ∨ some g = Value.ownBlock V0_4) := fun g hg => (m103 g hg).elim (fun x => .inl (Nat.le_trans fB.size x)) (c108 g)
   have fB := fB.call q84 c108
   refine ol_nil ?_
   obtain rfl := Option.some.inj h
   refine thn_i ?_
   exact ⟨u85, u89, u93, u97, u101, o86, o90, o94, o98, o102, m87, m91, m95, m99, m103, a105, a106, a107, e5, b_0, fB⟩
  refine cw_condF rfl c49 ?_
  refine cw_skip ?_
  obtain rfl := Option.some.inj h
  refine thn_i ?_
  exact ⟨V0_0, V0_1, V0_2, V0_3, V0_4, O0_0, O0_1, O0_2, O0_3, O0_4, M0_0, M0_1, M0_2, M0_3, M0_4, A_R0_0_R0_1, A_R0_0_R0_2, A_R0_1_R0_2, rfl, b_0, fB⟩
 rintro ρ110 w111 ⟨v26, v30, v34, v38, v42, o27, o31, o35, o39, o43, m29, m33, m37, m41, m45, a46, a47, a48, e5, b_0, fB⟩
 have h := h25
 refine cw_seq ?_
 refine cw_region ?_
 refine ol_val (v := .int .i64 t19) (by exact xr_move rfl e5) rfl rfl rfl ?_
 refine ol_val (v := .int .i64 t19) (by exact xr_assign rfl rfl) rfl rfl rfl ?_
 refine ol_nil ?_
 refine cw_ret ?_
 repeat (first | with_reducible refine thn_r ?_ | with_reducible refine blk_r ?_)
 obtain rfl := Option.some.inj h
 refine fin_ret1 Try.results94 rfl ?_
 exact ⟨_, rfl, v26, v30, v34, v38, v42, o27, m29, o31, m33, o35, m37, o39, m41, o43, m45, a46, a47, a48, rfl, b_0, fB⟩
def rickyardref05_Device_Fence.s1 (fu : Nat) : (Int × (List Int) × (List Int) × (List Int) × (List Bool) × (List Int) × Int × Int × Int) → Option (Sum ((List Int) × (List Int) × (List Int) × (List Bool) × (List Int) × Int × Int × Int) (Int × (List Int) × (List Int) × (List Int) × (List Bool) × (List Int) × Int × Int × Int)) := fun s50 => (if (decide (s50.1 < (List.length s50.2.1 : Int))) = true then (if 0 ≤ s50.1 ∧ s50.1 < (List.length s50.2.2.2.2.1 : Int) then (((if (ix s50.2.2.2.2.1 s50.1) = true then (if 0 ≤ s50.1 ∧ s50.1 < (List.length s50.2.2.2.1 : Int) then ((rickyardref05_Device_last.f fu (⟨s50.2.1, s50.2.2.1, s50.2.2.2.1, s50.2.2.2.2.1, s50.2.2.2.2.2.1, s50.2.2.2.2.2.2.1, s50.2.2.2.2.2.2.2.1, s50.2.2.2.2.2.2.2.2⟩ : S_rickyardref05_Device) s50.1 (ix s50.2.2.2.1 s50.1) : Option S_rickyardref05_Device).bind fun t133 => some (t133.Lasts, t133.Stored, t133.Sent, t133.Flushed, t133.Plan, t133.Since, t133.Left, t133.Steps)) else none) else some (s50.2.1, s50.2.2.1, s50.2.2.2.1, s50.2.2.2.2.1, s50.2.2.2.2.2.1, s50.2.2.2.2.2.2.1, s50.2.2.2.2.2.2.2.1, s50.2.2.2.2.2.2.2.2)) : Option ((List Int) × (List Int) × (List Int) × (List Bool) × (List Int) × Int × Int × Int)).bind fun x105 => some (Sum.inr ((IntKind.i64.wrap (s50.1 + 1)), x105.1, x105.2.1, x105.2.2.1, x105.2.2.2.1, x105.2.2.2.2.1, x105.2.2.2.2.2.1, x105.2.2.2.2.2.2.1, x105.2.2.2.2.2.2.2))) else none) else some (Sum.inl (s50.2.1, s50.2.2.1, s50.2.2.2.1, s50.2.2.2.2.1, s50.2.2.2.2.2.1, s50.2.2.2.2.2.2.1, s50.2.2.2.2.2.2.2.1, s50.2.2.2.2.2.2.2.2)))
def rickyardref05_Device_Fence.f (fu : Nat) (a0 : S_rickyardref05_Device) : Option (Int × S_rickyardref05_Device) := ((rickyardref05_Device_error.f fu a0 0 1 : Option Int).bind fun t19 => (((if (decide (t19 = 0)) = true then ((loopM (rickyardref05_Device_Fence.s1 fu) fu (0, a0.Lasts, a0.Stored, a0.Sent, a0.Flushed, a0.Plan, a0.Since, a0.Left, a0.Steps)).bind fun e51 => ((rickyardref05_Device_step.f fu (⟨e51.1, e51.2.1, e51.2.2.1, e51.2.2.2.1, e51.2.2.2.2.1, e51.2.2.2.2.2.1, e51.2.2.2.2.2.2.1, e51.2.2.2.2.2.2.2⟩ : S_rickyardref05_Device) : Option S_rickyardref05_Device).bind fun t165 => some (t165.Lasts, t165.Stored, t165.Sent, t165.Flushed, t165.Plan, t165.Since, t165.Left, t165.Steps))) else some (a0.Lasts, a0.Stored, a0.Sent, a0.Flushed, a0.Plan, a0.Since, a0.Left, a0.Steps)) : Option ((List Int) × (List Int) × (List Int) × (List Bool) × (List Int) × Int × Int × Int)).bind fun x23 => some (t19, (⟨x23.1, x23.2.1, x23.2.2.1, x23.2.2.2.1, x23.2.2.2.2.1, x23.2.2.2.2.2.1, x23.2.2.2.2.2.2.1, x23.2.2.2.2.2.2.2⟩ : S_rickyardref05_Device))))
set_option maxRecDepth 100000 in
set_option maxHeartbeats 400000 in
theorem rickyardref05_Device_Fence.ok (fu : Nat) (w : World) (a0 : S_rickyardref05_Device) (G_0 : Nat) (V0_0 : Value) (O0_0 : Own (kI .u64) 22 w 0 V0_0 a0.Lasts) (V0_1 : Value) (O0_1 : Own (kI .u64) 22 w 0 V0_1 a0.Stored) (V0_2 : Value) (O0_2 : Own (kI .u64) 22 w 0 V0_2 a0.Sent) (V0_3 : Value) (O0_3 : Own kB 4 w 0 V0_3 a0.Flushed) (V0_4 : Value) (O0_4 : Own (kI .i64) 3 w 0 V0_4 a0.Plan) (b_0 : Blk w G_0 65 [Seg.cell V0_0 O0_0.one, Seg.cell V0_1 O0_1.one, Seg.cell V0_2 O0_2.one, Seg.cell V0_3 O0_3.one, Seg.cell V0_4 O0_4.one, Seg.cell (.int .i64 a0.Since), Seg.cell (.int .i64 a0.Left), Seg.cell (.int .i64 a0.Steps)]) (A_R0_0_R0_1 : OffV V0_0 V0_1) (A_R0_0_R0_2 : OffV V0_0 V0_2) (A_R0_1_R0_2 : OffV V0_1 V0_2) (r : Int × S_rickyardref05_Device) (h : rickyardref05_Device_Fence.f fu a0 = some r) :
  Calls Try.prog 95 (([.pointer (some ⟨G_0, 0, none⟩)] : List Value).toArray) w (fun e w' => ∃ v, e = .returned v ∧ ∃ u1 : Value, ∃ u4 : Value, ∃ u7 : Value, ∃ u10 : Value, ∃ u13 : Value, ∃ o2 : Own (kI .u64) 22 w' 0 u1 r.2.Lasts, ∃ m3 : ∀ g, Value.ownBlock u1 = some g → w.heap.size ≤ g ∨ (g = G_0 ∨ some g = Value.ownBlock V0_0 ∨ some g = Value.ownBlock V0_1 ∨ some g = Value.ownBlock V0_2 ∨ some g = Value.ownBlock V0_3 ∨ some g = Value.ownBlock V0_4), ∃ o5 : Own (kI .u64) 22 w' 0 u4 r.2.Stored, ∃ m6 : ∀ g, Value.ownBlock u4 = some g → w.heap.size ≤ g ∨ (g = G_0 ∨ some g = Value.ownBlock V0_0 ∨ some g = Value.ownBlock V0_1 ∨ some g = Value.ownBlock V0_2 ∨ some g = Value.ownBlock V0_3 ∨ some g = Value.ownBlock V0_4), ∃ o8 : Own (kI .u64) 22 w' 0 u7 r.2.Sent, ∃ m9 : ∀ g, Value.ownBlock u7 = some g → w.heap.size ≤ g ∨ (g = G_0 ∨ some g = Value.ownBlock V0_0 ∨ some g = Value.ownBlock V0_1 ∨ some g = Value.ownBlock V0_2 ∨ some g = Value.ownBlock V0_3 ∨ some g = Value.ownBlock V0_4), ∃ o11 : Own kB 4 w' 0 u10 r.2.Flushed, ∃ m12 : ∀ g, Value.ownBlock u10 = some g → w.heap.size ≤ g ∨ (g = G_0 ∨ some g = Value.ownBlock V0_0 ∨ some g = Value.ownBlock V0_1 ∨ some g = Value.ownBlock V0_2 ∨ some g = Value.ownBlock V0_3 ∨ some g = Value.ownBlock V0_4), ∃ o14 : Own (kI .i64) 3 w' 0 u13 r.2.Plan, ∃ m15 : ∀ g, Value.ownBlock u13 = some g → w.heap.size ≤ g ∨ (g = G_0 ∨ some g = Value.ownBlock V0_0 ∨ some g = Value.ownBlock V0_1 ∨ some g = Value.ownBlock V0_2 ∨ some g = Value.ownBlock V0_3 ∨ some g = Value.ownBlock V0_4), ∃ a16 : OffV u1 u4, ∃ a17 : OffV u1 u7, ∃ a18 : OffV u4 u7, v = .int .i64 r.1 ∧ Blk w' G_0 65 [Seg.cell u1 o2.one, Seg.cell u4 o5.one, Seg.cell u7 o8.one, Seg.cell u10 o11.one, Seg.cell u13 o14.one, Seg.cell (.int .i64 r.2.Since), Seg.cell (.int .i64 r.2.Left), Seg.cell (.int .i64 r.2.Steps)] ∧ Fr (fun j => j = G_0 ∨ some j = Value.ownBlock V0_0 ∨ some j = Value.ownBlock V0_1 ∨ some j = Value.ownBlock V0_2 ∨ some j = Value.ownBlock V0_3 ∨ some j = Value.ownBlock V0_4) w w') := by
 unfold rickyardref05_Device_Fence.f at h
 have fB : Fr (fun j => j = G_0 ∨ some j = Value.ownBlock V0_0 ∨ some j = Value.ownBlock V0_1 ∨ some j = Value.ownBlock V0_2 ∨ some j = Value.ownBlock V0_3 ∨ some j = Value.ownBlock V0_4) w w := Fr.refl _ _
 have M0_0 : ∀ g, Value.ownBlock V0_0 = some g → w.heap.size ≤ g ∨ (g = G_0 ∨ some g = Value.ownBlock V0_0 ∨ some g = Value.ownBlock V0_1 ∨ some g = Value.ownBlock V0_2 ∨ some g = Value.ownBlock V0_3 ∨ some g = Value.ownBlock V0_4) := fun g hg => .inr (.inr (.inl hg.symm))
 have M0_1 : ∀ g, Value.ownBlock V0_1 = some g → w.heap.size ≤ g ∨ (g = G_0 ∨ some g = Value.ownBlock V0_0 ∨ some g = Value.ownBlock V0_1 ∨ some g = Value.ownBlock V0_2 ∨ some g = Value.ownBlock V0_3 ∨ some g = Value.ownBlock V0_4) := fun g hg => .inr (.inr (.inr (.inl hg.symm)))
 have M0_2 : ∀ g, Value.ownBlock V0_2 = some g → w.heap.size ≤ g ∨ (g = G_0 ∨ some g = Value.ownBlock V0_0 ∨ some g = Value.ownBlock V0_1 ∨ some g = Value.ownBlock V0_2 ∨ some g = Value.ownBlock V0_3 ∨ some g = Value.ownBlock V0_4) := fun g hg => .inr (.inr (.inr (.inr (.inl hg.symm))))
 have M0_3 : ∀ g, Value.ownBlock V0_3 = some g → w.heap.size ≤ g ∨ (g = G_0 ∨ some g = Value.ownBlock V0_0 ∨ some g = Value.ownBlock V0_1 ∨ some g = Value.ownBlock V0_2 ∨ some g = Value.ownBlock V0_3 ∨ some g = Value.ownBlock V0_4) := fun g hg => .inr (.inr (.inr (.inr (.inr (.inl hg.symm)))))
 have M0_4 : ∀ g, Value.ownBlock V0_4 = some g → w.heap.size ≤ g ∨ (g = G_0 ∨ some g = Value.ownBlock V0_0 ∨ some g = Value.ownBlock V0_1 ∨ some g = Value.ownBlock V0_2 ∨ some g = Value.ownBlock V0_3 ∨ some g = Value.ownBlock V0_4) := fun g hg => .inr (.inr (.inr (.inr (.inr (.inr hg.symm)))))
 refine calls_cw Try.func95 rfl Try.ntmps95 rfl ?_
 refine cw_seq ?_
 refine cw_region ?_
 refine ol_val (v := .int .i64 0) (by exact xr_assign rfl rfl) rfl rfl rfl ?_
 refine ol_nil ?_
 refine cw_seq ?_
 refine cw_region ?_
 refine ol_val (v := .pointer (some ⟨G_0, 0, none⟩)) (by exact xr_move rfl rfl) rfl rfl rfl ?_
 obtain ⟨t19, k20, h⟩ := bs h
 refine ol_op (by exact opv_call rfl cal124 (ac rfl (ac rfl (ac rfl an))) (rickyardref05_Device_error.ok fu _ a0 G_0 V0_0 (O0_0.rd) V0_1 (O0_1.rd) V0_2 (O0_2.rd) V0_3 (O0_3.rd) V0_4 (O0_4.rd) b_0 0 1 _ k20)) rfl rfl rfl ?_
 rintro _ w22 ⟨rfl, q21⟩
 have b_0 := b_0.gr q21
 have O0_0 := O0_0.gr q21
 have O0_1 := O0_1.gr q21
 have O0_2 := O0_2.gr q21
 have O0_3 := O0_3.gr q21
 have O0_4 := O0_4.gr q21
 have fB := fB.gr q21
 refine ol_val (v := .int .i64 t19) (by exact xr_assign rfl rfl) rfl rfl rfl ?_
 refine ol_nil ?_
 refine cw_seq ?_
 refine cw_seq ?_
 refine cw_region ?_
 refine ol_val (v := .int .i64 t19) (by exact xr_move rfl rfl) rfl rfl rfl ?_
 refine ol_val (v := .bool (decide (t19 = 0))) (by exact xr_eqI rfl Try.underlying3 rfl rfl rfl) rfl rfl rfl ?_
 refine ol_nil ?_
 obtain ⟨x23, j24, h25⟩ := bs h
 refine cw_mid (fun ρ' w' => ∃ v26 : Value, ∃ v30 : Value, ∃ v34 : Value, ∃ v38 : Value, ∃ v42 : Value, ∃ o27 : Own (kI .u64) 22 w' 0 v26 x23.1, ∃ o31 : Own (kI .u64) 22 w' 0 v30 x23.2.1, ∃ o35 : Own (kI .u64) 22 w' 0 v34 x23.2.2.1, ∃ o39 : Own kB 4 w' 0 v38 x23.2.2.2.1, ∃ o43 : Own (kI .i64) 3 w' 0 v42 x23.2.2.2.2.1, ∃ m29 : ∀ g, Value.ownBlock v26 = some g → w.heap.size ≤ g ∨ (g = G_0 ∨ some g = Value.ownBlock V0_0 ∨ some g = Value.ownBlock V0_1 ∨ some g = Value.ownBlock V0_2 ∨ some g = Value.ownBlock V0_3 ∨ some g = Value.ownBlock V0_4), ∃ m33 : ∀ g, Value.ownBlock v30 = some g → w.heap.size ≤ g ∨ (g = G_0 ∨ some g = Value.ownBlock V0_0 ∨ some g = Value.ownBlock V0_1 ∨ some g = Value.ownBlock V0_2 ∨ some g = Value.ownBlock V0_3 ∨ some g = Value.ownBlock V0_4), ∃ m37 : ∀ g, Value.ownBlock v34 = some g → w.heap.size ≤ g ∨ (g = G_0 ∨ some g = Value.ownBlock V0_0 ∨ some g = Value.ownBlock V0_1 ∨ some g = Value.ownBlock V0_2 ∨ some g = Value.ownBlock V0_3 ∨ some g = Value.ownBlock V0_4), ∃ m41 : ∀ g, Value.ownBlock v38 = some g → w.heap.size ≤ g ∨ (g = G_0 ∨ some g = Value.ownBlock V0_0 ∨ some g = Value.ownBlock V0_1 ∨ some g = Value.ownBlock V0_2 ∨ some g = Value.ownBlock V0_3 ∨ some g = Value.ownBlock V0_4), ∃ m45 : ∀ g, Value.ownBlock v42 = some g → w.heap.size ≤ g ∨ (g = G_0 ∨ some g = Value.ownBlock V0_0 ∨ some g = Value.ownBlock V0_1 ∨ some g = Value.ownBlock V0_2 ∨ some g = Value.ownBlock V0_3 ∨ some g = Value.ownBlock V0_4), OffV v26 v30 ∧ OffV v26 v34 ∧ OffV v30 v34 ∧ ρ' 3 = .int .i64 t19 ∧ Blk w' G_0 65 [Seg.cell v26 o27.one, Seg.cell v30 o31.one, Seg.cell v34 o35.one, Seg.cell v38 o39.one, Seg.cell v42 o43.one, Seg.cell (.int .i64 x23.2.2.2.2.2.1), Seg.cell (.int .i64 x23.2.2.2.2.2.2.1), Seg.cell (.int .i64 x23.2.2.2.2.2.2.2)] ∧ Fr (fun j => j = G_0 ∨ some j = Value.ownBlock V0_0 ∨ some j = Value.ownBlock V0_1 ∨ some j = Value.ownBlock V0_2 ∨ some j = Value.ownBlock V0_3 ∨ some j = Value.ownBlock V0_4) w w') ?_ ?_
 ·have h := j24
  rcases is h with ⟨c49, h⟩ | ⟨c49, h⟩
  ·refine cw_condT rfl c49 ?_
   refine cw_seq ?_
   refine cw_seq ?_
   refine cw_region ?_
   refine ol_val (v := .int .i64 0) (by exact xr_assign rfl rfl) rfl rfl rfl ?_
   refine ol_nil ?_
   obtain ⟨e51, l52, h53⟩ := bs h
   refine cw_mid (fun ρ' w' => ∃ v54 : Value, ∃ v58 : Value, ∃ v62 : Value, ∃ v66 : Value, ∃ v70 : Value, ∃ o55 : Own (kI .u64) 22 w' 0 v54 e51.1, ∃ o59 : Own (kI .u64) 22 w' 0 v58 e51.2.1, ∃ o63 : Own (kI .u64) 22 w' 0 v62 e51.2.2.1, ∃ o67 : Own kB 4 w' 0 v66 e51.2.2.2.1, ∃ o71 : Own (kI .i64) 3 w' 0 v70 e51.2.2.2.2.1, ∃ m57 : ∀ g, Value.ownBlock v54 = some g → w.heap.size ≤ g ∨ (g = G_0 ∨ some g = Value.ownBlock V0_0 ∨ some g = Value.ownBlock V0_1 ∨ some g = Value.ownBlock V0_2 ∨ some g = Value.ownBlock V0_3 ∨ some g = Value.ownBlock V0_4), ∃ m61 : ∀ g, Value.ownBlock v58 = some g → w.heap.size ≤ g ∨ (g = G_0 ∨ some g = Value.ownBlock V0_0 ∨ some g = Value.ownBlock V0_1 ∨ some g = Value.ownBlock V0_2 ∨ some g = Value.ownBlock V0_3 ∨ some g = Value.ownBlock V0_4), ∃ m65 : ∀ g, Value.ownBlock v62 = some g → w.heap.size ≤ g ∨ (g = G_0 ∨ some g = Value.ownBlock V0_0 ∨ some g = Value.ownBlock V0_1 ∨ some g = Value.ownBlock V0_2 ∨ some g = Value.ownBlock V0_3 ∨ some g = Value.ownBlock V0_4), ∃ m69 : ∀ g, Value.ownBlock v66 = some g → w.heap.size ≤ g ∨ (g = G_0 ∨ some g = Value.ownBlock V0_0 ∨ some g = Value.ownBlock V0_1 ∨ some g = Value.ownBlock V0_2 ∨ some g = Value.ownBlock V0_3 ∨ some g = Value.ownBlock V0_4), ∃ m73 : ∀ g, Value.ownBlock v70 = some g → w.heap.size ≤ g ∨ (g = G_0 ∨ some g = Value.ownBlock V0_0 ∨ some g = Value.ownBlock V0_1 ∨ some g = Value.ownBlock V0_2 ∨ some g = Value.ownBlock V0_3 ∨ some g = Value.ownBlock V0_4), OffV v54 v58 ∧ OffV v54 v62 ∧ OffV v58 v62 ∧ ρ' 0 = .pointer (some ⟨G_0, 0, none⟩) ∧ ρ' 3 = .int .i64 t19 ∧ Blk w' G_0 65 [Seg.cell v54 o55.one, Seg.cell v58 o59.one, Seg.cell v62 o63.one, Seg.cell v66 o67.one, Seg.cell v70 o71.one, Seg.cell (.int .i64 e51.2.2.2.2.2.1), Seg.cell (.int .i64 e51.2.2.2.2.2.2.1), Seg.cell (.int .i64 e51.2.2.2.2.2.2.2)] ∧ Fr (fun j => j = G_0 ∨ some j = Value.ownBlock V0_0 ∨ some j = Value.ownBlock V0_1 ∨ some j = Value.ownBlock V0_2 ∨ some j = Value.ownBlock V0_3 ∨ some j = Value.ownBlock V0_4) w w') ?_ ?_
   ·refine cw_block ?_
    refine cw_round (fun (s50 : Int × (List Int) × (List Int) × (List Int) × (List Bool) × (List Int) × Int × Int × Int) ρ' w' => ∃ v77 : Value, ∃ v81 : Value, ∃ v85 : Value, ∃ v89 : Value, ∃ v93 : Value, ∃ o78 : Own (kI .u64) 22 w' 0 v77 s50.2.1, ∃ o82 : Own (kI .u64) 22 w' 0 v81 s50.2.2.1, ∃ o86 : Own (kI .u64) 22 w' 0 v85 s50.2.2.2.1, ∃ o90 : Own kB 4 w' 0 v89 s50.2.2.2.2.1, ∃ o94 : Own (kI .i64) 3 w' 0 v93 s50.2.2.2.2.2.1, ∃ m80 : ∀ g, Value.ownBlock v77 = some g → w.heap.size ≤ g ∨ (g = G_0 ∨ some g = Value.ownBlock V0_0 ∨ some g = Value.ownBlock V0_1 ∨ some g = Value.ownBlock V0_2 ∨ some g = Value.ownBlock V0_3 ∨ some g = Value.ownBlock V0_4), ∃ m84 : ∀ g, Value.ownBlock v81 = some g → w.heap.size ≤ g ∨ (g = G_0 ∨ some g = Value.ownBlock V0_0 ∨ some g = Value.ownBlock V0_1 ∨ some g = Value.ownBlock V0_2 ∨ some g = Value.ownBlock V0_3 ∨ some g = Value.ownBlock V0_4), ∃ m88 : ∀ g, Value.ownBlock v85 = some g → w.heap.size ≤ g ∨ (g = G_0 ∨ some g = Value.ownBlock V0_0 ∨ some g = Value.ownBlock V0_1 ∨ some g = Value.ownBlock V0_2 ∨ some g = Value.ownBlock V0_3 ∨ some g = Value.ownBlock V0_4), ∃ m92 : ∀ g, Value.ownBlock v89 = some g → w.heap.size ≤ g ∨ (g = G_0 ∨ some g = Value.ownBlock V0_0 ∨ some g = Value.ownBlock V0_1 ∨ some g = Value.ownBlock V0_2 ∨ some g = Value.ownBlock V0_3 ∨ some g = Value.ownBlock V0_4), ∃ m96 : ∀ g, Value.ownBlock v93 = some g → w.heap.size ≤ g ∨ (g = G_0 ∨ some g = Value.ownBlock V0_0 ∨ some g = Value.ownBlock V0_1 ∨ some g = Value.ownBlock V0_2 ∨ some g = Value.ownBlock V0_3 ∨ some g = Value.ownBlock V0_4), OffV v77 v81 ∧ OffV v77 v85 ∧ OffV v81 v85 ∧ ρ' 0 = .pointer (some ⟨G_0, 0, none⟩) ∧ ρ' 3 = .int .i64 t19 ∧ ρ' 4 = .int .i64 s50.1 ∧ Blk w' G_0 65 [Seg.cell v77 o78.one, Seg.cell v81 o82.one, Seg.cell v85 o86.one, Seg.cell v89 o90.one, Seg.cell v93 o94.one, Seg.cell (.int .i64 s50.2.2.2.2.2.2.1), Seg.cell (.int .i64 s50.2.2.2.2.2.2.2.1), Seg.cell (.int .i64 s50.2.2.2.2.2.2.2.2)] ∧ Fr (fun j => j = G_0 ∨ some j = Value.ownBlock V0_0 ∨ some j = Value.ownBlock V0_1 ∨ some j = Value.ownBlock V0_2 ∨ some j = Value.ownBlock V0_3 ∨ some j = Value.ownBlock V0_4) w w') l52 ?_ ?_
    ·skip
     exact ⟨V0_0, V0_1, V0_2, V0_3, V0_4, O0_0, O0_1, O0_2, O0_3, O0_4, M0_0, M0_1, M0_2, M0_3, M0_4, A_R0_0_R0_1, A_R0_0_R0_2, A_R0_1_R0_2, rfl, rfl, rfl, b_0, fB⟩
    rintro s50 x102 ρ100 w101 ⟨v77, v81, v85, v89, v93, o78, o82, o86, o90, o94, m80, m84, m88, m92, m96, a97, a98, a99, e0, e3, e4, b_0, fB⟩ h
    unfold rickyardref05_Device_Fence.s1 at h
    refine cw_seq ?_
    refine cw_seq ?_
    refine cw_region ?_
    refine ol_val (v := .int .i64 s50.1) (by exact xr_move rfl e4) rfl rfl rfl ?_
    refine ol_val (v := .pointer (some ⟨G_0, 0, none⟩)) (by exact xr_move rfl e0) rfl rfl rfl ?_
    refine ol_val (v := .pointer (some ⟨G_0, 0, none⟩)) (by exact xr_nilCheck rfl rfl) rfl rfl rfl ?_
    refine ol_val (v := .pointer (some ⟨G_0, 0, none⟩)) (by exact xr_fieldAddr (p := 0) (q := 0) rfl fl65_0 rfl) rfl rfl rfl ?_
    refine ol_val (v := v77) (by exact xr_load1 (v := v77) rfl ag46 rfl (b_0.seg 0 rfl rfl)) rfl rfl rfl ?_
    refine ol_val (v := .int .i64 (List.length s50.2.1 : Int)) (by exact xr_lenR rfl Try.underlying46 rfl o78.rd) rfl rfl rfl ?_
    refine ol_val (v := .bool (decide (s50.1 < (List.length s50.2.1 : Int)))) (by exact xr_lss rfl rfl rfl) rfl rfl rfl ?_
    refine ol_nil ?_
    rcases is h with ⟨c103, h⟩ | ⟨c103, h⟩
    ·refine cw_condT rfl c103 ?_
     refine cw_skip ?_
     refine cw_seq ?_
     refine cw_block ?_
     refine cw_seq ?_
     refine cw_region ?_
     refine ol_val (v := .pointer (some ⟨G_0, 0, none⟩)) (by exact xr_move rfl e0) rfl rfl rfl ?_
     refine ol_val (v := .pointer (some ⟨G_0, 0, none⟩)) (by exact xr_nilCheck rfl rfl) rfl rfl rfl ?_
     refine ol_val (v := .pointer (some ⟨G_0, 3, none⟩)) (by exact xr_fieldAddr (p := 0) (q := 3) rfl fl65_3 rfl) rfl rfl rfl ?_
     refine ol_val (v := v89) (by exact xr_load1 (v := v89) rfl ag63 rfl (b_0.seg 3 rfl rfl)) rfl rfl rfl ?_
     refine ol_val (v := .int .i64 s50.1) (by exact xr_move rfl e4) rfl rfl rfl ?_
     obtain ⟨g104, h⟩ := gs h
     refine ol_val (v := .pointer (some ⟨(sb v89), so v89 + Int.toNat s50.1 * 1, none⟩)) (by exact xr_indexR (K := kB) (v := v89) rfl Try.underlying63 sz4 rfl o90.rd rfl g104.1 g104.2) rfl rfl rfl ?_
     refine ol_val (v := .bool (ix s50.2.2.2.2.1 s50.1)) (by exact xr_load1 (v := .bool (ix s50.2.2.2.2.1 s50.1)) rfl ag4 rfl (o90.rd.elem g104.1 g104.2)) rfl rfl rfl ?_
     refine ol_nil ?_
     obtain ⟨x105, j106, h107⟩ := bs h
     refine cw_mid (fun ρ' w' => ∃ v108 : Value, ∃ v112 : Value, ∃ v116 : Value, ∃ v120 : Value, ∃ v124 : Value, ∃ o109 : Own (kI .u64) 22 w' 0 v108 x105.1, ∃ o113 : Own (kI .u64) 22 w' 0 v112 x105.2.1, ∃ o117 : Own (kI .u64) 22 w' 0 v116 x105.2.2.1, ∃ o121 : Own kB 4 w' 0 v120 x105.2.2.2.1, ∃ o125 : Own (kI .i64) 3 w' 0 v124 x105.2.2.2.2.1, ∃ m111 : ∀ g, Value.ownBlock v108 = some g → w.heap.size ≤ g ∨ (g = G_0 ∨ some g = Value.ownBlock V0_0 ∨ some g = Value.ownBlock V0_1 ∨ some g = Value.ownBlock V0_2 ∨ some g = Value.ownBlock V0_3 ∨ some g = Value.ownBlock V0_4), ∃ m115 : ∀ g, Value.ownBlock v112 = some g → w.heap.size ≤ g ∨ (g = G_0 ∨ some g = Value.ownBlock V0_0 ∨ some g = Value.ownBlock V0_1 ∨ some g = Value.ownBlock V0_2 ∨ some g = Value.ownBlock V0_3 ∨ some g = Value.ownBlock V0_4), ∃ m119 : ∀ g, Value.ownBlock v116 = some g → w.heap.size ≤ g ∨ (g = G_0 ∨ some g = Value.ownBlock V0_0 ∨ some g = Value.ownBlock V0_1 ∨ some g = Value.ownBlock V0_2 ∨ some g = Value.ownBlock V0_3 ∨ some g = Value.ownBlock V0_4), ∃ m123 : ∀ g, Value.ownBlock v120 = some g → w.heap.size ≤ g ∨ (g = G_0 ∨ some g = Value.ownBlock V0_0 ∨ some g = Value.ownBlock V0_1 ∨ some g = Value.ownBlock V0_2 ∨ some g = Value.ownBlock V0_3 ∨ some g = Value.ownBlock V0_4), ∃ m127 : ∀ g, Value.ownBlock v124 = some g → w.heap.size ≤ g ∨ (g = G_0 ∨ some g = Value.ownBlock V0_0 ∨ some g = Value.ownBlock V0_1 ∨ some g = Value.ownBlock V0_2 ∨ some g = Value.ownBlock V0_3 ∨ some g = Value.ownBlock V0_4), OffV v108 v112 ∧ OffV v108 v116 ∧ OffV v112 v116 ∧ ρ' 0 = .pointer (some ⟨G_0, 0, none⟩) ∧ ρ' 3 = .int .i64 t19 ∧ ρ' 4 = .int .i64 s50.1 ∧ Blk w' G_0 65 [Seg.cell v108 o109.one, Seg.cell v112 o113.one, Seg.cell v116 o117.one, Seg.cell v120 o121.one, Seg.cell v124 o125.one, Seg.cell (.int .i64 x105.2.2.2.2.2.1), Seg.cell (.int .i64 x105.2.2.2.2.2.2.1), Seg.cell (.int .i64 x105.2.2.2.2.2.2.2)] ∧ Fr (fun j => j = G_0 ∨ some j = Value.ownBlock V0_0 ∨ some j = Value.ownBlock V0_1 ∨ some j = Value.ownBlock V0_2 ∨ some j = Value.ownBlock V0_3 ∨ some j = Value.ownBlock V0_4) w w') ?_ ?_
     ·have h := j106
      rcases is h with ⟨c131, h⟩ | ⟨c131, h⟩
      ·refine cw_condT rfl c131 ?_
       refine cw_region ?_
       refine ol_val (v := .pointer (some ⟨G_0, 0, none⟩)) (by exact xr_move rfl e0) rfl rfl rfl ?_
       refine ol_val (v := .int .i64 s50.1) (by exact xr_move rfl e4) rfl rfl rfl ?_
       refine ol_val (v := .pointer (some ⟨G_0, 0, none⟩)) (by exact xr_move rfl e0) rfl rfl rfl ?_
       refine ol_val (v := .pointer (some ⟨G_0, 0, none⟩)) (by exact xr_nilCheck rfl rfl) rfl rfl rfl ?_
       refine ol_val (v := .pointer (some ⟨G_0, 2, none⟩)) (by exact xr_fieldAddr (p := 0) (q := 2) rfl fl65_2 rfl) rfl rfl rfl ?_
       refine ol_val (v := v85) (by exact xr_load1 (v := v85) rfl ag46 rfl (b_0.seg 2 rfl rfl)) rfl rfl rfl ?_
       refine ol_val (v := .int .i64 s50.1) (by exact xr_move rfl e4) rfl rfl rfl ?_
       obtain ⟨g132, h⟩ := gs h
       refine ol_val (v := .pointer (some ⟨(sb v85), so v85 + Int.toNat s50.1 * 1, none⟩)) (by exact xr_indexR (K := (kI .u64)) (v := v85) rfl Try.underlying46 sz22 rfl o86.rd rfl g132.1 g132.2) rfl rfl rfl ?_
       refine ol_val (v := .int .u64 (ix s50.2.2.2.1 s50.1)) (by exact xr_load1 (v := .int .u64 (ix s50.2.2.2.1 s50.1)) rfl ag22 rfl (o86.rd.elem g132.1 g132.2)) rfl rfl rfl ?_
       obtain ⟨t133, k134, h⟩ := bs h
       have c159 : ∀ k, (k = G_0 ∨ some k = Value.ownBlock v77 ∨ some k = Value.ownBlock v81 ∨ some k = Value.ownBlock v85 ∨ some k = Value.ownBlock v89 ∨ some k = Value.ownBlock v93) → (w.heap.size ≤ k ∨ (k = G_0 ∨ some k = Value.ownBlock V0_0 ∨ some k = Value.ownBlock V0_1 ∨ some k = Value.ownBlock V0_2 ∨ some k = Value.ownBlock V0_3 ∨ some k = Value.ownBlock V0_4)) := (cv_or (cv_eq (.inr (.inl rfl))) (cv_or (cv_own m80) (cv_or (cv_own m84) (cv_or (cv_own m88) (cv_or (cv_own m92) (cv_own m96))))))
       refine ol_op (by exact opv_call rfl cal126 (ac rfl (ac rfl (ac rfl an))) (rickyardref05_Device_last.ok fu _ (⟨s50.2.1, s50.2.2.1, s50.2.2.2.1, s50.2.2.2.2.1, s50.2.2.2.2.2.1, s50.2.2.2.2.2.2.1, s50.2.2.2.2.2.2.2.1, s50.2.2.2.2.2.2.2.2⟩ : S_rickyardref05_Device) G_0 v77 (Own.base o78 (Nat.zero_le _)) v81 (Own.base o82 (Nat.zero_le _)) v85 (Own.base o86 (Nat.zero_le _)) v89 (Own.base o90 (Nat.zero_le _)) v93 (Own.base o94 (Nat.zero_le _)) b_0 s50.1 (ix s50.2.2.2.1 s50.1) a97 a98 a99 _ k134)) rfl rfl rfl ?_
       rintro _ w160 ⟨u136, u140, u144, u148, u152, o137, m138, o141, m142, o145, m146, o149, m150, o153, m154, a156, a157, a158, rfl, b_0, q135⟩
       have m138 : ∀ g, Value.ownBlock u136 = some g → w.heap.size ≤ g ∨ (g = G_0 ∨ some g = Value.ownBlock V0_0 ∨ some g = Value.ownBlock V0_1 ∨ some g = Value.ownBlock V0_2 ∨ some g = Value.ownBlock V0_3 ∨ some g = Value.ownBlock V0_4) := fun g hg => (m138 g hg).elim (fun x => .inl (Nat.le_trans fB.size x)) (c159 g)
       have m142 : ∀ g, Value.ownBlock u140 = some g → w.heap.size ≤ g ∨ (g = G_0 ∨ some g = Value.ownBlock V0_0 ∨ some g = Value.ownBlock V0_1 ∨ some g = Value.ownBlock V0_2 ∨ some g = Value.ownBlock V0_3 ∨ some g = Value.ownBlock V0_4) := fun g hg => (m142 g hg).elim (fun x => .inl (Nat.le_trans fB.size x)) (c159 g)
       have m146 : ∀ g, Value.ownBlock u144 = some g → w.heap.size ≤ g ∨ (g = G_0 ∨ some g = Value.ownBlock V0_0 ∨ some g = Value.ownBlock V0_1 ∨ some g = Value.ownBlock V0_2 ∨ some g = Value.ownBlock V0_3 ∨ some g = Value.ownBlock V0_4) := fun g hg => (m146 g hg).elim (fun x => .inl (Nat.le_trans fB.size x)) (c159 g)
       have m150 : ∀ g, Value.ownBlock u148 = some g → w.heap.size ≤ g ∨ (g = G_0 ∨ some g = Value.ownBlock V0_0 ∨ some g = Value.ownBlock V0_1 ∨ some g = Value.ownBlock V0_2 ∨ some g = Value.ownBlock V0_3 ∨ some g = Value.ownBlock V0_4) := fun g hg => (m150 g hg).elim (fun x => .inl (Nat.le_trans fB.size x)) (c159 g)
       have m154 : ∀ g, Value.ownBlock u152 = some g → w.heap.size ≤ g ∨ (g = G_0 ∨ some g = Value.ownBlock V0_0 ∨ some g = Value.ownBlock V0_1 ∨ some g = Value.ownBlock V0_2 ∨ some g = Value.ownBlock V0_3 ∨ some g = Value.ownBlock V0_4) := fun g hg => (m154 g hg).elim (fun x => .inl (Nat.le_trans fB.size x)) (c159 g)
       have fB := fB.call q135 c159
       refine ol_nil ?_
       obtain rfl := Option.some.inj h
       refine thn_i ?_
       exact ⟨u136, u140, u144, u148, u152, o137, o141, o145, o149, o153, m138, m142, m146, m150, m154, a156, a157, a158, e0, e3, e4, b_0, fB⟩
      refine cw_condF rfl c131 ?_
      refine cw_skip ?_
      obtain rfl := Option.some.inj h
      refine thn_i ?_
      exact ⟨v77, v81, v85, v89, v93, o78, o82, o86, o90, o94, m80, m84, m88, m92, m96, a97, a98, a99, e0, e3, e4, b_0, fB⟩
     rintro ρ161 w162 ⟨v108, v112, v116, v120, v124, o109, o113, o117, o121, o125, m111, m115, m119, m123, m127, a128, a129, a130, e0, e3, e4, b_0, fB⟩
     have h := h107
     refine blk_i ?_
     refine cw_region ?_
     refine ol_val (v := .int .i64 s50.1) (by exact xr_move rfl e4) rfl rfl rfl ?_
     refine ol_val (v := .int .i64 (IntKind.i64.wrap (s50.1 + 1))) (by exact xr_add rfl rfl rfl) rfl rfl rfl ?_
     refine ol_val (v := .int .i64 (IntKind.i64.wrap (s50.1 + 1))) (by exact xr_assign rfl rfl) rfl rfl rfl ?_
     refine ol_nil ?_
     obtain rfl := Option.some.inj h
     refine lp_in ?_
     exact ⟨v108, v112, v116, v120, v124, o109, o113, o117, o121, o125, m111, m115, m119, m123, m127, a128, a129, a130, e0, e3, rfl, b_0, fB⟩
    refine cw_condF rfl c103 ?_
    refine cw_exit ?_
    repeat (first | with_reducible refine thn_e ?_ | with_reducible refine blk_e rfl ?_)
    obtain rfl := Option.some.inj h
    refine lp_exit ?_
    rintro rfl
    refine thn_x ?_
    exact ⟨v77, v81, v85, v89, v93, o78, o82, o86, o90, o94, m80, m84, m88, m92, m96, a97, a98, a99, e0, e3, b_0, fB⟩
   rintro ρ163 w164 ⟨v54, v58, v62, v66, v70, o55, o59, o63, o67, o71, m57, m61, m65, m69, m73, a74, a75, a76, e0, e3, b_0, fB⟩
   have h := h53
   refine cw_region ?_
   refine ol_val (v := .pointer (some ⟨G_0, 0, none⟩)) (by exact xr_move rfl e0) rfl rfl rfl ?_
   obtain ⟨t165, k166, h⟩ := bs h
   have c191 : ∀ k, (k = G_0 ∨ some k = Value.ownBlock v54 ∨ some k = Value.ownBlock v58 ∨ some k = Value.ownBlock v62 ∨ some k = Value.ownBlock v66 ∨ some k = Value.ownBlock v70) → (w.heap.size ≤ k ∨ (k = G_0 ∨ some k = Value.ownBlock V0_0 ∨ some k = Value.ownBlock V0_1 ∨ some k = Value.ownBlock V0_2 ∨ some k = Value.ownBlock V0_3 ∨ some k = Value.ownBlock V0_4)) := (cv_or (cv_eq (.inr (.inl rfl))) (cv_or (cv_own m57) (cv_or (cv_own m61) (cv_or (cv_own m65) (cv_or (cv_own m69) (cv_own m73))))))
   refine ol_op (by exact opv_call rfl cal125 (ac rfl an) (rickyardref05_Device_step.ok fu _ (⟨e51.1, e51.2.1, e51.2.2.1, e51.2.2.2.1, e51.2.2.2.2.1, e51.2.2.2.2.2.1, e51.2.2.2.2.2.2.1, e51.2.2.2.2.2.2.2⟩ : S_rickyardref05_Device) G_0 v54 (Own.base o55 (Nat.zero_le _)) v58 (Own.base o59 (Nat.zero_le _)) v62 (Own.base o63 (Nat.zero_le _)) v66 (Own.base o67 (Nat.zero_le _)) v70 (Own.base o71 (Nat.zero_le _)) b_0 a74 a75 a76 _ k166)) rfl rfl rfl ?_
   rintro _ w192 ⟨u168, u172, u176, u180, u184, o169, m170, o173, m174, o177, m178, o181, m182, o185, m186, a188, a189, a190, rfl, b_0, q167⟩
   have m170 : ∀ g, Value.ownBlock u168 = some g → w.heap.size ≤ g ∨ (g = G_0 ∨ some g = Value.ownBlock V0_0 ∨ some g = Value.ownBlock V0_1 ∨ some g = Value.ownBlock V0_2 ∨ some g = Value.ownBlock V0_3 ∨ some g = Value.ownBlock V0_4) := fun g hg => (m170 g hg).elim (fun x => .inl (Nat.le_trans fB.size x)) (c191 g)
   have m174 : ∀ g, Value.ownBlock u172 = some g → w.heap.size ≤ g ∨ (g = G_0 ∨ some g = Value.ownBlock V0_0 ∨ some g = Value.ownBlock V0_1 ∨ some g = Value.ownBlock V0_2 ∨ some g = Value.ownBlock V0_3 ∨ some g = Value.ownBlock V0_4) := fun g hg => (m174 g hg).elim (fun x => .inl (Nat.le_trans fB.size x)) (c191 g)
   have m178 : ∀ g, Value.ownBlock u176 = some g → w.heap.size ≤ g ∨ (g = G_0 ∨ some g = Value.ownBlock V0_0 ∨ some g = Value.ownBlock V0_1 ∨ some g = Value.ownBlock V0_2 ∨ some g = Value.ownBlock V0_3 ∨ some g = Value.ownBlock V0_4) := fun g hg => (m178 g hg).elim (fun x => .inl (Nat.le_trans fB.size x)) (c191 g)
   have m182 : ∀ g, Value.ownBlock u180 = some g → w.heap.size ≤ g ∨ (g = G_0 ∨ some g = Value.ownBlock V0_0 ∨ some g = Value.ownBlock V0_1 ∨ some g = Value.ownBlock V0_2 ∨ some g = Value.ownBlock V0_3 ∨ some g = Value.ownBlock V0_4) := fun g hg => (m182 g hg).elim (fun x => .inl (Nat.le_trans fB.size x)) (c191 g)
   have m186 : ∀ g, Value.ownBlock u184 = some g → w.heap.size ≤ g ∨ (g = G_0 ∨ some g = Value.ownBlock V0_0 ∨ some g = Value.ownBlock V0_1 ∨ some g = Value.ownBlock V0_2 ∨ some g = Value.ownBlock V0_3 ∨ some g = Value.ownBlock V0_4) := fun g hg => (m186 g hg).elim (fun x => .inl (Nat.le_trans fB.size x)) (c191 g)
   have fB := fB.call q167 c191
   refine ol_nil ?_
   obtain rfl := Option.some.inj h
   refine thn_i ?_
   exact ⟨u168, u172, u176, u180, u184, o169, o173, o177, o181, o185, m170, m174, m178, m182, m186, a188, a189, a190, e3, b_0, fB⟩
  refine cw_condF rfl c49 ?_
  refine cw_skip ?_
  obtain rfl := Option.some.inj h
  refine thn_i ?_
  exact ⟨V0_0, V0_1, V0_2, V0_3, V0_4, O0_0, O0_1, O0_2, O0_3, O0_4, M0_0, M0_1, M0_2, M0_3, M0_4, A_R0_0_R0_1, A_R0_0_R0_2, A_R0_1_R0_2, rfl, b_0, fB⟩
 rintro ρ193 w194 ⟨v26, v30, v34, v38, v42, o27, o31, o35, o39, o43, m29, m33, m37, m41, m45, a46, a47, a48, e3, b_0, fB⟩
 have h := h25
 refine cw_seq ?_
 refine cw_region ?_
 refine ol_val (v := .int .i64 t19) (by exact xr_move rfl e3) rfl rfl rfl ?_
 refine ol_val (v := .int .i64 t19) (by exact xr_assign rfl rfl) rfl rfl rfl ?_
 refine ol_nil ?_
 refine cw_ret ?_
 repeat (first | with_reducible refine thn_r ?_ | with_reducible refine blk_r ?_)
 obtain rfl := Option.some.inj h
 refine fin_ret1 Try.results95 rfl ?_
 exact ⟨_, rfl, v26, v30, v34, v38, v42, o27, m29, o31, m33, o35, m37, o39, m41, o43, m45, a46, a47, a48, rfl, b_0, fB⟩
def rickyardref05_Device_Arm.f (fu : Nat) (a0 : S_rickyardref05_Device) (a1 : Int) : Option S_rickyardref05_Device := (((if (!decide (a0.Left = 0)) = true then some ((mxI a1 (-1))) else some (a0.Left)) : Option Int).bind fun x1 => some ((⟨a0.Lasts, a0.Stored, a0.Sent, a0.Flushed, a0.Plan, a0.Since, x1, a0.Steps⟩ : S_rickyardref05_Device)))
set_option maxRecDepth 100000 in
set_option maxHeartbeats 400000 in
theorem rickyardref05_Device_Arm.ok (fu : Nat) (w : World) (a0 : S_rickyardref05_Device) (G_0 : Nat) (V0_0 : Value) (R0_0 : Rd (kI .u64) w V0_0 a0.Lasts) (N0_0 : OffR V0_0 a0.Lasts G_0) (V0_1 : Value) (R0_1 : Rd (kI .u64) w V0_1 a0.Stored) (N0_1 : OffR V0_1 a0.Stored G_0) (V0_2 : Value) (R0_2 : Rd (kI .u64) w V0_2 a0.Sent) (N0_2 : OffR V0_2 a0.Sent G_0) (V0_3 : Value) (R0_3 : Rd kB w V0_3 a0.Flushed) (N0_3 : OffR V0_3 a0.Flushed G_0) (V0_4 : Value) (R0_4 : Rd (kI .i64) w V0_4 a0.Plan) (N0_4 : OffR V0_4 a0.Plan G_0) (b_0 : Blk w G_0 65 [Seg.cell V0_0 R0_0.one, Seg.cell V0_1 R0_1.one, Seg.cell V0_2 R0_2.one, Seg.cell V0_3 R0_3.one, Seg.cell V0_4 R0_4.one, Seg.cell (.int .i64 a0.Since), Seg.cell (.int .i64 a0.Left), Seg.cell (.int .i64 a0.Steps)]) (a1 : Int) (r : S_rickyardref05_Device) (h : rickyardref05_Device_Arm.f fu a0 a1 = some r) :
  Calls Try.prog 96 (([.pointer (some ⟨G_0, 0, none⟩), .int .i64 a1] : List Value).toArray) w (fun e w' => ∃ v, e = .returned v ∧ v = .tuple #[] ∧ Blk w' G_0 65 [Seg.cell V0_0 R0_0.one, Seg.cell V0_1 R0_1.one, Seg.cell V0_2 R0_2.one, Seg.cell V0_3 R0_3.one, Seg.cell V0_4 R0_4.one, Seg.cell (.int .i64 r.Since), Seg.cell (.int .i64 r.Left), Seg.cell (.int .i64 r.Steps)] ∧ Fr (fun j => j = G_0) w w') := by
 unfold rickyardref05_Device_Arm.f at h
 have fB : Fr (fun j => j = G_0) w w := Fr.refl _ _
 refine calls_cw Try.func96 rfl Try.ntmps96 rfl ?_
 refine cw_seq ?_
 refine cw_region ?_
 refine ol_val (v := .pointer (some ⟨G_0, 0, none⟩)) (by exact xr_move rfl rfl) rfl rfl rfl ?_
 refine ol_val (v := .pointer (some ⟨G_0, 0, none⟩)) (by exact xr_nilCheck rfl rfl) rfl rfl rfl ?_
 refine ol_val (v := .pointer (some ⟨G_0, 6, none⟩)) (by exact xr_fieldAddr (p := 0) (q := 6) rfl fl65_6 rfl) rfl rfl rfl ?_
 refine ol_val (v := .int .i64 a0.Left) (by exact xr_load1 (v := .int .i64 a0.Left) rfl ag3 rfl (b_0.seg 6 rfl rfl)) rfl rfl rfl ?_
 refine ol_val (v := .bool (!decide (a0.Left = 0))) (by exact xr_neI rfl Try.underlying3 rfl rfl rfl) rfl rfl rfl ?_
 refine ol_nil ?_
 obtain ⟨x1, j2, h3⟩ := bs h
 refine cw_mid (fun ρ' w' => ∃ R0_0 : Rd (kI .u64) w' V0_0 a0.Lasts, ∃ R0_1 : Rd (kI .u64) w' V0_1 a0.Stored, ∃ R0_2 : Rd (kI .u64) w' V0_2 a0.Sent, ∃ R0_3 : Rd kB w' V0_3 a0.Flushed, ∃ R0_4 : Rd (kI .i64) w' V0_4 a0.Plan, Blk w' G_0 65 [Seg.cell V0_0 R0_0.one, Seg.cell V0_1 R0_1.one, Seg.cell V0_2 R0_2.one, Seg.cell V0_3 R0_3.one, Seg.cell V0_4 R0_4.one, Seg.cell (.int .i64 a0.Since), Seg.cell (.int .i64 x1), Seg.cell (.int .i64 a0.Steps)] ∧ Fr (fun j => j = G_0) w w') ?_ ?_
 ·have h := j2
  rcases is h with ⟨c4, h⟩ | ⟨c4, h⟩
  ·refine cw_condT rfl c4 ?_
   refine cw_region ?_
   refine ol_val (v := .pointer (some ⟨G_0, 0, none⟩)) (by exact xr_move rfl rfl) rfl rfl rfl ?_
   refine ol_val (v := .int .i64 a1) (by exact xr_move rfl rfl) rfl rfl rfl ?_
   refine ol_val (v := .int .i64 (mxI a1 (-1))) (by exact xr_max2 rfl rfl rfl) rfl rfl rfl ?_
   refine ol_val (v := .pointer (some ⟨G_0, 0, none⟩)) (by exact xr_nilCheck rfl rfl) rfl rfl rfl ?_
   refine ol_val (v := .pointer (some ⟨G_0, 6, none⟩)) (by exact xr_fieldAddr (p := 0) (q := 6) rfl fl65_6 rfl) rfl rfl rfl ?_
   refine ol_op0 (by exact opv_store (ss' := [Seg.cell V0_0 R0_0.one, Seg.cell V0_1 R0_1.one, Seg.cell V0_2 R0_2.one, Seg.cell V0_3 R0_3.one, Seg.cell V0_4 R0_4.one, Seg.cell (.int .i64 a0.Since), Seg.cell (.int .i64 (mxI a1 (-1))), Seg.cell (.int .i64 a0.Steps)]) (xs := cellsOf [Seg.cell (.int .i64 (mxI a1 (-1)))]) rfl sz3 rfl rfl rfl (len_cellsOf _) (one_cellsOf _) b_0 (Spl.segs _ 6 1 [Seg.cell (.int .i64 (mxI a1 (-1)))] rfl rfl)) rfl rfl ?_
   rintro _ w6 ⟨b_0, q5⟩
   have R0_0 := R0_0.wr q5 N0_0
   have R0_1 := R0_1.wr q5 N0_1
   have R0_2 := R0_2.wr q5 N0_2
   have R0_3 := R0_3.wr q5 N0_3
   have R0_4 := R0_4.wr q5 N0_4
   have fB := fB.wrS q5 rfl
   refine ol_nil ?_
   obtain rfl := Option.some.inj h
   refine thn_i ?_
   exact ⟨R0_0, R0_1, R0_2, R0_3, R0_4, b_0, fB⟩
  refine cw_condF rfl c4 ?_
  refine cw_skip ?_
  obtain rfl := Option.some.inj h
  refine thn_i ?_
  exact ⟨R0_0, R0_1, R0_2, R0_3, R0_4, b_0, fB⟩
 rintro ρ7 w8 ⟨R0_0, R0_1, R0_2, R0_3, R0_4, b_0, fB⟩
 have h := h3
 obtain rfl := Option.some.inj h
 refine fin_end0 Try.results96 ?_
 exact ⟨_, rfl, rfl, b_0, fB⟩
def rickyardref05_Device_Lay.f (fu : Nat) (a0 : S_rickyardref05_Device) (a1 : List Int) : Option S_rickyardref05_Device := (if List.length ([] : List Int) + List.length a1 ≤ LIM then some ((⟨a0.Lasts, a0.Stored, a0.Sent, a0.Flushed, (([] : List Int) ++ a1), 0, a0.Left, a0.Steps⟩ : S_rickyardref05_Device)) else none)
set_option maxRecDepth 100000 in
set_option maxHeartbeats 400000 in
theorem rickyardref05_Device_Lay.ok (fu : Nat) (w : World) (a0 : S_rickyardref05_Device) (G_0 : Nat) (V0_0 : Value) (O0_0 : Own (kI .u64) 22 w 0 V0_0 a0.Lasts) (V0_1 : Value) (O0_1 : Own (kI .u64) 22 w 0 V0_1 a0.Stored) (V0_2 : Value) (O0_2 : Own (kI .u64) 22 w 0 V0_2 a0.Sent) (V0_3 : Value) (O0_3 : Own kB 4 w 0 V0_3 a0.Flushed) (V0_4 : Value) (O0_4 : Own (kI .i64) 3 w 0 V0_4 a0.Plan) (b_0 : Blk w G_0 65 [Seg.cell V0_0 O0_0.one, Seg.cell V0_1 O0_1.one, Seg.cell V0_2 O0_2.one, Seg.cell V0_3 O0_3.one, Seg.cell V0_4 O0_4.one, Seg.cell (.int .i64 a0.Since), Seg.cell (.int .i64 a0.Left), Seg.cell (.int .i64 a0.Steps)]) (a1 : List Int) (V1_0 : Value) (R1_0 : Rd (kI .i64) w V1_0 a1) (A_R0_0_R0_1 : OffV V0_0 V0_1) (A_R0_0_R0_2 : OffV V0_0 V0_2) (A_R0_1_R0_2 : OffV V0_1 V0_2) (NR1_0_P0 : OffR V1_0 a1 G_0) (NR1_0_R0_0 : OffRV V1_0 a1 V0_0) (NR1_0_R0_1 : OffRV V1_0 a1 V0_1) (NR1_0_R0_2 : OffRV V1_0 a1 V0_2) (NR1_0_R0_3 : OffRV V1_0 a1 V0_3) (NR1_0_R0_4 : OffRV V1_0 a1 V0_4) (r : S_rickyardref05_Device) (h : rickyardref05_Device_Lay.f fu a0 a1 = some r) :
  Calls Try.prog 97 (([.pointer (some ⟨G_0, 0, none⟩), V1_0] : List Value).toArray) w (fun e w' => ∃ v, e = .returned v ∧ ∃ u1 : Value, ∃ u4 : Value, ∃ u7 : Value, ∃ u10 : Value, ∃ u13 : Value, ∃ o2 : Own (kI .u64) 22 w' 0 u1 r.Lasts, ∃ m3 : ∀ g, Value.ownBlock u1 = some g → w.heap.size ≤ g ∨ (g = G_0 ∨ some g = Value.ownBlock V0_0 ∨ some g = Value.ownBlock V0_1 ∨ some g = Value.ownBlock V0_2 ∨ some g = Value.ownBlock V0_3 ∨ some g = Value.ownBlock V0_4), ∃ o5 : Own (kI .u64) 22 w' 0 u4 r.Stored, ∃ m6 : ∀ g, Value.ownBlock u4 = some g → w.heap.size ≤ g ∨ (g = G_0 ∨ some g = Value.ownBlock V0_0 ∨ some g = Value.ownBlock V0_1 ∨ some g = Value.ownBlock V0_2 ∨ some g = Value.ownBlock V0_3 ∨ some g = Value.ownBlock V0_4), ∃ o8 : Own (kI .u64) 22 w' 0 u7 r.Sent, ∃ m9 : ∀ g, Value.ownBlock u7 = some g → w.heap.size ≤ g ∨ (g = G_0 ∨ some g = Value.ownBlock V0_0 ∨ some g = Value.ownBlock V0_1 ∨ some g = Value.ownBlock V0_2 ∨ some g = Value.ownBlock V0_3 ∨ some g = Value.ownBlock V0_4), ∃ o11 : Own kB 4 w' 0 u10 r.Flushed, ∃ m12 : ∀ g, Value.ownBlock u10 = some g → w.heap.size ≤ g ∨ (g = G_0 ∨ some g = Value.ownBlock V0_0 ∨ some g = Value.ownBlock V0_1 ∨ some g = Value.ownBlock V0_2 ∨ some g = Value.ownBlock V0_3 ∨ some g = Value.ownBlock V0_4), ∃ o14 : Own (kI .i64) 3 w' 0 u13 r.Plan, ∃ m15 : ∀ g, Value.ownBlock u13 = some g → w.heap.size ≤ g ∨ (g = G_0 ∨ some g = Value.ownBlock V0_0 ∨ some g = Value.ownBlock V0_1 ∨ some g = Value.ownBlock V0_2 ∨ some g = Value.ownBlock V0_3 ∨ some g = Value.ownBlock V0_4), ∃ a16 : OffV u1 u4, ∃ a17 : OffV u1 u7, ∃ a18 : OffV u4 u7, v = .tuple #[] ∧ Blk w' G_0 65 [Seg.cell u1 o2.one, Seg.cell u4 o5.one, Seg.cell u7 o8.one, Seg.cell u10 o11.one, Seg.cell u13 o14.one, Seg.cell (.int .i64 r.Since), Seg.cell (.int .i64 r.Left), Seg.cell (.int .i64 r.Steps)] ∧ Fr (fun j => j = G_0 ∨ some j = Value.ownBlock V0_0 ∨ some j = Value.ownBlock V0_1 ∨ some j = Value.ownBlock V0_2 ∨ some j = Value.ownBlock V0_3 ∨ some j = Value.ownBlock V0_4) w w') := by
 unfold rickyardref05_Device_Lay.f at h
 have fB : Fr (fun j => j = G_0 ∨ some j = Value.ownBlock V0_0 ∨ some j = Value.ownBlock V0_1 ∨ some j = Value.ownBlock V0_2 ∨ some j = Value.ownBlock V0_3 ∨ some j = Value.ownBlock V0_4) w w := Fr.refl _ _
 have M0_0 : ∀ g, Value.ownBlock V0_0 = some g → w.heap.size ≤ g ∨ (g = G_0 ∨ some g = Value.ownBlock V0_0 ∨ some g = Value.ownBlock V0_1 ∨ some g = Value.ownBlock V0_2 ∨ some g = Value.ownBlock V0_3 ∨ some g = Value.ownBlock V0_4) := fun g hg => .inr (.inr (.inl hg.symm))
 have M0_1 : ∀ g, Value.ownBlock V0_1 = some g → w.heap.size ≤ g ∨ (g = G_0 ∨ some g = Value.ownBlock V0_0 ∨ some g = Value.ownBlock V0_1 ∨ some g = Value.ownBlock V0_2 ∨ some g = Value.ownBlock V0_3 ∨ some g = Value.ownBlock V0_4) := fun g hg => .inr (.inr (.inr (.inl hg.symm)))
 have M0_2 : ∀ g, Value.ownBlock V0_2 = some g → w.heap.size ≤ g ∨ (g = G_0 ∨ some g = Value.ownBlock V0_0 ∨ some g = Value.ownBlock V0_1 ∨ some g = Value.ownBlock V0_2 ∨ some g = Value.ownBlock V0_3 ∨ some g = Value.ownBlock V0_4) := fun g hg => .inr (.inr (.inr (.inr (.inl hg.symm))))
 have M0_3 : ∀ g, Value.ownBlock V0_3 = some g → w.heap.size ≤ g ∨ (g = G_0 ∨ some g = Value.ownBlock V0_0 ∨ some g = Value.ownBlock V0_1 ∨ some g = Value.ownBlock V0_2 ∨ some g = Value.ownBlock V0_3 ∨ some g = Value.ownBlock V0_4) := fun g hg => .inr (.inr (.inr (.inr (.inr (.inl hg.symm)))))
 have M0_4 : ∀ g, Value.ownBlock V0_4 = some g → w.heap.size ≤ g ∨ (g = G_0 ∨ some g = Value.ownBlock V0_0 ∨ some g = Value.ownBlock V0_1 ∨ some g = Value.ownBlock V0_2 ∨ some g = Value.ownBlock V0_3 ∨ some g = Value.ownBlock V0_4) := fun g hg => .inr (.inr (.inr (.inr (.inr (.inr hg.symm)))))
 refine calls_cw Try.func97 rfl Try.ntmps97 rfl ?_
 refine cw_seq ?_
 refine cw_region ?_
 refine ol_val (v := .pointer (some ⟨G_0, 0, none⟩)) (by exact xr_move rfl rfl) rfl rfl rfl ?_
 refine ol_op (by exact opv_buildSlice (K := (kI .i64)) (xs := ([] : List Int)) (vals := []) rfl Try.underlying25 el3 rfl rfl trivial rfl rfl rfl fB.size) rfl rfl rfl ?_
 rintro v19 w24 ⟨o21, q20, z22⟩
 have a25 := OffV.new O0_4 z22
 have a26 := OffRV.new R1_0 z22 rfl
 have b_0 := b_0.gr q20
 have O0_0 := O0_0.gr q20
 have O0_1 := O0_1.gr q20
 have O0_2 := O0_2.gr q20
 have O0_3 := O0_3.gr q20
 have O0_4 := O0_4.gr q20
 have R1_0 := R1_0.gr q20
 have fB := fB.gr q20
 refine ol_val (v := V1_0) (by exact xr_move rfl rfl) rfl rfl rfl ?_
 obtain ⟨g31, h⟩ := gs h
 have f33 := off_ty b_0 o21 (by decide)
 have f34 := OffV.ty O0_0 o21 (by decide)
 have f35 := OffV.ty O0_1 o21 (by decide)
 have f36 := OffV.ty O0_2 o21 (by decide)
 have f37 := OffV.ty O0_3 o21 (by decide)
 have f38 := a25
 have f39 := o21.geO
 refine ol_op (by exact opv_append (K := (kI .i64)) rfl Try.underlying25 el3 rfl rfl rfl rfl rfl o21 R1_0 g31 fB.size) rfl rfl rfl ?_
 rintro v27 w40 ⟨o28, q29, n30⟩
 have a41 := OffV.app O0_4 f38 n30
 have b_0 := b_0.wrO q29 f33
 have O0_0 := O0_0.wrV q29 f34
 have O0_1 := O0_1.wrV q29 f35
 have O0_2 := O0_2.wrV q29 f36
 have O0_3 := O0_3.wrV q29 f37
 have O0_4 := O0_4.wrV q29 f38
 have fB := fB.wrO q29 f39
 refine ol_val (v := .pointer (some ⟨G_0, 0, none⟩)) (by exact xr_nilCheck rfl rfl) rfl rfl rfl ?_
 refine ol_val (v := .pointer (some ⟨G_0, 4, none⟩)) (by exact xr_fieldAddr (p := 0) (q := 4) rfl fl65_4 rfl) rfl rfl rfl ?_
 have f43 := off_ty b_0 O0_0 (by decide)
 have f44 := off_ty b_0 O0_1 (by decide)
 have f45 := off_ty b_0 O0_2 (by decide)
 have f46 := off_ty b_0 O0_3 (by decide)
 have f47 := off_ty b_0 o28 (by decide)
 refine ol_op0 (by exact opv_store (ss' := [Seg.cell V0_0 O0_0.one, Seg.cell V0_1 O0_1.one, Seg.cell V0_2 O0_2.one, Seg.cell V0_3 O0_3.one, Seg.cell v27 o28.one, Seg.cell (.int .i64 a0.Since), Seg.cell (.int .i64 a0.Left), Seg.cell (.int .i64 a0.Steps)]) (xs := cellsOf [Seg.cell v27 o28.one]) rfl sz25 rfl rfl (cells_one o28.one) (len_cellsOf _) (one_cellsOf _) b_0 (Spl.segs _ 4 1 [Seg.cell v27 o28.one] rfl rfl)) rfl rfl ?_
 rintro _ w48 ⟨b_0, q42⟩
 have O0_0 := O0_0.wr q42 f43
 have O0_1 := O0_1.wr q42 f44
 have O0_2 := O0_2.wr q42 f45
 have O0_3 := O0_3.wr q42 f46
 have o28 := o28.wr q42 f47
 have fB := fB.wrS q42 (.inl rfl)
 refine ol_nil ?_
 refine cw_region ?_
 refine ol_val (v := .pointer (some ⟨G_0, 0, none⟩)) (by exact xr_move rfl rfl) rfl rfl rfl ?_
 refine ol_val (v := .pointer (some ⟨G_0, 0, none⟩)) (by exact xr_nilCheck rfl rfl) rfl rfl rfl ?_
 refine ol_val (v := .pointer (some ⟨G_0, 5, none⟩)) (by exact xr_fieldAddr (p := 0) (q := 5) rfl fl65_5 rfl) rfl rfl rfl ?_
 have f50 := off_ty b_0 O0_0 (by decide)
 have f51 := off_ty b_0 O0_1 (by decide)
 have f52 := off_ty b_0 O0_2 (by decide)
 have f53 := off_ty b_0 O0_3 (by decide)
 have f54 := off_ty b_0 o28 (by decide)
 refine ol_op0 (by exact opv_store (ss' := [Seg.cell V0_0 O0_0.one, Seg.cell V0_1 O0_1.one, Seg.cell V0_2 O0_2.one, Seg.cell V0_3 O0_3.one, Seg.cell v27 o28.one, Seg.cell (.int .i64 0), Seg.cell (.int .i64 a0.Left), Seg.cell (.int .i64 a0.Steps)]) (xs := cellsOf [Seg.cell (.int .i64 0)]) rfl sz3 rfl rfl rfl (len_cellsOf _) (one_cellsOf _) b_0 (Spl.segs _ 5 1 [Seg.cell (.int .i64 0)] rfl rfl)) rfl rfl ?_
 rintro _ w55 ⟨b_0, q49⟩
 have O0_0 := O0_0.wr q49 f50
 have O0_1 := O0_1.wr q49 f51
 have O0_2 := O0_2.wr q49 f52
 have O0_3 := O0_3.wr q49 f53
 have o28 := o28.wr q49 f54
 have fB := fB.wrS q49 (.inl rfl)
 refine ol_nil ?_
 obtain rfl := Option.some.inj h
 refine fin_end0 Try.results97 ?_
 exact ⟨_, rfl, V0_0, V0_1, V0_2, V0_3, v27, O0_0, M0_0, O0_1, M0_1, O0_2, M0_2, O0_3, M0_3, (Own.base o28 (Nat.zero_le _)), (ms_geO o28), A_R0_0_R0_1, A_R0_0_R0_2, A_R0_1_R0_2, rfl, b_0, fB⟩
def rickyardref05_Value.f (fu : Nat) (a0 : S_api_Fate) (a1 : Int) : Option Int := ((rickyardref01_Rest.f fu a1 3 : Option Int).bind fun t7 => (if (decide (t7 = 2)) = true then some (a0.Stored) else (if (if (decide (t7 = 1)) = true then a0.Flushed else false) = true then some (a0.Sent) else some (a0.Lasts))))
set_option maxRecDepth 100000 in
set_option maxHeartbeats 400000 in
theorem rickyardref05_Value.ok (fu : Nat) (w : World) (a0 : S_api_Fate) (a1 : Int) (r : Int) (h : rickyardref05_Value.f fu a0 a1 = some r) :
  Calls Try.prog 42 (([aggV [Seg.cell (.int .i64 a0.At), Seg.cell (.int .u64 a0.Lasts), Seg.cell (.bool a0.Flushed), Seg.cell (.int .u64 a0.Sent), Seg.cell (.int .u64 a0.Stored)], .int .i64 a1] : List Value).toArray) w (fun e w' => ∃ v, e = .returned v ∧ v = .int .u64 r ∧ Gr w w') := by
 unfold rickyardref05_Value.f at h
 have fB : Gr w w := Fr.refl _ _
 refine calls_cw Try.func42 rfl Try.ntmps42 rfl ?_
 refine cw_seq ?_
 refine cw_region ?_
 refine ol_op (by exact opv_box (ss := [Seg.cell (.int .i64 a0.At), Seg.cell (.int .u64 a0.Lasts), Seg.cell (.bool a0.Flushed), Seg.cell (.int .u64 a0.Sent), Seg.cell (.int .u64 a0.Stored)]) rfl rfl rfl) rfl rfl rfl ?_
 rintro _ w6 ⟨G1, rfl, b2, q3, z4⟩
 have z4 := Nat.le_trans fB.size z4
 have fB := fB.gr q3
 refine ol_val (v := .int .u64 0) (by exact xr_assign rfl rfl) rfl rfl rfl ?_
 refine ol_nil ?_
 refine cw_seq ?_
 refine cw_region ?_
 refine ol_val (v := .int .i64 a1) (by exact xr_move rfl rfl) rfl rfl rfl ?_
 obtain ⟨t7, k8, h⟩ := bs h
 refine ol_op (by exact opv_call rfl cal27 (ac rfl (ac rfl an)) (rickyardref01_Rest.ok fu _ a1 3 _ k8)) rfl rfl rfl ?_
 rintro _ w10 ⟨rfl, q9⟩
 have b2 := b2.gr q9
 have fB := fB.gr q9
 refine ol_val (v := .int .i64 t7) (by exact xr_assign rfl rfl) rfl rfl rfl ?_
 refine ol_nil ?_
 refine cw_seq ?_
 refine cw_seq ?_
 refine cw_region ?_
 refine ol_val (v := .int .i64 t7) (by exact xr_move rfl rfl) rfl rfl rfl ?_
 refine ol_val (v := .bool (decide (t7 = 2))) (by exact xr_eqI rfl Try.underlying3 rfl rfl rfl) rfl rfl rfl ?_
 refine ol_nil ?_
 rcases is h with ⟨c11, h⟩ | ⟨c11, h⟩
 ·refine cw_condT rfl c11 ?_
  refine cw_seq ?_
  refine cw_region ?_
  refine ol_val (v := .pointer (some ⟨G1, 4, none⟩)) (by exact xr_fieldAddr (p := 0) (q := 4) rfl fl55_4 rfl) rfl rfl rfl ?_
  refine ol_val (v := .int .u64 a0.Stored) (by exact xr_load1 (v := .int .u64 a0.Stored) rfl ag22 rfl (b2.seg 4 rfl rfl)) rfl rfl rfl ?_
  refine ol_val (v := .int .u64 a0.Stored) (by exact xr_assign rfl rfl) rfl rfl rfl ?_
  refine ol_nil ?_
  refine cw_ret ?_
  repeat (first | with_reducible refine thn_r ?_ | with_reducible refine blk_r ?_)
  obtain rfl := Option.some.inj h
  refine fin_ret1 Try.results42 rfl ?_
  exact ⟨_, rfl, rfl, fB⟩
 refine cw_condF rfl c11 ?_
 refine cw_skip ?_
 refine cw_seq ?_
 refine cw_seq ?_
 refine cw_mid (fun ρ' w' => ρ' 2 = .pointer (some ⟨G1, 0, none⟩) ∧ ρ' 17 = .bool (if (decide (t7 = 1)) = true then a0.Flushed else false) ∧ w10 = w') ?_ ?_
 ·skip
  refine cw_region ?_
  refine ol_val (v := .int .i64 t7) (by exact xr_move rfl rfl) rfl rfl rfl ?_
  refine ol_val (v := .bool (decide (t7 = 1))) (by exact xr_eqI rfl Try.underlying3 rfl rfl rfl) rfl rfl rfl ?_
  refine ol_val (v := .bool (decide (t7 = 1))) (by exact xr_move rfl rfl) rfl rfl rfl ?_
  rcases bt (decide (t7 = 1)) with c12 | c12
  ·skip
   refine ol_gval (v := .pointer (some ⟨G1, 2, none⟩)) (by exact xr_fieldAddr (p := 0) (q := 2) rfl fl55_2 rfl) rfl rfl rfl rfl rfl c12 ?_
   refine ol_gval (v := .bool a0.Flushed) (by exact xr_load1 (v := .bool a0.Flushed) rfl ag4 rfl (b2.seg 2 rfl rfl)) rfl rfl rfl rfl rfl c12 ?_
   refine ol_val (v := .bool a0.Flushed) (by exact xr_pickT rfl rfl c12 rfl) rfl rfl rfl ?_
   refine ol_nil ?_
   refine thn_i ?_
   exact ⟨rfl, (rfl).trans (congrArg (fun z => (.bool z : Value)) (show a0.Flushed = (if (decide (t7 = 1)) = true then a0.Flushed else false) from by rw [ite_t c12])), rfl⟩
  refine ol_gskip rfl rfl rfl rfl rfl c12 ?_
  refine ol_gskip rfl rfl rfl rfl rfl c12 ?_
  refine ol_val (v := .bool false) (by exact xr_pickF rfl rfl c12 rfl) rfl rfl rfl ?_
  refine ol_nil ?_
  refine thn_i ?_
  exact ⟨rfl, (rfl).trans (congrArg (fun z => (.bool z : Value)) (show false = (if (decide (t7 = 1)) = true then a0.Flushed else false) from by rw [ite_f c12])), rfl⟩
 rintro ρ13 _ ⟨e2, e17, rfl⟩
 rcases is h with ⟨c14, h⟩ | ⟨c14, h⟩
 ·refine cw_condT e17 c14 ?_
  refine cw_seq ?_
  refine cw_region ?_
  refine ol_val (v := .pointer (some ⟨G1, 3, none⟩)) (by exact xr_fieldAddr (p := 0) (q := 3) rfl fl55_3 e2) rfl rfl rfl ?_
  refine ol_val (v := .int .u64 a0.Sent) (by exact xr_load1 (v := .int .u64 a0.Sent) rfl ag22 rfl (b2.seg 3 rfl rfl)) rfl rfl rfl ?_
  refine ol_val (v := .int .u64 a0.Sent) (by exact xr_assign rfl rfl) rfl rfl rfl ?_
  refine ol_nil ?_
  refine cw_ret ?_
  repeat (first | with_reducible refine thn_r ?_ | with_reducible refine blk_r ?_)
  obtain rfl := Option.some.inj h
  refine fin_ret1 Try.results42 rfl ?_
  exact ⟨_, rfl, rfl, fB⟩
 refine cw_condF e17 c14 ?_
 refine cw_skip ?_
 refine cw_seq ?_
 refine cw_region ?_
 refine ol_val (v := .pointer (some ⟨G1, 1, none⟩)) (by exact xr_fieldAddr (p := 0) (q := 1) rfl fl55_1 e2) rfl rfl rfl ?_
 refine ol_val (v := .int .u64 a0.Lasts) (by exact xr_load1 (v := .int .u64 a0.Lasts) rfl ag22 rfl (b2.seg 1 rfl rfl)) rfl rfl rfl ?_
 refine ol_val (v := .int .u64 a0.Lasts) (by exact xr_assign rfl rfl) rfl rfl rfl ?_
 refine ol_nil ?_
 refine cw_ret ?_
 repeat (first | with_reducible refine thn_r ?_ | with_reducible refine blk_r ?_)
 obtain rfl := Option.some.inj h
 refine fin_ret1 Try.results42 rfl ?_
 exact ⟨_, rfl, rfl, fB⟩
end Go.Proofs.Ytklhbaghbmndeaa
