/- RootTorn: texts merged, part 5 of 8. The last part proves that the law RootTorn holds for every input. -/
import Derived.Test.YtklhbaghbmndeaaPkRootTorn4
set_option maxRecDepth 100000
set_option maxHeartbeats 4000000
set_option linter.unusedVariables false
set_option linter.unusedSimpArgs false
namespace Go.Proofs.Ytklhbaghbmndeaa
open Go Go.Xw
def press_Word.f (fu : Nat) (a0 : S_pmem_Device) (a1 : Int) (a2 : Int) (a3 : Int) : Option (Int × S_pmem_Device) := ((press_may.f fu a0 a1).bind fun t7 => (if (!decide (t7 = 0)) = true then some (t7, a0) else (if (if (decide (a2 < 0)) = true then true else (decide (a2 ≥ 8))) = true then some (2, a0) else ((press_store.f fu a0 a1 a2 [a3]).bind fun t21 => some (t21.1, t21.2)))))
theorem press_Word.ok (fu : Nat) (w : World) (a0 : S_pmem_Device) (G_0 : Nat) (V0_0 : Value) (O0_0 : Own k_pmem_cell 142 w 0 V0_0 a0.cells) (V0_1 : Value) (O0_1 : Own (kI .i64) 3 w 0 V0_1 a0.plan.list) (b_0 : Blk w G_0 139 [Seg.cell V0_0 O0_0.one, Seg.cell V0_1 O0_1.one, (sI a0.plan.at_), Seg.cell (.bool a0.off), Seg.cell (.bool a0.armed), (sI a0.left), (sI a0.steps)]) (a1 : Int) (a2 : Int) (a3 : Int) (r : Int × S_pmem_Device) (h : press_Word.f fu a0 a1 a2 a3 = some r) :
  Calls Try.prog 57 (([(pt G_0 0), .int .i64 a1, .int .i64 a2, .int .u64 a3] : List Value).toArray) w (fun e w' => ∃ v, e = .returned v ∧ ∃ u1 : Value, ∃ u4 : Value, ∃ o2 : Own k_pmem_cell 142 w' 0 u1 r.2.cells, ∃ m3 : ∀ g, Value.ownBlock u1 = some g → w.heap.size ≤ g ∨ (g = G_0 ∨ some g = Value.ownBlock V0_0 ∨ some g = Value.ownBlock V0_1), ∃ o5 : Own (kI .i64) 3 w' 0 u4 r.2.plan.list, ∃ m6 : ∀ g, Value.ownBlock u4 = some g → w.heap.size ≤ g ∨ (g = G_0 ∨ some g = Value.ownBlock V0_0 ∨ some g = Value.ownBlock V0_1), v = .int .i64 r.1 ∧ Blk w' G_0 139 [Seg.cell u1 o2.one, Seg.cell u4 o5.one, (sI r.2.plan.at_), Seg.cell (.bool r.2.off), Seg.cell (.bool r.2.armed), (sI r.2.left), (sI r.2.steps)] ∧ Fr (fun j => j = G_0 ∨ some j = Value.ownBlock V0_0 ∨ some j = Value.ownBlock V0_1) w w') := by
 unfold press_Word.f at h
 have fB : Fr (fun j => j = G_0 ∨ some j = Value.ownBlock V0_0 ∨ some j = Value.ownBlock V0_1) w w := Fr.refl _ _
 have M0_0 : ∀ g, Value.ownBlock V0_0 = some g → w.heap.size ≤ g ∨ (g = G_0 ∨ some g = Value.ownBlock V0_0 ∨ some g = Value.ownBlock V0_1) := fun g hg => .inr (.inr (.inl hg.symm))
 have M0_1 : ∀ g, Value.ownBlock V0_1 = some g → w.heap.size ≤ g ∨ (g = G_0 ∨ some g = Value.ownBlock V0_0 ∨ some g = Value.ownBlock V0_1) := fun g hg => .inr (.inr (.inr hg.symm))
 refine calls_cw Try.func57 rfl Try.ntmps57 rfl ?_
 refine cw_seq ?_
 refine cw_region ?_
 refine ol_val (v := .int .i64 0) (xr_assign rfl rfl) rfl rfl rfl ?_
 refine ol_nil ?_
 refine cw_seq ?_
 refine cw_seq ?_
 refine cw_region ?_
 refine ol_val (v := (pt G_0 0)) (xr_move rfl rfl) rfl rfl rfl ?_
 refine ol_val (v := .int .i64 a1) (xr_move rfl rfl) rfl rfl rfl ?_
 obtain ⟨t7, k8, h⟩ := bs h
 refine ol_op (opv_call rfl cal102 (ac rfl (ac rfl an)) (press_may.ok fu _ a0 G_0 V0_0 (O0_0.rd) V0_1 (O0_1.rd) b_0 a1 _ k8)) rfl rfl rfl ?_
 rintro _ w10 ⟨rfl, q9⟩
 have b_0 := b_0.gr q9
 have O0_0 := O0_0.gr q9
 have O0_1 := O0_1.gr q9
 have fB := fB.gr q9
 refine ol_val (v := .int .i64 t7) (xr_assign rfl rfl) rfl rfl rfl ?_
 refine ol_nil ?_
 refine cw_seq ?_
 refine cw_region ?_
 refine ol_val (v := .int .i64 t7) (xr_move rfl rfl) rfl rfl rfl ?_
 refine ol_val (v := .bool (!decide (t7 = 0))) (xr_neI rfl Try.underlying31 rfl rfl rfl) rfl rfl rfl ?_
 refine ol_nil ?_
 rcases is h with ⟨c11, h⟩ | ⟨c11, h⟩
 ·refine cw_condT rfl c11 ?_
  refine cw_seq ?_
  refine cw_region ?_
  refine ol_val (v := .int .i64 t7) (xr_move rfl rfl) rfl rfl rfl ?_
  refine ol_val (v := .int .i64 t7) (xr_assign rfl rfl) rfl rfl rfl ?_
  refine ol_nil ?_
  refine cw_ret ?_
  repeat (first | with_reducible refine thn_r ?_ | with_reducible refine blk_r ?_)
  obtain rfl := Option.some.inj h
  refine fin_ret1 Try.results57 rfl ?_
  exact ⟨_, rfl, V0_0, V0_1, O0_0, M0_0, O0_1, M0_1, rfl, b_0, fB⟩
 refine cw_condF rfl c11 ?_
 refine cw_skip ?_
 refine cw_seq ?_
 refine cw_seq ?_
 refine cw_mid (fun ρ' w' => ρ' 0 = (pt G_0 0) ∧ ρ' 1 = .int .i64 a1 ∧ ρ' 2 = .int .i64 a2 ∧ ρ' 3 = .int .u64 a3 ∧ ρ' 21 = .bool (if (decide (a2 < 0)) = true then true else (decide (a2 ≥ 8))) ∧ w10 = w') ?_ ?_
 ·skip
  refine cw_region ?_
  refine ol_val (v := .int .i64 a2) (xr_move rfl rfl) rfl rfl rfl ?_
  refine ol_val (v := .bool (decide (a2 < 0))) (xr_lss rfl rfl rfl) rfl rfl rfl ?_
  refine ol_val (v := .bool (decide (a2 < 0))) (xr_move rfl rfl) rfl rfl rfl ?_
  rcases bt (decide (a2 < 0)) with c12 | c12
  ·skip
   refine ol_gskip rfl rfl rfl rfl rfl c12 ?_
   refine ol_gskip rfl rfl rfl rfl rfl c12 ?_
   refine ol_val (v := .bool true) (xr_pickT rfl rfl c12 rfl) rfl rfl rfl ?_
   refine ol_nil ?_
   refine thn_i ?_
   exact ⟨rfl, rfl, rfl, rfl, (rfl).trans (congrArg (fun z => (.bool z : Value)) (show true = (if (decide (a2 < 0)) = true then true else (decide (a2 ≥ 8))) from by rw [ite_t c12])), rfl⟩
  refine ol_gval (v := .int .i64 a2) (xr_move rfl rfl) rfl rfl rfl rfl rfl c12 ?_
  refine ol_gval (v := .bool (decide (a2 ≥ 8))) (xr_geq rfl rfl rfl) rfl rfl rfl rfl rfl c12 ?_
  refine ol_val (v := .bool (decide (a2 ≥ 8))) (xr_pickF rfl rfl c12 rfl) rfl rfl rfl ?_
  refine ol_nil ?_
  refine thn_i ?_
  exact ⟨rfl, rfl, rfl, rfl, (rfl).trans (congrArg (fun z => (.bool z : Value)) (show (decide (a2 ≥ 8)) = (if (decide (a2 < 0)) = true then true else (decide (a2 ≥ 8))) from by rw [ite_f c12])), rfl⟩
 rintro ρ13 _ ⟨e0, e1, e2, e3, e21, rfl⟩
 rcases is h with ⟨c14, h⟩ | ⟨c14, h⟩
 ·refine cw_condT e21 c14 ?_
  refine cw_seq ?_
  refine cw_region ?_
  refine ol_val (v := .int .i64 2) (xr_assign rfl rfl) rfl rfl rfl ?_
  refine ol_nil ?_
  refine cw_ret ?_
  repeat (first | with_reducible refine thn_r ?_ | with_reducible refine blk_r ?_)
  obtain rfl := Option.some.inj h
  refine fin_ret1 Try.results57 rfl ?_
  exact ⟨_, rfl, V0_0, V0_1, O0_0, M0_0, O0_1, M0_1, rfl, b_0, fB⟩
 refine cw_condF e21 c14 ?_
 refine cw_skip ?_
 refine cw_seq ?_
 refine cw_region ?_
 refine ol_val (v := (pt G_0 0)) (xr_move rfl e0) rfl rfl rfl ?_
 refine ol_val (v := .int .i64 a1) (xr_move rfl e1) rfl rfl rfl ?_
 refine ol_val (v := .int .i64 a2) (xr_move rfl e2) rfl rfl rfl ?_
 refine ol_val (v := .int .u64 a3) (xr_move rfl e3) rfl rfl rfl ?_
 refine ol_op (opv_buildSlice (K := (kI .u64)) (xs := [a3]) (vals := [.int .u64 a3]) rfl Try.underlying46 el22 rfl rfl ⟨rfl, rfl, trivial⟩ rfl rfl rfl fB.size) rfl rfl rfl ?_
 rintro v15 w20 ⟨o17, q16, z18⟩
 have b_0 := b_0.gr q16
 have O0_0 := O0_0.gr q16
 have O0_1 := O0_1.gr q16
 have fB := fB.gr q16
 obtain ⟨t21, k22, h⟩ := bs h
 have c32 : ∀ k, (k = G_0 ∨ some k = Value.ownBlock V0_0 ∨ some k = Value.ownBlock V0_1) → (w.heap.size ≤ k ∨ (k = G_0 ∨ some k = Value.ownBlock V0_0 ∨ some k = Value.ownBlock V0_1)) := (cv_or (cv_eq (.inr (.inl rfl))) (cv_or (cv_own M0_0) (cv_own M0_1)))
 refine ol_op (opv_call rfl cal103 (ac rfl (ac rfl (ac rfl (ac rfl an)))) (press_store.ok fu _ a0 G_0 V0_0 (Own.base O0_0 (Nat.zero_le _)) V0_1 (Own.base O0_1 (Nat.zero_le _)) b_0 a1 a2 [a3] v15 (o17.rd) (OffR.own o17 (off_ty b_0 o17 (by decide))) (OffRV.own o17 (OffV.ty o17 O0_0 (by decide))) (OffRV.own o17 (OffV.ty o17 O0_1 (by decide))) _ k22)) rfl rfl rfl ?_
 rintro _ w33 ⟨u24, u28, o25, m26, o29, m30, rfl, b_0, q23⟩
 have m26 : ∀ g, Value.ownBlock u24 = some g → w.heap.size ≤ g ∨ (g = G_0 ∨ some g = Value.ownBlock V0_0 ∨ some g = Value.ownBlock V0_1) := fun g hg => (m26 g hg).elim (fun x => .inl (Nat.le_trans fB.size x)) (c32 g)
 have m30 : ∀ g, Value.ownBlock u28 = some g → w.heap.size ≤ g ∨ (g = G_0 ∨ some g = Value.ownBlock V0_0 ∨ some g = Value.ownBlock V0_1) := fun g hg => (m30 g hg).elim (fun x => .inl (Nat.le_trans fB.size x)) (c32 g)
 have fB := fB.call q23 c32
 refine ol_val (v := .int .i64 t21.1) (xr_assign rfl rfl) rfl rfl rfl ?_
 refine ol_nil ?_
 refine cw_ret ?_
 repeat (first | with_reducible refine thn_r ?_ | with_reducible refine blk_r ?_)
 obtain rfl := Option.some.inj h
 refine fin_ret1 Try.results57 rfl ?_
 exact ⟨_, rfl, u24, u28, o25, m26, o29, m30, rfl, b_0, fB⟩
def root_head.f (fu : Nat) (a0 : S_pmem_Device) (a1 : Int) (a2 : Int) : Option (Int × S_pmem_Device) := ((press_Word.f fu a0 a1 0 a2).bind fun t7 => (if (!decide (t7.1 = 0)) = true then some (t7.1, t7.2) else ((press_Sure.f fu t7.2).bind fun t21 => some (t21.1, t21.2))))
theorem root_head.ok (fu : Nat) (w : World) (a0 : S_pmem_Device) (G_0 : Nat) (V0_0 : Value) (O0_0 : Own k_pmem_cell 142 w 0 V0_0 a0.cells) (V0_1 : Value) (O0_1 : Own (kI .i64) 3 w 0 V0_1 a0.plan.list) (b_0 : Blk w G_0 139 [Seg.cell V0_0 O0_0.one, Seg.cell V0_1 O0_1.one, (sI a0.plan.at_), Seg.cell (.bool a0.off), Seg.cell (.bool a0.armed), (sI a0.left), (sI a0.steps)]) (a1 : Int) (a2 : Int) (r : Int × S_pmem_Device) (h : root_head.f fu a0 a1 a2 = some r) :
  Calls Try.prog 121 (([(pt G_0 0), .int .i64 a1, .int .u64 a2] : List Value).toArray) w (fun e w' => ∃ v, e = .returned v ∧ ∃ u1 : Value, ∃ u4 : Value, ∃ o2 : Own k_pmem_cell 142 w' 0 u1 r.2.cells, ∃ m3 : ∀ g, Value.ownBlock u1 = some g → w.heap.size ≤ g ∨ (g = G_0 ∨ some g = Value.ownBlock V0_0 ∨ some g = Value.ownBlock V0_1), ∃ o5 : Own (kI .i64) 3 w' 0 u4 r.2.plan.list, ∃ m6 : ∀ g, Value.ownBlock u4 = some g → w.heap.size ≤ g ∨ (g = G_0 ∨ some g = Value.ownBlock V0_0 ∨ some g = Value.ownBlock V0_1), v = .int .i64 r.1 ∧ Blk w' G_0 139 [Seg.cell u1 o2.one, Seg.cell u4 o5.one, (sI r.2.plan.at_), Seg.cell (.bool r.2.off), Seg.cell (.bool r.2.armed), (sI r.2.left), (sI r.2.steps)] ∧ Fr (fun j => j = G_0 ∨ some j = Value.ownBlock V0_0 ∨ some j = Value.ownBlock V0_1) w w') := by
 unfold root_head.f at h
 have fB : Fr (fun j => j = G_0 ∨ some j = Value.ownBlock V0_0 ∨ some j = Value.ownBlock V0_1) w w := Fr.refl _ _
 have M0_0 : ∀ g, Value.ownBlock V0_0 = some g → w.heap.size ≤ g ∨ (g = G_0 ∨ some g = Value.ownBlock V0_0 ∨ some g = Value.ownBlock V0_1) := fun g hg => .inr (.inr (.inl hg.symm))
 have M0_1 : ∀ g, Value.ownBlock V0_1 = some g → w.heap.size ≤ g ∨ (g = G_0 ∨ some g = Value.ownBlock V0_0 ∨ some g = Value.ownBlock V0_1) := fun g hg => .inr (.inr (.inr hg.symm))
 refine calls_cw Try.func121 rfl Try.ntmps121 rfl ?_
 refine cw_seq ?_
 refine cw_region ?_
 refine ol_val (v := .int .i64 0) (xr_assign rfl rfl) rfl rfl rfl ?_
 refine ol_nil ?_
 refine cw_seq ?_
 refine cw_seq ?_
 refine cw_region ?_
 refine ol_val (v := (pt G_0 0)) (xr_move rfl rfl) rfl rfl rfl ?_
 refine ol_val (v := .int .i64 a1) (xr_move rfl rfl) rfl rfl rfl ?_
 refine ol_val (v := .int .u64 a2) (xr_move rfl rfl) rfl rfl rfl ?_
 obtain ⟨t7, k8, h⟩ := bs h
 have c18 : ∀ k, (k = G_0 ∨ some k = Value.ownBlock V0_0 ∨ some k = Value.ownBlock V0_1) → (w.heap.size ≤ k ∨ (k = G_0 ∨ some k = Value.ownBlock V0_0 ∨ some k = Value.ownBlock V0_1)) := (cv_or (cv_eq (.inr (.inl rfl))) (cv_or (cv_own M0_0) (cv_own M0_1)))
 refine ol_op (opv_call rfl cal57 (ac rfl (ac rfl (ac rfl (ac rfl an)))) (press_Word.ok fu _ a0 G_0 V0_0 (Own.base O0_0 (Nat.zero_le _)) V0_1 (Own.base O0_1 (Nat.zero_le _)) b_0 a1 0 a2 _ k8)) rfl rfl rfl ?_
 rintro _ w19 ⟨u10, u14, o11, m12, o15, m16, rfl, b_0, q9⟩
 have m12 : ∀ g, Value.ownBlock u10 = some g → w.heap.size ≤ g ∨ (g = G_0 ∨ some g = Value.ownBlock V0_0 ∨ some g = Value.ownBlock V0_1) := fun g hg => (m12 g hg).elim (fun x => .inl (Nat.le_trans fB.size x)) (c18 g)
 have m16 : ∀ g, Value.ownBlock u14 = some g → w.heap.size ≤ g ∨ (g = G_0 ∨ some g = Value.ownBlock V0_0 ∨ some g = Value.ownBlock V0_1) := fun g hg => (m16 g hg).elim (fun x => .inl (Nat.le_trans fB.size x)) (c18 g)
 have fB := fB.call q9 c18
 refine ol_val (v := .int .i64 t7.1) (xr_assign rfl rfl) rfl rfl rfl ?_
 refine ol_nil ?_
 refine cw_seq ?_
 refine cw_region ?_
 refine ol_val (v := .int .i64 t7.1) (xr_move rfl rfl) rfl rfl rfl ?_
 refine ol_val (v := .bool (!decide (t7.1 = 0))) (xr_neI rfl Try.underlying31 rfl rfl rfl) rfl rfl rfl ?_
 refine ol_nil ?_
 rcases is h with ⟨c20, h⟩ | ⟨c20, h⟩
 ·refine cw_condT rfl c20 ?_
  refine cw_seq ?_
  refine cw_region ?_
  refine ol_val (v := .int .i64 t7.1) (xr_move rfl rfl) rfl rfl rfl ?_
  refine ol_val (v := .int .i64 t7.1) (xr_assign rfl rfl) rfl rfl rfl ?_
  refine ol_nil ?_
  refine cw_ret ?_
  repeat (first | with_reducible refine thn_r ?_ | with_reducible refine blk_r ?_)
  obtain rfl := Option.some.inj h
  refine fin_ret1 Try.results121 rfl ?_
  exact ⟨_, rfl, u10, u14, o11, m12, o15, m16, rfl, b_0, fB⟩
 refine cw_condF rfl c20 ?_
 refine cw_skip ?_
 refine cw_seq ?_
 refine cw_region ?_
 refine ol_val (v := (pt G_0 0)) (xr_move rfl rfl) rfl rfl rfl ?_
 obtain ⟨t21, k22, h⟩ := bs h
 have c32 : ∀ k, (k = G_0 ∨ some k = Value.ownBlock u10 ∨ some k = Value.ownBlock u14) → (w.heap.size ≤ k ∨ (k = G_0 ∨ some k = Value.ownBlock V0_0 ∨ some k = Value.ownBlock V0_1)) := (cv_or (cv_eq (.inr (.inl rfl))) (cv_or (cv_own m12) (cv_own m16)))
 refine ol_op (opv_call rfl cal54 (ac rfl an) (press_Sure.ok fu _ t7.2 G_0 u10 (Own.base o11 (Nat.zero_le _)) u14 (Own.base o15 (Nat.zero_le _)) b_0 _ k22)) rfl rfl rfl ?_
 rintro _ w33 ⟨u24, u28, o25, m26, o29, m30, rfl, b_0, q23⟩
 have m26 : ∀ g, Value.ownBlock u24 = some g → w.heap.size ≤ g ∨ (g = G_0 ∨ some g = Value.ownBlock V0_0 ∨ some g = Value.ownBlock V0_1) := fun g hg => (m26 g hg).elim (fun x => .inl (Nat.le_trans fB.size x)) (c32 g)
 have m30 : ∀ g, Value.ownBlock u28 = some g → w.heap.size ≤ g ∨ (g = G_0 ∨ some g = Value.ownBlock V0_0 ∨ some g = Value.ownBlock V0_1) := fun g hg => (m30 g hg).elim (fun x => .inl (Nat.le_trans fB.size x)) (c32 g)
 have fB := fB.call q23 c32
 refine ol_val (v := .int .i64 t21.1) (xr_assign rfl rfl) rfl rfl rfl ?_
 refine ol_nil ?_
 refine cw_ret ?_
 repeat (first | with_reducible refine thn_r ?_ | with_reducible refine blk_r ?_)
 obtain rfl := Option.some.inj h
 refine fin_ret1 Try.results121 rfl ?_
 exact ⟨_, rfl, u24, u28, o25, m26, o29, m30, rfl, b_0, fB⟩
def root_tail.s0 (fu : Nat) (a1 : Int) (a2 : List Int) : (Int × (List S_pmem_cell) × (List Int) × Int × Bool × Bool × Int × Int) → Option (Sum (Sum (Int × S_pmem_Device) ((List S_pmem_cell) × (List Int) × Int × Bool × Bool × Int × Int)) (Int × (List S_pmem_cell) × (List Int) × Int × Bool × Bool × Int × Int)) := fun s7 => (if (decide (s7.1 < (List.length a2 : Int))) = true then (if 0 ≤ s7.1 ∧ s7.1 < (List.length a2 : Int) then ((pmem_Device_Store.f fu (⟨s7.2.1, (⟨s7.2.2.1, s7.2.2.2.1⟩ : S_pmem_plan), s7.2.2.2.2.1, s7.2.2.2.2.2.1, s7.2.2.2.2.2.2.1, s7.2.2.2.2.2.2.2⟩ : S_pmem_Device) (IntKind.i64.wrap ((IntKind.i64.wrap (a1 * 8)) + s7.1)) (ix a2 s7.1)).bind fun t35 => (if (!decide (t35.1 = 0)) = true then some (Sum.inl (Sum.inl (t35.1, t35.2))) else some (Sum.inr ((IntKind.i64.wrap (s7.1 + 1)), t35.2.cells, t35.2.plan.list, t35.2.plan.at_, t35.2.off, t35.2.armed, t35.2.left, t35.2.steps)))) else none) else some (Sum.inl (Sum.inr (s7.2.1, s7.2.2.1, s7.2.2.2.1, s7.2.2.2.2.1, s7.2.2.2.2.2.1, s7.2.2.2.2.2.2.1, s7.2.2.2.2.2.2.2))))
def root_tail.f (fu : Nat) (a0 : S_pmem_Device) (a1 : Int) (a2 : List Int) : Option (Int × S_pmem_Device) := ((loopM (root_tail.s0 fu a1 a2) fu (1, a0.cells, a0.plan.list, a0.plan.at_, a0.off, a0.armed, a0.left, a0.steps)).bind fun e8 => match e8 with | Sum.inl p => some p | Sum.inr x11 => ((pmem_Device_Flush.f fu (⟨x11.1, (⟨x11.2.1, x11.2.2.1⟩ : S_pmem_plan), x11.2.2.2.1, x11.2.2.2.2.1, x11.2.2.2.2.2.1, x11.2.2.2.2.2.2⟩ : S_pmem_Device) a1).bind fun t54 => (if (!decide (t54.1 = 0)) = true then some (t54.1, t54.2) else ((press_Sure.f fu t54.2).bind fun t68 => some (t68.1, t68.2)))))
theorem root_tail.ok (fu : Nat) (w : World) (a0 : S_pmem_Device) (G_0 : Nat) (V0_0 : Value) (O0_0 : Own k_pmem_cell 142 w 0 V0_0 a0.cells) (V0_1 : Value) (O0_1 : Own (kI .i64) 3 w 0 V0_1 a0.plan.list) (b_0 : Blk w G_0 139 [Seg.cell V0_0 O0_0.one, Seg.cell V0_1 O0_1.one, (sI a0.plan.at_), Seg.cell (.bool a0.off), Seg.cell (.bool a0.armed), (sI a0.left), (sI a0.steps)]) (a1 : Int) (a2 : List Int) (V2_0 : Value) (R2_0 : Rd (kI .u64) w V2_0 a2) (NR2_0_P0 : OffR V2_0 a2 G_0) (NR2_0_R0_0 : OffRV V2_0 a2 V0_0) (NR2_0_R0_1 : OffRV V2_0 a2 V0_1) (r : Int × S_pmem_Device) (h : root_tail.f fu a0 a1 a2 = some r) :
  Calls Try.prog 122 (([(pt G_0 0), .int .i64 a1, V2_0] : List Value).toArray) w (fun e w' => ∃ v, e = .returned v ∧ ∃ u1 : Value, ∃ u4 : Value, ∃ o2 : Own k_pmem_cell 142 w' 0 u1 r.2.cells, ∃ m3 : ∀ g, Value.ownBlock u1 = some g → w.heap.size ≤ g ∨ (g = G_0 ∨ some g = Value.ownBlock V0_0 ∨ some g = Value.ownBlock V0_1), ∃ o5 : Own (kI .i64) 3 w' 0 u4 r.2.plan.list, ∃ m6 : ∀ g, Value.ownBlock u4 = some g → w.heap.size ≤ g ∨ (g = G_0 ∨ some g = Value.ownBlock V0_0 ∨ some g = Value.ownBlock V0_1), v = .int .i64 r.1 ∧ Blk w' G_0 139 [Seg.cell u1 o2.one, Seg.cell u4 o5.one, (sI r.2.plan.at_), Seg.cell (.bool r.2.off), Seg.cell (.bool r.2.armed), (sI r.2.left), (sI r.2.steps)] ∧ Fr (fun j => j = G_0 ∨ some j = Value.ownBlock V0_0 ∨ some j = Value.ownBlock V0_1) w w') := by
 unfold root_tail.f at h
 have fB : Fr (fun j => j = G_0 ∨ some j = Value.ownBlock V0_0 ∨ some j = Value.ownBlock V0_1) w w := Fr.refl _ _
 have M0_0 : ∀ g, Value.ownBlock V0_0 = some g → w.heap.size ≤ g ∨ (g = G_0 ∨ some g = Value.ownBlock V0_0 ∨ some g = Value.ownBlock V0_1) := fun g hg => .inr (.inr (.inl hg.symm))
 have M0_1 : ∀ g, Value.ownBlock V0_1 = some g → w.heap.size ≤ g ∨ (g = G_0 ∨ some g = Value.ownBlock V0_0 ∨ some g = Value.ownBlock V0_1) := fun g hg => .inr (.inr (.inr hg.symm))
 refine calls_cw Try.func122 rfl Try.ntmps122 rfl ?_
 refine cw_seq ?_
 refine cw_region ?_
 refine ol_val (v := .int .i64 0) (xr_assign rfl rfl) rfl rfl rfl ?_
 refine ol_nil ?_
 refine cw_seq ?_
 refine cw_seq ?_
 refine cw_region ?_
 refine ol_val (v := .int .i64 1) (xr_assign rfl rfl) rfl rfl rfl ?_
 refine ol_nil ?_
 obtain ⟨e8, l9, h10⟩ := bs h
 refine cw_mid (fun ρ' w' => ∃ x11, e8 = Sum.inr x11 ∧ ∃ v12 : Value, ∃ v16 : Value, ∃ o13 : Own k_pmem_cell 142 w' 0 v12 x11.1, ∃ o17 : Own (kI .i64) 3 w' 0 v16 x11.2.1, ∃ m15 : ∀ g, Value.ownBlock v12 = some g → w.heap.size ≤ g ∨ (g = G_0 ∨ some g = Value.ownBlock V0_0 ∨ some g = Value.ownBlock V0_1), ∃ m19 : ∀ g, Value.ownBlock v16 = some g → w.heap.size ≤ g ∨ (g = G_0 ∨ some g = Value.ownBlock V0_0 ∨ some g = Value.ownBlock V0_1), ρ' 0 = (pt G_0 0) ∧ ρ' 1 = .int .i64 a1 ∧ Blk w' G_0 139 [Seg.cell v12 o13.one, Seg.cell v16 o17.one, (sI x11.2.2.1), Seg.cell (.bool x11.2.2.2.1), Seg.cell (.bool x11.2.2.2.2.1), (sI x11.2.2.2.2.2.1), (sI x11.2.2.2.2.2.2)] ∧ Fr (fun j => j = G_0 ∨ some j = Value.ownBlock V0_0 ∨ some j = Value.ownBlock V0_1) w w') ?_ ?_
 ·refine cw_block ?_
  refine cw_round (fun (s7 : Int × (List S_pmem_cell) × (List Int) × Int × Bool × Bool × Int × Int) ρ' w' => ∃ v20 : Value, ∃ v24 : Value, ∃ o21 : Own k_pmem_cell 142 w' 0 v20 s7.2.1, ∃ o25 : Own (kI .i64) 3 w' 0 v24 s7.2.2.1, ∃ m23 : ∀ g, Value.ownBlock v20 = some g → w.heap.size ≤ g ∨ (g = G_0 ∨ some g = Value.ownBlock V0_0 ∨ some g = Value.ownBlock V0_1), ∃ m27 : ∀ g, Value.ownBlock v24 = some g → w.heap.size ≤ g ∨ (g = G_0 ∨ some g = Value.ownBlock V0_0 ∨ some g = Value.ownBlock V0_1), ∃ R2_0 : Rd (kI .u64) w' V2_0 a2, OffRV V2_0 a2 v20 ∧ OffRV V2_0 a2 v24 ∧ ρ' 0 = (pt G_0 0) ∧ ρ' 1 = .int .i64 a1 ∧ ρ' 2 = V2_0 ∧ ρ' 7 = .int .i64 s7.1 ∧ Blk w' G_0 139 [Seg.cell v20 o21.one, Seg.cell v24 o25.one, (sI s7.2.2.2.1), Seg.cell (.bool s7.2.2.2.2.1), Seg.cell (.bool s7.2.2.2.2.2.1), (sI s7.2.2.2.2.2.2.1), (sI s7.2.2.2.2.2.2.2)] ∧ Fr (fun j => j = G_0 ∨ some j = Value.ownBlock V0_0 ∨ some j = Value.ownBlock V0_1) w w') l9 ?_ ?_
  ·skip
   exact ⟨V0_0, V0_1, O0_0, O0_1, M0_0, M0_1, R2_0, NR2_0_R0_0, NR2_0_R0_1, rfl, rfl, rfl, rfl, b_0, fB⟩
  rintro s7 x32 ρ30 w31 ⟨v20, v24, o21, o25, m23, m27, R2_0, a28, a29, e0, e1, e2, e7, b_0, fB⟩ h
  unfold root_tail.s0 at h
  refine cw_seq ?_
  refine cw_seq ?_
  refine cw_region ?_
  refine ol_val (v := .int .i64 s7.1) (xr_move rfl e7) rfl rfl rfl ?_
  refine ol_val (v := V2_0) (xr_move rfl e2) rfl rfl rfl ?_
  refine ol_val (v := .int .i64 (List.length a2 : Int)) (xr_lenR rfl Try.underlying46 rfl R2_0) rfl rfl rfl ?_
  refine ol_val (v := .bool (decide (s7.1 < (List.length a2 : Int)))) (xr_lss rfl rfl rfl) rfl rfl rfl ?_
  refine ol_nil ?_
  rcases is h with ⟨c33, h⟩ | ⟨c33, h⟩
  ·refine cw_condT rfl c33 ?_
   refine cw_skip ?_
   refine cw_seq ?_
   refine cw_block ?_
   refine cw_seq ?_
   refine cw_region ?_
   refine ol_val (v := (pt G_0 0)) (xr_move rfl e0) rfl rfl rfl ?_
   refine ol_val (v := .int .i64 a1) (xr_move rfl e1) rfl rfl rfl ?_
   refine ol_val (v := .int .i64 (IntKind.i64.wrap (a1 * 8))) (xr_mul rfl rfl rfl) rfl rfl rfl ?_
   refine ol_val (v := .int .i64 s7.1) (xr_move rfl e7) rfl rfl rfl ?_
   refine ol_val (v := .int .i64 (IntKind.i64.wrap ((IntKind.i64.wrap (a1 * 8)) + s7.1))) (xr_add rfl rfl rfl) rfl rfl rfl ?_
   refine ol_val (v := V2_0) (xr_move rfl e2) rfl rfl rfl ?_
   refine ol_val (v := .int .i64 s7.1) (xr_move rfl e7) rfl rfl rfl ?_
   obtain ⟨g34, h⟩ := gs h
   refine ol_val (v := (pt ((sb V2_0)) (so V2_0 + Int.toNat s7.1 * 1))) (xr_indexR (K := (kI .u64)) (v := V2_0) rfl Try.underlying46 sz22 rfl R2_0 rfl g34.1 g34.2) rfl rfl rfl ?_
   refine ol_val (v := .int .u64 (ix a2 s7.1)) (xr_load1 (v := .int .u64 (ix a2 s7.1)) rfl ag22 rfl (R2_0.elem g34.1 g34.2)) rfl rfl rfl ?_
   obtain ⟨t35, k36, h⟩ := bs h
   have f46 := (ro_or (ro_eq NR2_0_P0) (ro_or (ro_own a28) (ro_own a29)))
   have c47 : ∀ k, (k = G_0 ∨ some k = Value.ownBlock v20 ∨ some k = Value.ownBlock v24) → (w.heap.size ≤ k ∨ (k = G_0 ∨ some k = Value.ownBlock V0_0 ∨ some k = Value.ownBlock V0_1)) := (cv_or (cv_eq (.inr (.inl rfl))) (cv_or (cv_own m23) (cv_own m27)))
   refine ol_op (opv_call rfl cal28 (ac rfl (ac rfl (ac rfl an))) (pmem_Device_Store.ok fu _ (⟨s7.2.1, (⟨s7.2.2.1, s7.2.2.2.1⟩ : S_pmem_plan), s7.2.2.2.2.1, s7.2.2.2.2.2.1, s7.2.2.2.2.2.2.1, s7.2.2.2.2.2.2.2⟩ : S_pmem_Device) G_0 v20 (Own.base o21 (Nat.zero_le _)) v24 (Own.base o25 (Nat.zero_le _)) b_0 (IntKind.i64.wrap ((IntKind.i64.wrap (a1 * 8)) + s7.1)) (ix a2 s7.1) _ k36)) rfl rfl rfl ?_
   rintro _ w48 ⟨u38, u42, o39, m40, o43, m44, rfl, b_0, q37⟩
   have a49 := orv_new R2_0 rfl f46 m40
   have a50 := orv_new R2_0 rfl f46 m44
   have m40 : ∀ g, Value.ownBlock u38 = some g → w.heap.size ≤ g ∨ (g = G_0 ∨ some g = Value.ownBlock V0_0 ∨ some g = Value.ownBlock V0_1) := fun g hg => (m40 g hg).elim (fun x => .inl (Nat.le_trans fB.size x)) (c47 g)
   have m44 : ∀ g, Value.ownBlock u42 = some g → w.heap.size ≤ g ∨ (g = G_0 ∨ some g = Value.ownBlock V0_0 ∨ some g = Value.ownBlock V0_1) := fun g hg => (m44 g hg).elim (fun x => .inl (Nat.le_trans fB.size x)) (c47 g)
   have R2_0 := R2_0.fr q37 f46
   have fB := fB.call q37 c47
   refine ol_val (v := .int .i64 t35.1) (xr_assign rfl rfl) rfl rfl rfl ?_
   refine ol_nil ?_
   refine cw_seq ?_
   refine cw_region ?_
   refine ol_val (v := .int .i64 t35.1) (xr_move rfl rfl) rfl rfl rfl ?_
   refine ol_val (v := .bool (!decide (t35.1 = 0))) (xr_neI rfl Try.underlying31 rfl rfl rfl) rfl rfl rfl ?_
   refine ol_nil ?_
   rcases is h with ⟨c51, h⟩ | ⟨c51, h⟩
   ·refine cw_condT rfl c51 ?_
    refine cw_seq ?_
    refine cw_region ?_
    refine ol_val (v := .int .i64 t35.1) (xr_move rfl rfl) rfl rfl rfl ?_
    refine ol_val (v := .int .i64 t35.1) (xr_assign rfl rfl) rfl rfl rfl ?_
    refine ol_nil ?_
    refine cw_ret ?_
    repeat (first | with_reducible refine thn_r ?_ | with_reducible refine blk_r ?_)
    obtain rfl := Option.some.inj h
    refine lp_ret ?_
    rintro rfl
    repeat (first | with_reducible refine thn_r ?_ | with_reducible refine blk_r ?_)
    have h := h10
    obtain rfl := Option.some.inj h
    refine fin_ret1 Try.results122 rfl ?_
    exact ⟨_, rfl, u38, u42, o39, m40, o43, m44, rfl, b_0, fB⟩
   refine cw_condF rfl c51 ?_
   refine cw_skip ?_
   refine blk_i ?_
   refine cw_region ?_
   refine ol_val (v := .int .i64 s7.1) (xr_move rfl e7) rfl rfl rfl ?_
   refine ol_val (v := .int .i64 (IntKind.i64.wrap (s7.1 + 1))) (xr_add rfl rfl rfl) rfl rfl rfl ?_
   refine ol_val (v := .int .i64 (IntKind.i64.wrap (s7.1 + 1))) (xr_assign rfl rfl) rfl rfl rfl ?_
   refine ol_nil ?_
   obtain rfl := Option.some.inj h
   refine lp_in ?_
   exact ⟨u38, u42, o39, o43, m40, m44, R2_0, a49, a50, e0, e1, e2, rfl, b_0, fB⟩
  refine cw_condF rfl c33 ?_
  refine cw_exit ?_
  repeat (first | with_reducible refine thn_e ?_ | with_reducible refine blk_e rfl ?_)
  obtain rfl := Option.some.inj h
  refine lp_exit ?_
  rintro rfl
  refine thn_x ?_
  exact ⟨_, rfl, v20, v24, o21, o25, m23, m27, e0, e1, b_0, fB⟩
 rintro ρ52 w53 ⟨x11, rfl, v12, v16, o13, o17, m15, m19, e0, e1, b_0, fB⟩
 have h := h10
 refine cw_seq ?_
 refine cw_seq ?_
 refine cw_region ?_
 refine ol_val (v := (pt G_0 0)) (xr_move rfl e0) rfl rfl rfl ?_
 refine ol_val (v := .int .i64 a1) (xr_move rfl e1) rfl rfl rfl ?_
 obtain ⟨t54, k55, h⟩ := bs h
 have c65 : ∀ k, (k = G_0 ∨ some k = Value.ownBlock v12 ∨ some k = Value.ownBlock v16) → (w.heap.size ≤ k ∨ (k = G_0 ∨ some k = Value.ownBlock V0_0 ∨ some k = Value.ownBlock V0_1)) := (cv_or (cv_eq (.inr (.inl rfl))) (cv_or (cv_own m15) (cv_own m19)))
 refine ol_op (opv_call rfl cal29 (ac rfl (ac rfl an)) (pmem_Device_Flush.ok fu _ (⟨x11.1, (⟨x11.2.1, x11.2.2.1⟩ : S_pmem_plan), x11.2.2.2.1, x11.2.2.2.2.1, x11.2.2.2.2.2.1, x11.2.2.2.2.2.2⟩ : S_pmem_Device) G_0 v12 (Own.base o13 (Nat.zero_le _)) v16 (Own.base o17 (Nat.zero_le _)) b_0 a1 _ k55)) rfl rfl rfl ?_
 rintro _ w66 ⟨u57, u61, o58, m59, o62, m63, rfl, b_0, q56⟩
 have m59 : ∀ g, Value.ownBlock u57 = some g → w.heap.size ≤ g ∨ (g = G_0 ∨ some g = Value.ownBlock V0_0 ∨ some g = Value.ownBlock V0_1) := fun g hg => (m59 g hg).elim (fun x => .inl (Nat.le_trans fB.size x)) (c65 g)
 have m63 : ∀ g, Value.ownBlock u61 = some g → w.heap.size ≤ g ∨ (g = G_0 ∨ some g = Value.ownBlock V0_0 ∨ some g = Value.ownBlock V0_1) := fun g hg => (m63 g hg).elim (fun x => .inl (Nat.le_trans fB.size x)) (c65 g)
 have fB := fB.call q56 c65
 refine ol_val (v := .int .i64 t54.1) (xr_assign rfl rfl) rfl rfl rfl ?_
 refine ol_nil ?_
 refine cw_seq ?_
 refine cw_region ?_
 refine ol_val (v := .int .i64 t54.1) (xr_move rfl rfl) rfl rfl rfl ?_
 refine ol_val (v := .bool (!decide (t54.1 = 0))) (xr_neI rfl Try.underlying31 rfl rfl rfl) rfl rfl rfl ?_
 refine ol_nil ?_
 rcases is h with ⟨c67, h⟩ | ⟨c67, h⟩
 ·refine cw_condT rfl c67 ?_
  refine cw_seq ?_
  refine cw_region ?_
  refine ol_val (v := .int .i64 t54.1) (xr_move rfl rfl) rfl rfl rfl ?_
  refine ol_val (v := .int .i64 t54.1) (xr_assign rfl rfl) rfl rfl rfl ?_
  refine ol_nil ?_
  refine cw_ret ?_
  repeat (first | with_reducible refine thn_r ?_ | with_reducible refine blk_r ?_)
  obtain rfl := Option.some.inj h
  refine fin_ret1 Try.results122 rfl ?_
  exact ⟨_, rfl, u57, u61, o58, m59, o62, m63, rfl, b_0, fB⟩
 refine cw_condF rfl c67 ?_
 refine cw_skip ?_
 refine cw_seq ?_
 refine cw_region ?_
 refine ol_val (v := (pt G_0 0)) (xr_move rfl e0) rfl rfl rfl ?_
 obtain ⟨t68, k69, h⟩ := bs h
 have c79 : ∀ k, (k = G_0 ∨ some k = Value.ownBlock u57 ∨ some k = Value.ownBlock u61) → (w.heap.size ≤ k ∨ (k = G_0 ∨ some k = Value.ownBlock V0_0 ∨ some k = Value.ownBlock V0_1)) := (cv_or (cv_eq (.inr (.inl rfl))) (cv_or (cv_own m59) (cv_own m63)))
 refine ol_op (opv_call rfl cal54 (ac rfl an) (press_Sure.ok fu _ t54.2 G_0 u57 (Own.base o58 (Nat.zero_le _)) u61 (Own.base o62 (Nat.zero_le _)) b_0 _ k69)) rfl rfl rfl ?_
 rintro _ w80 ⟨u71, u75, o72, m73, o76, m77, rfl, b_0, q70⟩
 have m73 : ∀ g, Value.ownBlock u71 = some g → w.heap.size ≤ g ∨ (g = G_0 ∨ some g = Value.ownBlock V0_0 ∨ some g = Value.ownBlock V0_1) := fun g hg => (m73 g hg).elim (fun x => .inl (Nat.le_trans fB.size x)) (c79 g)
 have m77 : ∀ g, Value.ownBlock u75 = some g → w.heap.size ≤ g ∨ (g = G_0 ∨ some g = Value.ownBlock V0_0 ∨ some g = Value.ownBlock V0_1) := fun g hg => (m77 g hg).elim (fun x => .inl (Nat.le_trans fB.size x)) (c79 g)
 have fB := fB.call q70 c79
 refine ol_val (v := .int .i64 t68.1) (xr_assign rfl rfl) rfl rfl rfl ?_
 refine ol_nil ?_
 refine cw_ret ?_
 repeat (first | with_reducible refine thn_r ?_ | with_reducible refine blk_r ?_)
 obtain rfl := Option.some.inj h
 refine fin_ret1 Try.results122 rfl ?_
 exact ⟨_, rfl, u71, u75, o72, m73, o76, m77, rfl, b_0, fB⟩
def root_Lay.f (fu : Nat) (a0 : S_pmem_Device) (a1 : Int) (a2 : S_api_Super) : Option (Int × S_pmem_Device) := ((root_may.f fu a0).bind fun t15 => (if (!decide (t15 = 0)) = true then some (t15, a0) else ((super_Put.f fu a2).bind fun t20 => (if (if (!t20.2) = true then true else (if (decide (a1 < 0)) = true then true else (decide (a1 ≥ 2)))) = true then some (2, a0) else ((octet_Words.f fu t20.1).bind fun t31 => ((root_head.f fu a0 a1 0).bind fun t38 => (if (!decide (t38.1 = 0)) = true then some (t38.1, t38.2) else ((root_tail.f fu t38.2 a1 t31).bind fun t53 => (if (!decide (t53.1 = 0)) = true then some (t53.1, t53.2) else (if (0 : Int) < (List.length t31 : Int) then ((root_head.f fu t53.2 a1 (ix t31 0)).bind fun t69 => some (t69.1, t69.2)) else none))))))))))
theorem root_Lay.ok (fu : Nat) (w : World) (a0 : S_pmem_Device) (G_0 : Nat) (V0_0 : Value) (O0_0 : Own k_pmem_cell 142 w 0 V0_0 a0.cells) (V0_1 : Value) (O0_1 : Own (kI .i64) 3 w 0 V0_1 a0.plan.list) (b_0 : Blk w G_0 139 [Seg.cell V0_0 O0_0.one, Seg.cell V0_1 O0_1.one, (sI a0.plan.at_), Seg.cell (.bool a0.off), Seg.cell (.bool a0.armed), (sI a0.left), (sI a0.steps)]) (a1 : Int) (a2 : S_api_Super) (V2_0 : Value) (R2_0 : Rd (kI .i64) w V2_0 a2.Charts) (NR2_0_P0 : OffR V2_0 a2.Charts G_0) (NR2_0_R0_0 : OffRV V2_0 a2.Charts V0_0) (NR2_0_R0_1 : OffRV V2_0 a2.Charts V0_1) (r : Int × S_pmem_Device) (h : root_Lay.f fu a0 a1 a2 = some r) :
  Calls Try.prog 77 (([(pt G_0 0), .int .i64 a1, aggV [(sI a2.Epoch), (sI a2.Tickets.Geometry.Blocks), (sI a2.Tickets.Geometry.Slots), (sI a2.Tickets.Geometry.Gens), (sI a2.Tickets.Top), (sI a2.Tickets.High), (sI a2.Tickets.Free), (sI a2.Dir), Seg.cell V2_0 R2_0.one]] : List Value).toArray) w (fun e w' => ∃ v, e = .returned v ∧ ∃ u1 : Value, ∃ u4 : Value, ∃ o2 : Own k_pmem_cell 142 w' 0 u1 r.2.cells, ∃ m3 : ∀ g, Value.ownBlock u1 = some g → w.heap.size ≤ g ∨ (g = G_0 ∨ some g = Value.ownBlock V0_0 ∨ some g = Value.ownBlock V0_1), ∃ o5 : Own (kI .i64) 3 w' 0 u4 r.2.plan.list, ∃ m6 : ∀ g, Value.ownBlock u4 = some g → w.heap.size ≤ g ∨ (g = G_0 ∨ some g = Value.ownBlock V0_0 ∨ some g = Value.ownBlock V0_1), v = .int .i64 r.1 ∧ Blk w' G_0 139 [Seg.cell u1 o2.one, Seg.cell u4 o5.one, (sI r.2.plan.at_), Seg.cell (.bool r.2.off), Seg.cell (.bool r.2.armed), (sI r.2.left), (sI r.2.steps)] ∧ Fr (fun j => j = G_0 ∨ some j = Value.ownBlock V0_0 ∨ some j = Value.ownBlock V0_1) w w') := by
 unfold root_Lay.f at h
 have fB : Fr (fun j => j = G_0 ∨ some j = Value.ownBlock V0_0 ∨ some j = Value.ownBlock V0_1) w w := Fr.refl _ _
 have M0_0 : ∀ g, Value.ownBlock V0_0 = some g → w.heap.size ≤ g ∨ (g = G_0 ∨ some g = Value.ownBlock V0_0 ∨ some g = Value.ownBlock V0_1) := fun g hg => .inr (.inr (.inl hg.symm))
 have M0_1 : ∀ g, Value.ownBlock V0_1 = some g → w.heap.size ≤ g ∨ (g = G_0 ∨ some g = Value.ownBlock V0_0 ∨ some g = Value.ownBlock V0_1) := fun g hg => .inr (.inr (.inr hg.symm))
 refine calls_cw Try.func77 rfl Try.ntmps77 rfl ?_
 refine cw_seq ?_
 refine cw_region ?_
 refine ol_op (opv_box (ss := [(sI a2.Epoch), (sI a2.Tickets.Geometry.Blocks), (sI a2.Tickets.Geometry.Slots), (sI a2.Tickets.Geometry.Gens), (sI a2.Tickets.Top), (sI a2.Tickets.High), (sI a2.Tickets.Free), (sI a2.Dir), Seg.cell V2_0 R2_0.one]) rfl rfl rfl) rfl rfl rfl ?_
 rintro _ w12 ⟨G7, rfl, b8, q9, z10⟩
 have n13 := b_0.ne z10
 have a14 := OffR.new R2_0 z10 rfl
 have z10 := Nat.le_trans fB.size z10
 have b_0 := b_0.gr q9
 have O0_0 := O0_0.gr q9
 have O0_1 := O0_1.gr q9
 have R2_0 := R2_0.gr q9
 have fB := fB.gr q9
 refine ol_val (v := .int .i64 0) (xr_assign rfl rfl) rfl rfl rfl ?_
 refine ol_nil ?_
 refine cw_seq ?_
 refine cw_seq ?_
 refine cw_region ?_
 refine ol_val (v := (pt G_0 0)) (xr_move rfl rfl) rfl rfl rfl ?_
 obtain ⟨t15, k16, h⟩ := bs h
 refine ol_op (opv_call rfl cal119 (ac rfl an) (root_may.ok fu _ a0 G_0 V0_0 (O0_0.rd) V0_1 (O0_1.rd) b_0 _ k16)) rfl rfl rfl ?_
 rintro _ w18 ⟨rfl, q17⟩
 have b_0 := b_0.gr q17
 have b8 := b8.gr q17
 have O0_0 := O0_0.gr q17
 have O0_1 := O0_1.gr q17
 have R2_0 := R2_0.gr q17
 have fB := fB.gr q17
 refine ol_val (v := .int .i64 t15) (xr_assign rfl rfl) rfl rfl rfl ?_
 refine ol_nil ?_
 refine cw_seq ?_
 refine cw_region ?_
 refine ol_val (v := .int .i64 t15) (xr_move rfl rfl) rfl rfl rfl ?_
 refine ol_val (v := .bool (!decide (t15 = 0))) (xr_neI rfl Try.underlying31 rfl rfl rfl) rfl rfl rfl ?_
 refine ol_nil ?_
 rcases is h with ⟨c19, h⟩ | ⟨c19, h⟩
 ·refine cw_condT rfl c19 ?_
  refine cw_seq ?_
  refine cw_region ?_
  refine ol_val (v := .int .i64 t15) (xr_move rfl rfl) rfl rfl rfl ?_
  refine ol_val (v := .int .i64 t15) (xr_assign rfl rfl) rfl rfl rfl ?_
  refine ol_nil ?_
  refine cw_ret ?_
  repeat (first | with_reducible refine thn_r ?_ | with_reducible refine blk_r ?_)
  obtain rfl := Option.some.inj h
  refine fin_ret1 Try.results77 rfl ?_
  exact ⟨_, rfl, V0_0, V0_1, O0_0, M0_0, O0_1, M0_1, rfl, b_0, fB⟩
 refine cw_condF rfl c19 ?_
 refine cw_skip ?_
 refine cw_seq ?_
 refine cw_region ?_
 refine ol_val (v := aggV [(sI a2.Epoch), (sI a2.Tickets.Geometry.Blocks), (sI a2.Tickets.Geometry.Slots), (sI a2.Tickets.Geometry.Gens), (sI a2.Tickets.Top), (sI a2.Tickets.High), (sI a2.Tickets.Free), (sI a2.Dir), Seg.cell V2_0 R2_0.one]) (xr_loadS (ss := [(sI a2.Epoch), (sI a2.Tickets.Geometry.Blocks), (sI a2.Tickets.Geometry.Slots), (sI a2.Tickets.Geometry.Gens), (sI a2.Tickets.Top), (sI a2.Tickets.High), (sI a2.Tickets.Free), (sI a2.Dir), Seg.cell V2_0 R2_0.one]) rfl ag110 sz110 rfl rfl (b8.segs 0 9 rfl)) rfl rfl rfl ?_
 obtain ⟨t20, k21, h⟩ := bs h
 refine ol_op (opv_call rfl cal120 (ac rfl an) (super_Put.ok fu _ a2 V2_0 (R2_0) _ k21)) rfl rfl rfl ?_
 rintro _ w26 ⟨u22, o23, rfl, q25⟩
 have o23 := Own.base o23 fB.size
 have b_0 := b_0.gr q25
 have O0_0 := O0_0.gr q25
 have O0_1 := O0_1.gr q25
 have fB := fB.gr q25
 refine ol_val (v := .tuple #[u22, .bool t20.2]) (xr_move rfl rfl) rfl rfl rfl ?_
 refine ol_val (v := u22) (xr_extract rfl rfl rfl) rfl rfl rfl ?_
 refine ol_val (v := .bool t20.2) (xr_extract rfl rfl rfl) rfl rfl rfl ?_
 refine ol_val (v := u22) (xr_assign rfl rfl) rfl rfl rfl ?_
 refine ol_val (v := .bool t20.2) (xr_assign rfl rfl) rfl rfl rfl ?_
 refine ol_nil ?_
 refine cw_seq ?_
 refine cw_seq ?_
 refine cw_mid (fun ρ' w' => ρ' 0 = (pt G_0 0) ∧ ρ' 1 = .int .i64 a1 ∧ ρ' 8 = u22 ∧ ρ' 32 = .bool (if (!t20.2) = true then true else (if (decide (a1 < 0)) = true then true else (decide (a1 ≥ 2)))) ∧ w26 = w') ?_ ?_
 ·skip
  refine cw_region ?_
  refine ol_val (v := .bool t20.2) (xr_move rfl rfl) rfl rfl rfl ?_
  refine ol_val (v := .bool (!t20.2)) (xr_not rfl rfl) rfl rfl rfl ?_
  refine ol_val (v := .bool (!t20.2)) (xr_move rfl rfl) rfl rfl rfl ?_
  rcases bt (!t20.2) with c27 | c27
  ·skip
   refine ol_gskip rfl rfl rfl rfl rfl c27 ?_
   refine ol_gskip rfl rfl rfl rfl rfl c27 ?_
   refine ol_val (v := .bool true) (xr_pickT rfl rfl c27 rfl) rfl rfl rfl ?_
   refine ol_val (v := .bool true) (xr_move rfl rfl) rfl rfl rfl ?_
   refine ol_gskip rfl rfl rfl rfl rfl rfl ?_
   refine ol_gskip rfl rfl rfl rfl rfl rfl ?_
   refine ol_val (v := .bool true) (xr_pickT rfl rfl rfl rfl) rfl rfl rfl ?_
   refine ol_nil ?_
   refine thn_i ?_
   exact ⟨rfl, rfl, rfl, (rfl).trans (congrArg (fun z => (.bool z : Value)) (show true = (if (!t20.2) = true then true else (if (decide (a1 < 0)) = true then true else (decide (a1 ≥ 2)))) from by rw [ite_t c27])), rfl⟩
  refine ol_gval (v := .int .i64 a1) (xr_move rfl rfl) rfl rfl rfl rfl rfl c27 ?_
  refine ol_gval (v := .bool (decide (a1 < 0))) (xr_lss rfl rfl rfl) rfl rfl rfl rfl rfl c27 ?_
  refine ol_val (v := .bool (decide (a1 < 0))) (xr_pickF rfl rfl c27 rfl) rfl rfl rfl ?_
  refine ol_val (v := .bool (decide (a1 < 0))) (xr_move rfl rfl) rfl rfl rfl ?_
  rcases bt (decide (a1 < 0)) with c28 | c28
  ·skip
   refine ol_gskip rfl rfl rfl rfl rfl c28 ?_
   refine ol_gskip rfl rfl rfl rfl rfl c28 ?_
   refine ol_val (v := .bool true) (xr_pickT rfl rfl c28 rfl) rfl rfl rfl ?_
   refine ol_nil ?_
   refine thn_i ?_
   exact ⟨rfl, rfl, rfl, (rfl).trans (congrArg (fun z => (.bool z : Value)) (show true = (if (!t20.2) = true then true else (if (decide (a1 < 0)) = true then true else (decide (a1 ≥ 2)))) from by rw [ite_f c27, ite_t c28])), rfl⟩
  refine ol_gval (v := .int .i64 a1) (xr_move rfl rfl) rfl rfl rfl rfl rfl c28 ?_
  refine ol_gval (v := .bool (decide (a1 ≥ 2))) (xr_geq rfl rfl rfl) rfl rfl rfl rfl rfl c28 ?_
  refine ol_val (v := .bool (decide (a1 ≥ 2))) (xr_pickF rfl rfl c28 rfl) rfl rfl rfl ?_
  refine ol_nil ?_
  refine thn_i ?_
  exact ⟨rfl, rfl, rfl, (rfl).trans (congrArg (fun z => (.bool z : Value)) (show (decide (a1 ≥ 2)) = (if (!t20.2) = true then true else (if (decide (a1 < 0)) = true then true else (decide (a1 ≥ 2)))) from by rw [ite_f c27, ite_f c28])), rfl⟩
 rintro ρ29 _ ⟨e0, e1, e8, e32, rfl⟩
 rcases is h with ⟨c30, h⟩ | ⟨c30, h⟩
 ·refine cw_condT e32 c30 ?_
  refine cw_seq ?_
  refine cw_region ?_
  refine ol_val (v := .int .i64 2) (xr_assign rfl rfl) rfl rfl rfl ?_
  refine ol_nil ?_
  refine cw_ret ?_
  repeat (first | with_reducible refine thn_r ?_ | with_reducible refine blk_r ?_)
  obtain rfl := Option.some.inj h
  refine fin_ret1 Try.results77 rfl ?_
  exact ⟨_, rfl, V0_0, V0_1, O0_0, M0_0, O0_1, M0_1, rfl, b_0, fB⟩
 refine cw_condF e32 c30 ?_
 refine cw_skip ?_
 refine cw_seq ?_
 refine cw_region ?_
 refine ol_val (v := u22) (xr_move rfl e8) rfl rfl rfl ?_
 obtain ⟨t31, k32, h⟩ := bs h
 refine ol_op (opv_call rfl cal99 (ac rfl an) (octet_Words.ok fu _ t20.1 u22 (o23.rd) _ k32)) rfl rfl rfl ?_
 rintro u33 w37 ⟨_, o34, rfl, q36⟩
 have o34 := Own.base o34 fB.size
 have b_0 := b_0.gr q36
 have O0_0 := O0_0.gr q36
 have O0_1 := O0_1.gr q36
 have fB := fB.gr q36
 refine ol_val (v := u33) (xr_assign rfl rfl) rfl rfl rfl ?_
 refine ol_nil ?_
 refine cw_seq ?_
 refine cw_seq ?_
 refine cw_region ?_
 refine ol_val (v := (pt G_0 0)) (xr_move rfl e0) rfl rfl rfl ?_
 refine ol_val (v := .int .i64 a1) (xr_move rfl e1) rfl rfl rfl ?_
 obtain ⟨t38, k39, h⟩ := bs h
 have f49 := (vo_or (vo_eq (off_ty b_0 o34 (by decide))) (vo_or (vo_own (OffV.ty o34 O0_0 (by decide))) (vo_own (OffV.ty o34 O0_1 (by decide)))))
 have c50 : ∀ k, (k = G_0 ∨ some k = Value.ownBlock V0_0 ∨ some k = Value.ownBlock V0_1) → (w.heap.size ≤ k ∨ (k = G_0 ∨ some k = Value.ownBlock V0_0 ∨ some k = Value.ownBlock V0_1)) := (cv_or (cv_eq (.inr (.inl rfl))) (cv_or (cv_own M0_0) (cv_own M0_1)))
 refine ol_op (opv_call rfl cal121 (ac rfl (ac rfl (ac rfl an))) (root_head.ok fu _ a0 G_0 V0_0 (Own.base O0_0 (Nat.zero_le _)) V0_1 (Own.base O0_1 (Nat.zero_le _)) b_0 a1 0 _ k39)) rfl rfl rfl ?_
 rintro _ w51 ⟨u41, u45, o42, m43, o46, m47, rfl, b_0, q40⟩
 have m43 : ∀ g, Value.ownBlock u41 = some g → w.heap.size ≤ g ∨ (g = G_0 ∨ some g = Value.ownBlock V0_0 ∨ some g = Value.ownBlock V0_1) := fun g hg => (m43 g hg).elim (fun x => .inl (Nat.le_trans fB.size x)) (c50 g)
 have m47 : ∀ g, Value.ownBlock u45 = some g → w.heap.size ≤ g ∨ (g = G_0 ∨ some g = Value.ownBlock V0_0 ∨ some g = Value.ownBlock V0_1) := fun g hg => (m47 g hg).elim (fun x => .inl (Nat.le_trans fB.size x)) (c50 g)
 have o34 := o34.fr q40 f49
 have fB := fB.call q40 c50
 refine ol_val (v := .int .i64 t38.1) (xr_assign rfl rfl) rfl rfl rfl ?_
 refine ol_nil ?_
 refine cw_seq ?_
 refine cw_region ?_
 refine ol_val (v := .int .i64 t38.1) (xr_move rfl rfl) rfl rfl rfl ?_
 refine ol_val (v := .bool (!decide (t38.1 = 0))) (xr_neI rfl Try.underlying31 rfl rfl rfl) rfl rfl rfl ?_
 refine ol_nil ?_
 rcases is h with ⟨c52, h⟩ | ⟨c52, h⟩
 ·refine cw_condT rfl c52 ?_
  refine cw_seq ?_
  refine cw_region ?_
  refine ol_val (v := .int .i64 t38.1) (xr_move rfl rfl) rfl rfl rfl ?_
  refine ol_val (v := .int .i64 t38.1) (xr_assign rfl rfl) rfl rfl rfl ?_
  refine ol_nil ?_
  refine cw_ret ?_
  repeat (first | with_reducible refine thn_r ?_ | with_reducible refine blk_r ?_)
  obtain rfl := Option.some.inj h
  refine fin_ret1 Try.results77 rfl ?_
  exact ⟨_, rfl, u41, u45, o42, m43, o46, m47, rfl, b_0, fB⟩
 refine cw_condF rfl c52 ?_
 refine cw_skip ?_
 refine cw_seq ?_
 refine cw_seq ?_
 refine cw_region ?_
 refine ol_val (v := (pt G_0 0)) (xr_move rfl e0) rfl rfl rfl ?_
 refine ol_val (v := .int .i64 a1) (xr_move rfl e1) rfl rfl rfl ?_
 refine ol_val (v := u33) (xr_move rfl rfl) rfl rfl rfl ?_
 obtain ⟨t53, k54, h⟩ := bs h
 have f64 := (vo_or (vo_eq (off_ty b_0 o34 (by decide))) (vo_or (vo_own (OffV.ty o34 o42 (by decide))) (vo_own (OffV.ty o34 o46 (by decide)))))
 have c65 : ∀ k, (k = G_0 ∨ some k = Value.ownBlock u41 ∨ some k = Value.ownBlock u45) → (w.heap.size ≤ k ∨ (k = G_0 ∨ some k = Value.ownBlock V0_0 ∨ some k = Value.ownBlock V0_1)) := (cv_or (cv_eq (.inr (.inl rfl))) (cv_or (cv_own m43) (cv_own m47)))
 refine ol_op (opv_call rfl cal122 (ac rfl (ac rfl (ac rfl an))) (root_tail.ok fu _ t38.2 G_0 u41 (Own.base o42 (Nat.zero_le _)) u45 (Own.base o46 (Nat.zero_le _)) b_0 a1 t31 u33 (o34.rd) (OffR.own o34 (off_ty b_0 o34 (by decide))) (OffRV.own o34 (OffV.ty o34 o42 (by decide))) (OffRV.own o34 (OffV.ty o34 o46 (by decide))) _ k54)) rfl rfl rfl ?_
 rintro _ w66 ⟨u56, u60, o57, m58, o61, m62, rfl, b_0, q55⟩
 have m58 : ∀ g, Value.ownBlock u56 = some g → w.heap.size ≤ g ∨ (g = G_0 ∨ some g = Value.ownBlock V0_0 ∨ some g = Value.ownBlock V0_1) := fun g hg => (m58 g hg).elim (fun x => .inl (Nat.le_trans fB.size x)) (c65 g)
 have m62 : ∀ g, Value.ownBlock u60 = some g → w.heap.size ≤ g ∨ (g = G_0 ∨ some g = Value.ownBlock V0_0 ∨ some g = Value.ownBlock V0_1) := fun g hg => (m62 g hg).elim (fun x => .inl (Nat.le_trans fB.size x)) (c65 g)
 have o34 := o34.fr q55 f64
 have fB := fB.call q55 c65
 refine ol_val (v := .int .i64 t53.1) (xr_assign rfl rfl) rfl rfl rfl ?_
 refine ol_nil ?_
 refine cw_seq ?_
 refine cw_region ?_
 refine ol_val (v := .int .i64 t53.1) (xr_move rfl rfl) rfl rfl rfl ?_
 refine ol_val (v := .bool (!decide (t53.1 = 0))) (xr_neI rfl Try.underlying31 rfl rfl rfl) rfl rfl rfl ?_
 refine ol_nil ?_
 rcases is h with ⟨c67, h⟩ | ⟨c67, h⟩
 ·refine cw_condT rfl c67 ?_
  refine cw_seq ?_
  refine cw_region ?_
  refine ol_val (v := .int .i64 t53.1) (xr_move rfl rfl) rfl rfl rfl ?_
  refine ol_val (v := .int .i64 t53.1) (xr_assign rfl rfl) rfl rfl rfl ?_
  refine ol_nil ?_
  refine cw_ret ?_
  repeat (first | with_reducible refine thn_r ?_ | with_reducible refine blk_r ?_)
  obtain rfl := Option.some.inj h
  refine fin_ret1 Try.results77 rfl ?_
  exact ⟨_, rfl, u56, u60, o57, m58, o61, m62, rfl, b_0, fB⟩
 refine cw_condF rfl c67 ?_
 refine cw_skip ?_
 refine cw_seq ?_
 refine cw_region ?_
 refine ol_val (v := (pt G_0 0)) (xr_move rfl e0) rfl rfl rfl ?_
 refine ol_val (v := .int .i64 a1) (xr_move rfl e1) rfl rfl rfl ?_
 refine ol_val (v := u33) (xr_move rfl rfl) rfl rfl rfl ?_
 obtain ⟨g68, h⟩ := gs h
 refine ol_val (v := (pt ((sb u33)) (so u33 + Int.toNat 0 * 1))) (xr_indexR (K := (kI .u64)) (v := u33) rfl Try.underlying46 sz22 rfl o34.rd rfl (by decide) g68) rfl rfl rfl ?_
 refine ol_val (v := .int .u64 (ix t31 0)) (xr_load1 (v := .int .u64 (ix t31 0)) rfl ag22 rfl (o34.rd.elem (by decide) g68)) rfl rfl rfl ?_
 obtain ⟨t69, k70, h⟩ := bs h
 have c80 : ∀ k, (k = G_0 ∨ some k = Value.ownBlock u56 ∨ some k = Value.ownBlock u60) → (w.heap.size ≤ k ∨ (k = G_0 ∨ some k = Value.ownBlock V0_0 ∨ some k = Value.ownBlock V0_1)) := (cv_or (cv_eq (.inr (.inl rfl))) (cv_or (cv_own m58) (cv_own m62)))
 refine ol_op (opv_call rfl cal121 (ac rfl (ac rfl (ac rfl an))) (root_head.ok fu _ t53.2 G_0 u56 (Own.base o57 (Nat.zero_le _)) u60 (Own.base o61 (Nat.zero_le _)) b_0 a1 (ix t31 0) _ k70)) rfl rfl rfl ?_
 rintro _ w81 ⟨u72, u76, o73, m74, o77, m78, rfl, b_0, q71⟩
 have m74 : ∀ g, Value.ownBlock u72 = some g → w.heap.size ≤ g ∨ (g = G_0 ∨ some g = Value.ownBlock V0_0 ∨ some g = Value.ownBlock V0_1) := fun g hg => (m74 g hg).elim (fun x => .inl (Nat.le_trans fB.size x)) (c80 g)
 have m78 : ∀ g, Value.ownBlock u76 = some g → w.heap.size ≤ g ∨ (g = G_0 ∨ some g = Value.ownBlock V0_0 ∨ some g = Value.ownBlock V0_1) := fun g hg => (m78 g hg).elim (fun x => .inl (Nat.le_trans fB.size x)) (c80 g)
 have fB := fB.call q71 c80
 refine ol_val (v := .int .i64 t69.1) (xr_assign rfl rfl) rfl rfl rfl ?_
 refine ol_nil ?_
 refine cw_ret ?_
 repeat (first | with_reducible refine thn_r ?_ | with_reducible refine blk_r ?_)
 obtain rfl := Option.some.inj h
 refine fin_ret1 Try.results77 rfl ?_
 exact ⟨_, rfl, u72, u76, o73, m74, o77, m78, rfl, b_0, fB⟩
def rickyardlaw16_least.f (fu : Nat) (a0 : Int) : Option S_api_Super := some ((⟨a0, (⟨(⟨16, 1, 1⟩ : S_api_Geometry), (0 : Int), (0 : Int), (0 : Int)⟩ : S_api_Tickets), (0 : Int), [2]⟩ : S_api_Super))
theorem rickyardlaw16_least.ok (fu : Nat) (w : World) (a0 : Int) (r : S_api_Super) (h : rickyardlaw16_least.f fu a0 = some r) :
  Calls Try.prog 112 (([.int .i64 a0] : List Value).toArray) w (fun e w' => ∃ v, e = .returned v ∧ ∃ u1 : Value, ∃ o2 : Own (kI .i64) 3 w' w.heap.size u1 r.Charts, v = aggV [(sI r.Epoch), (sI r.Tickets.Geometry.Blocks), (sI r.Tickets.Geometry.Slots), (sI r.Tickets.Geometry.Gens), (sI r.Tickets.Top), (sI r.Tickets.High), (sI r.Tickets.Free), (sI r.Dir), Seg.cell u1 o2.one] ∧ Gr w w') := by
 unfold rickyardlaw16_least.f at h
 have fB : Gr w w := Fr.refl _ _
 refine calls_cw Try.func112 rfl Try.ntmps112 rfl ?_
 refine cw_seq ?_
 refine cw_region ?_
 refine ol_op (opv_alloc (ss := [(sI (0 : Int)), (sI (0 : Int)), (sI (0 : Int)), (sI (0 : Int)), (sI (0 : Int)), (sI (0 : Int)), (sI (0 : Int)), (sI (0 : Int)), Seg.cell (.slice none 0 0) (by rfl)]) rfl ze110 rfl) rfl rfl rfl ?_
 rintro _ w9 ⟨G4, rfl, b5, q6, z7⟩
 have z7 := Nat.le_trans fB.size z7
 have fB := fB.gr q6
 refine ol_nil ?_
 refine cw_seq ?_
 refine cw_region ?_
 refine ol_val (v := .int .i64 a0) (xr_move rfl rfl) rfl rfl rfl ?_
 refine ol_op (opv_buildSlice (K := (kI .i64)) (xs := [2]) (vals := [.int .i64 2]) rfl Try.underlying25 el3 rfl rfl ⟨rfl, rfl, trivial⟩ rfl rfl rfl fB.size) rfl rfl rfl ?_
 rintro v10 w15 ⟨o12, q11, z13⟩
 have b5 := b5.gr q11
 have fB := fB.gr q11
 refine ol_val (v := aggV [(sI a0), (sI (0 : Int)), (sI (0 : Int)), (sI (0 : Int)), (sI (0 : Int)), (sI (0 : Int)), (sI (0 : Int)), (sI (0 : Int)), Seg.cell v10 o12.one]) (xr_buildS (vals := [(0, .int .i64 a0), (3, v10)]) (res := [(sI a0), (sI (0 : Int)), (sI (0 : Int)), (sI (0 : Int)), (sI (0 : Int)), (sI (0 : Int)), (sI (0 : Int)), (sI (0 : Int)), Seg.cell v10 o12.one]) rfl ⟨rfl, rfl, ⟨rfl, rfl, trivial⟩⟩ Try.underlying110 ze110 pl110 (fl_cons (xs := cellsOf [(sI a0)]) (cs' := cellsOf [(sI a0), (sI (0 : Int)), (sI (0 : Int)), (sI (0 : Int)), (sI (0 : Int)), (sI (0 : Int)), (sI (0 : Int)), (sI (0 : Int)), Seg.cell (.slice none 0 0) (by rfl)]) rfl rfl (len_cellsOf _) (Spl.segs [(sI (0 : Int)), (sI (0 : Int)), (sI (0 : Int)), (sI (0 : Int)), (sI (0 : Int)), (sI (0 : Int)), (sI (0 : Int)), (sI (0 : Int)), Seg.cell (.slice none 0 0) (by rfl)] 0 1 [(sI a0)] rfl rfl) (fl_cons (xs := cellsOf [Seg.cell v10 o12.one]) (cs' := cellsOf [(sI a0), (sI (0 : Int)), (sI (0 : Int)), (sI (0 : Int)), (sI (0 : Int)), (sI (0 : Int)), (sI (0 : Int)), (sI (0 : Int)), Seg.cell v10 o12.one]) rfl (cells_one o12.one) (len_cellsOf _) (Spl.segs [(sI a0), (sI (0 : Int)), (sI (0 : Int)), (sI (0 : Int)), (sI (0 : Int)), (sI (0 : Int)), (sI (0 : Int)), (sI (0 : Int)), Seg.cell (.slice none 0 0) (by rfl)] 8 1 [Seg.cell v10 o12.one] rfl rfl) fl_nil))) rfl rfl rfl ?_
 refine ol_op (opv_alloc (ss := [(sI (0 : Int)), (sI (0 : Int)), (sI (0 : Int)), (sI (0 : Int)), (sI (0 : Int)), (sI (0 : Int)), (sI (0 : Int)), (sI (0 : Int)), Seg.cell (.slice none 0 0) (by rfl)]) rfl ze110 rfl) rfl rfl rfl ?_
 rintro _ w21 ⟨G16, rfl, b17, q18, z19⟩
 have n22 := b5.ne z19
 have z19 := Nat.le_trans fB.size z19
 have b5 := b5.gr q18
 have o12 := o12.gr q18
 have fB := fB.gr q18
 have f24 := off_ty b17 o12 (by decide)
 refine ol_op0 (opv_store (ss' := [(sI a0), (sI (0 : Int)), (sI (0 : Int)), (sI (0 : Int)), (sI (0 : Int)), (sI (0 : Int)), (sI (0 : Int)), (sI (0 : Int)), Seg.cell v10 o12.one]) (xs := cellsOf [(sI a0), (sI (0 : Int)), (sI (0 : Int)), (sI (0 : Int)), (sI (0 : Int)), (sI (0 : Int)), (sI (0 : Int)), (sI (0 : Int)), Seg.cell v10 o12.one]) rfl sz110 rfl rfl rfl (len_cellsOf _) (one_cellsOf _) b17 (Spl.segs _ 0 9 [(sI a0), (sI (0 : Int)), (sI (0 : Int)), (sI (0 : Int)), (sI (0 : Int)), (sI (0 : Int)), (sI (0 : Int)), (sI (0 : Int)), Seg.cell v10 o12.one] rfl rfl)) rfl rfl ?_
 rintro _ w25 ⟨b17, q23⟩
 have b5 := b5.wr q23 n22
 have o12 := o12.wr q23 f24
 have fB := fB.wr q23 z19
 refine ol_nil ?_
 refine cw_seq ?_
 refine cw_region ?_
 refine ol_val (v := aggV [(sI 16), (sI 1), (sI 1)]) (xr_build (vals := [(0, .int .i64 16), (1, .int .i64 1), (2, .int .i64 1)]) rfl ⟨rfl, rfl, ⟨rfl, rfl, ⟨rfl, rfl, trivial⟩⟩⟩ (bl106_0_1_2 16 1 1 _)) rfl rfl rfl ?_
 refine ol_val (v := (pt G16 1)) (xr_fieldAddr (p := 0) (q := 1) rfl fl110_1 rfl) rfl rfl rfl ?_
 refine ol_val (v := (pt G16 1)) (xr_fieldAddr (p := 1) (q := 0) rfl fl108_0 rfl) rfl rfl rfl ?_
 have f27 := off_ty b17 o12 (by decide)
 refine ol_op0 (opv_store (ss' := [(sI a0), (sI 16), (sI 1), (sI 1), (sI (0 : Int)), (sI (0 : Int)), (sI (0 : Int)), (sI (0 : Int)), Seg.cell v10 o12.one]) (xs := cellsOf [(sI 16), (sI 1), (sI 1)]) rfl sz106 rfl rfl rfl (len_cellsOf _) (one_cellsOf _) b17 (Spl.segs _ 1 3 [(sI 16), (sI 1), (sI 1)] rfl rfl)) rfl rfl ?_
 rintro _ w28 ⟨b17, q26⟩
 have b5 := b5.wr q26 n22
 have o12 := o12.wr q26 f27
 have fB := fB.wr q26 z19
 refine ol_nil ?_
 refine cw_seq ?_
 refine cw_region ?_
 refine ol_val (v := aggV [(sI a0), (sI 16), (sI 1), (sI 1), (sI (0 : Int)), (sI (0 : Int)), (sI (0 : Int)), (sI (0 : Int)), Seg.cell v10 o12.one]) (xr_loadS (ss := [(sI a0), (sI 16), (sI 1), (sI 1), (sI (0 : Int)), (sI (0 : Int)), (sI (0 : Int)), (sI (0 : Int)), Seg.cell v10 o12.one]) rfl ag110 sz110 rfl rfl (b17.segs 0 9 rfl)) rfl rfl rfl ?_
 have f30 := off_ty b5 o12 (by decide)
 refine ol_op0 (opv_store (ss' := [(sI a0), (sI 16), (sI 1), (sI 1), (sI (0 : Int)), (sI (0 : Int)), (sI (0 : Int)), (sI (0 : Int)), Seg.cell v10 o12.one]) (xs := cellsOf [(sI a0), (sI 16), (sI 1), (sI 1), (sI (0 : Int)), (sI (0 : Int)), (sI (0 : Int)), (sI (0 : Int)), Seg.cell v10 o12.one]) rfl sz110 rfl rfl rfl (len_cellsOf _) (one_cellsOf _) b5 (Spl.segs _ 0 9 [(sI a0), (sI 16), (sI 1), (sI 1), (sI (0 : Int)), (sI (0 : Int)), (sI (0 : Int)), (sI (0 : Int)), Seg.cell v10 o12.one] rfl rfl)) rfl rfl ?_
 rintro _ w31 ⟨b5, q29⟩
 have o12 := o12.wr q29 f30
 have fB := fB.wr q29 z7
 refine ol_nil ?_
 refine cw_ret ?_
 repeat (first | with_reducible refine thn_r ?_ | with_reducible refine blk_r ?_)
 obtain rfl := Option.some.inj h
 refine fin_cell Try.results112 rfl ag110 sz110 b5 (by rfl) ?_
 exact ⟨_, rfl, v10, o12, rfl, fB⟩
def rickyardlaw16_awake.f (fu : Nat) : Option Bool := ((pmem_New.f fu 2).bind fun t1 => (Option.elim t1.1 (some (false)) (fun m8 => ((rickyardlaw16_least.f fu 4).bind fun t19 => ((root_Lay.f fu m8 0 t19).bind fun t27 => ((rickyardlaw16_least.f fu 5).bind fun t40 => ((root_Lay.f fu t27.2 1 t40).bind fun t48 => ((root_Pick.f fu t48.2).bind fun t61 => some ((if (decide (t27.1 = 0)) = true then (if (decide (t48.1 = 0)) = true then (if t61.2.2 = true then (if (decide (t61.2.1 = 1)) = true then (decide (t61.1.Epoch = 5)) else false) else false) else false) else false))))))))))
theorem rickyardlaw16_awake.ok (fu : Nat) (w : World)  (r : Bool) (h : rickyardlaw16_awake.f fu = some r) :
  Calls Try.prog 69 (([] : List Value).toArray) w (fun e w' => ∃ v, e = .returned v ∧ v = .bool r ∧ Gr w w') := by
 unfold rickyardlaw16_awake.f at h
 have fB : Gr w w := Fr.refl _ _
 refine calls_cw Try.func69 rfl Try.ntmps69 rfl ?_
 refine cw_seq ?_
 refine cw_region ?_
 refine ol_val (v := .bool false) (xr_assign rfl rfl) rfl rfl rfl ?_
 refine ol_nil ?_
 refine cw_seq ?_
 refine cw_region ?_
 obtain ⟨t1, k2, h⟩ := bs h
 refine ol_op (opv_call rfl cal26 (ac rfl an) (pmem_New.ok fu _ 2 _ k2)) rfl rfl rfl ?_
 rintro _ w6 ⟨u3, p4, rfl, q5⟩
 rcases en h with ⟨e7, h⟩ | ⟨m8, e7, h⟩
 ·obtain rfl := p4.1 e7
  have fB := fB.gr q5
  refine ol_val (v := .tuple #[.pointer none, .int .i64 t1.2]) (xr_move rfl rfl) rfl rfl rfl ?_
  refine ol_val (v := .pointer none) (xr_extract rfl rfl rfl) rfl rfl rfl ?_
  refine ol_val (v := .int .i64 t1.2) (xr_extract rfl rfl rfl) rfl rfl rfl ?_
  refine ol_val (v := .pointer none) (xr_assign rfl rfl) rfl rfl rfl ?_
  refine ol_val (v := .int .i64 t1.2) (xr_assign rfl rfl) rfl rfl rfl ?_
  refine ol_nil ?_
  refine cw_seq ?_
  refine cw_seq ?_
  refine cw_region ?_
  refine ol_val (v := .pointer none) (xr_move rfl rfl) rfl rfl rfl ?_
  refine ol_val (v := .bool true) (xr_eqP (b := true) rfl Try.underlying30 rfl rfl (by simp) (by simp)) rfl rfl rfl ?_
  refine ol_nil ?_
  refine cw_condT rfl rfl ?_
  refine cw_seq ?_
  refine cw_region ?_
  refine ol_val (v := .bool false) (xr_assign rfl rfl) rfl rfl rfl ?_
  refine ol_nil ?_
  refine cw_ret ?_
  repeat (first | with_reducible refine thn_r ?_ | with_reducible refine blk_r ?_)
  obtain rfl := Option.some.inj h
  refine fin_ret1 Try.results69 rfl ?_
  exact ⟨_, rfl, rfl, fB⟩
 obtain ⟨G9, u13, u16, o14, o17, rfl, z10, b11⟩ := p4.2 _ e7
 have o14 := Own.base o14 fB.size
 have o17 := Own.base o17 fB.size
 have z10 := Nat.le_trans fB.size z10
 have fB := fB.gr q5
 refine ol_val (v := .tuple #[(pt G9 0), .int .i64 t1.2]) (xr_move rfl rfl) rfl rfl rfl ?_
 refine ol_val (v := (pt G9 0)) (xr_extract rfl rfl rfl) rfl rfl rfl ?_
 refine ol_val (v := .int .i64 t1.2) (xr_extract rfl rfl rfl) rfl rfl rfl ?_
 refine ol_val (v := (pt G9 0)) (xr_assign rfl rfl) rfl rfl rfl ?_
 refine ol_val (v := .int .i64 t1.2) (xr_assign rfl rfl) rfl rfl rfl ?_
 refine ol_nil ?_
 refine cw_seq ?_
 refine cw_seq ?_
 refine cw_region ?_
 refine ol_val (v := (pt G9 0)) (xr_move rfl rfl) rfl rfl rfl ?_
 refine ol_val (v := .bool false) (xr_eqP (b := false) rfl Try.underlying30 rfl rfl (by simp) (by simp)) rfl rfl rfl ?_
 refine ol_nil ?_
 refine cw_condF rfl rfl ?_
 refine cw_skip ?_
 refine cw_seq ?_
 refine cw_region ?_
 refine ol_val (v := (pt G9 0)) (xr_move rfl rfl) rfl rfl rfl ?_
 obtain ⟨t19, k20, h⟩ := bs h
 refine ol_op (opv_call rfl cal112 (ac rfl an) (rickyardlaw16_least.ok fu _ 4 _ k20)) rfl rfl rfl ?_
 rintro _ w25 ⟨u21, o22, rfl, q24⟩
 have a26 := OffV.call o17 o22
 have o22 := Own.base o22 fB.size
 have b11 := b11.gr q24
 have o14 := o14.gr q24
 have o17 := o17.gr q24
 have fB := fB.gr q24
 obtain ⟨t27, k28, h⟩ := bs h
 have c38 : ∀ k, (k = G9 ∨ some k = Value.ownBlock u13 ∨ some k = Value.ownBlock u16) → w.heap.size ≤ k := (cv_or (cv_eq z10) (cv_or (cv_own o14.geO) (cv_own o17.geO)))
 refine ol_op (opv_call rfl cal77 (ac rfl (ac rfl (ac rfl an))) (root_Lay.ok fu _ m8 G9 u13 (Own.base o14 (Nat.zero_le _)) u16 (Own.base o17 (Nat.zero_le _)) b11 0 t19 u21 (o22.rd) (OffR.own o22 (off_ty b11 o22 (by decide))) (OffRV.own o22 (OffV.ty o22 o14 (by decide))) (OffRV.own o22 a26.symm) _ k28)) rfl rfl rfl ?_
 rintro _ w39 ⟨u30, u34, o31, m32, o35, m36, rfl, b11, q29⟩
 have o31 := Own.rebase o31 (fun g hg => (m32 g hg).elim (fun x => Nat.le_trans fB.size x) (c38 g))
 have o35 := Own.rebase o35 (fun g hg => (m36 g hg).elim (fun x => Nat.le_trans fB.size x) (c38 g))
 have fB := fB.call q29 (fun k h => .inl (c38 k h))
 refine ol_val (v := (pt G9 0)) (xr_move rfl rfl) rfl rfl rfl ?_
 obtain ⟨t40, k41, h⟩ := bs h
 refine ol_op (opv_call rfl cal112 (ac rfl an) (rickyardlaw16_least.ok fu _ 5 _ k41)) rfl rfl rfl ?_
 rintro _ w46 ⟨u42, o43, rfl, q45⟩
 have a47 := OffV.call o35 o43
 have o43 := Own.base o43 fB.size
 have b11 := b11.gr q45
 have o31 := o31.gr q45
 have o35 := o35.gr q45
 have fB := fB.gr q45
 obtain ⟨t48, k49, h⟩ := bs h
 have c59 : ∀ k, (k = G9 ∨ some k = Value.ownBlock u30 ∨ some k = Value.ownBlock u34) → w.heap.size ≤ k := (cv_or (cv_eq z10) (cv_or (cv_own o31.geO) (cv_own o35.geO)))
 refine ol_op (opv_call rfl cal77 (ac rfl (ac rfl (ac rfl an))) (root_Lay.ok fu _ t27.2 G9 u30 (Own.base o31 (Nat.zero_le _)) u34 (Own.base o35 (Nat.zero_le _)) b11 1 t40 u42 (o43.rd) (OffR.own o43 (off_ty b11 o43 (by decide))) (OffRV.own o43 (OffV.ty o43 o31 (by decide))) (OffRV.own o43 a47.symm) _ k49)) rfl rfl rfl ?_
 rintro _ w60 ⟨u51, u55, o52, m53, o56, m57, rfl, b11, q50⟩
 have o52 := Own.rebase o52 (fun g hg => (m53 g hg).elim (fun x => Nat.le_trans fB.size x) (c59 g))
 have o56 := Own.rebase o56 (fun g hg => (m57 g hg).elim (fun x => Nat.le_trans fB.size x) (c59 g))
 have fB := fB.call q50 (fun k h => .inl (c59 k h))
 refine ol_val (v := .int .i64 t27.1) (xr_assign rfl rfl) rfl rfl rfl ?_
 refine ol_val (v := .int .i64 t48.1) (xr_assign rfl rfl) rfl rfl rfl ?_
 refine ol_nil ?_
 refine cw_seq ?_
 refine cw_region ?_
 refine ol_val (v := (pt G9 0)) (xr_move rfl rfl) rfl rfl rfl ?_
 obtain ⟨t61, k62, h⟩ := bs h
 refine ol_op (opv_call rfl cal72 (ac rfl an) (root_Pick.ok fu _ t48.2 G9 u51 (o52.rd) u55 (o56.rd) b11 _ k62)) rfl rfl rfl ?_
 rintro _ w67 ⟨u63, o64, rfl, q66⟩
 have o64 := Own.base o64 fB.size
 have fB := fB.gr q66
 refine ol_val (v := .tuple #[aggV [(sI t61.1.Epoch), (sI t61.1.Tickets.Geometry.Blocks), (sI t61.1.Tickets.Geometry.Slots), (sI t61.1.Tickets.Geometry.Gens), (sI t61.1.Tickets.Top), (sI t61.1.Tickets.High), (sI t61.1.Tickets.Free), (sI t61.1.Dir), Seg.cell u63 o64.one], .int .i64 t61.2.1, .bool t61.2.2]) (xr_move rfl rfl) rfl rfl rfl ?_
 refine ol_val (v := aggV [(sI t61.1.Epoch), (sI t61.1.Tickets.Geometry.Blocks), (sI t61.1.Tickets.Geometry.Slots), (sI t61.1.Tickets.Geometry.Gens), (sI t61.1.Tickets.Top), (sI t61.1.Tickets.High), (sI t61.1.Tickets.Free), (sI t61.1.Dir), Seg.cell u63 o64.one]) (xr_extract rfl rfl rfl) rfl rfl rfl ?_
 refine ol_val (v := .int .i64 t61.2.1) (xr_extract rfl rfl rfl) rfl rfl rfl ?_
 refine ol_val (v := .bool t61.2.2) (xr_extract rfl rfl rfl) rfl rfl rfl ?_
 refine ol_op (opv_alloc (ss := [(sI (0 : Int)), (sI (0 : Int)), (sI (0 : Int)), (sI (0 : Int)), (sI (0 : Int)), (sI (0 : Int)), (sI (0 : Int)), (sI (0 : Int)), Seg.cell (.slice none 0 0) (by rfl)]) rfl ze110 rfl) rfl rfl rfl ?_
 rintro _ w73 ⟨G68, rfl, b69, q70, z71⟩
 have z71 := Nat.le_trans fB.size z71
 have o64 := o64.gr q70
 have fB := fB.gr q70
 have f75 := off_ty b69 o64 (by decide)
 refine ol_op0 (opv_store (ss' := [(sI t61.1.Epoch), (sI t61.1.Tickets.Geometry.Blocks), (sI t61.1.Tickets.Geometry.Slots), (sI t61.1.Tickets.Geometry.Gens), (sI t61.1.Tickets.Top), (sI t61.1.Tickets.High), (sI t61.1.Tickets.Free), (sI t61.1.Dir), Seg.cell u63 o64.one]) (xs := cellsOf [(sI t61.1.Epoch), (sI t61.1.Tickets.Geometry.Blocks), (sI t61.1.Tickets.Geometry.Slots), (sI t61.1.Tickets.Geometry.Gens), (sI t61.1.Tickets.Top), (sI t61.1.Tickets.High), (sI t61.1.Tickets.Free), (sI t61.1.Dir), Seg.cell u63 o64.one]) rfl sz110 rfl rfl rfl (len_cellsOf _) (one_cellsOf _) b69 (Spl.segs _ 0 9 [(sI t61.1.Epoch), (sI t61.1.Tickets.Geometry.Blocks), (sI t61.1.Tickets.Geometry.Slots), (sI t61.1.Tickets.Geometry.Gens), (sI t61.1.Tickets.Top), (sI t61.1.Tickets.High), (sI t61.1.Tickets.Free), (sI t61.1.Dir), Seg.cell u63 o64.one] rfl rfl)) rfl rfl ?_
 rintro _ w76 ⟨b69, q74⟩
 have o64 := o64.wr q74 f75
 have fB := fB.wr q74 z71
 refine ol_val (v := .int .i64 t61.2.1) (xr_assign rfl rfl) rfl rfl rfl ?_
 refine ol_val (v := .bool t61.2.2) (xr_assign rfl rfl) rfl rfl rfl ?_
 refine ol_nil ?_
 refine cw_seq ?_
 refine cw_mid (fun ρ' w' => ρ' 0 = .bool (if (decide (t27.1 = 0)) = true then (if (decide (t48.1 = 0)) = true then (if t61.2.2 = true then (if (decide (t61.2.1 = 1)) = true then (decide (t61.1.Epoch = 5)) else false) else false) else false) else false) ∧ w76 = w') ?_ ?_
 ·skip
  refine cw_region ?_
  refine ol_val (v := .int .i64 t27.1) (xr_move rfl rfl) rfl rfl rfl ?_
  refine ol_val (v := .bool (decide (t27.1 = 0))) (xr_eqI rfl Try.underlying31 rfl rfl rfl) rfl rfl rfl ?_
  refine ol_val (v := .bool (decide (t27.1 = 0))) (xr_move rfl rfl) rfl rfl rfl ?_
  rcases bt (decide (t27.1 = 0)) with c77 | c77
  ·skip
   refine ol_gval (v := .int .i64 t48.1) (xr_move rfl rfl) rfl rfl rfl rfl rfl c77 ?_
   refine ol_gval (v := .bool (decide (t48.1 = 0))) (xr_eqI rfl Try.underlying31 rfl rfl rfl) rfl rfl rfl rfl rfl c77 ?_
   refine ol_val (v := .bool (decide (t48.1 = 0))) (xr_pickT rfl rfl c77 rfl) rfl rfl rfl ?_
   refine ol_val (v := .bool (decide (t48.1 = 0))) (xr_move rfl rfl) rfl rfl rfl ?_
   rcases bt (decide (t48.1 = 0)) with c78 | c78
   ·skip
    refine ol_gval (v := .bool t61.2.2) (xr_move rfl rfl) rfl rfl rfl rfl rfl c78 ?_
    refine ol_val (v := .bool t61.2.2) (xr_pickT rfl rfl c78 rfl) rfl rfl rfl ?_
    refine ol_val (v := .bool t61.2.2) (xr_move rfl rfl) rfl rfl rfl ?_
    rcases bt t61.2.2 with c79 | c79
    ·skip
     refine ol_gval (v := .int .i64 t61.2.1) (xr_move rfl rfl) rfl rfl rfl rfl rfl c79 ?_
     refine ol_gval (v := .bool (decide (t61.2.1 = 1))) (xr_eqI rfl Try.underlying3 rfl rfl rfl) rfl rfl rfl rfl rfl c79 ?_
     refine ol_val (v := .bool (decide (t61.2.1 = 1))) (xr_pickT rfl rfl c79 rfl) rfl rfl rfl ?_
     refine ol_val (v := .bool (decide (t61.2.1 = 1))) (xr_move rfl rfl) rfl rfl rfl ?_
     rcases bt (decide (t61.2.1 = 1)) with c80 | c80
     ·skip
      refine ol_gval (v := (pt G68 0)) (xr_fieldAddr (p := 0) (q := 0) rfl fl110_0 rfl) rfl rfl rfl rfl rfl c80 ?_
      refine ol_gval (v := .int .i64 t61.1.Epoch) (xr_load1 (v := .int .i64 t61.1.Epoch) rfl ag3 rfl (b69.seg 0 rfl rfl)) rfl rfl rfl rfl rfl c80 ?_
      refine ol_gval (v := .bool (decide (t61.1.Epoch = 5))) (xr_eqI rfl Try.underlying3 rfl rfl rfl) rfl rfl rfl rfl rfl c80 ?_
      refine ol_val (v := .bool (decide (t61.1.Epoch = 5))) (xr_pickT rfl rfl c80 rfl) rfl rfl rfl ?_
      refine ol_val (v := .bool (decide (t61.1.Epoch = 5))) (xr_assign rfl rfl) rfl rfl rfl ?_
      refine ol_nil ?_
      refine thn_i ?_
      exact ⟨(rfl).trans (congrArg (fun z => (.bool z : Value)) (show (decide (t61.1.Epoch = 5)) = (if (decide (t27.1 = 0)) = true then (if (decide (t48.1 = 0)) = true then (if t61.2.2 = true then (if (decide (t61.2.1 = 1)) = true then (decide (t61.1.Epoch = 5)) else false) else false) else false) else false) from by rw [ite_t c77, ite_t c78, ite_t c79, ite_t c80])), rfl⟩
     refine ol_gskip rfl rfl rfl rfl rfl c80 ?_
     refine ol_gskip rfl rfl rfl rfl rfl c80 ?_
     refine ol_gskip rfl rfl rfl rfl rfl c80 ?_
     refine ol_val (v := .bool false) (xr_pickF rfl rfl c80 rfl) rfl rfl rfl ?_
     refine ol_val (v := .bool false) (xr_assign rfl rfl) rfl rfl rfl ?_
     refine ol_nil ?_
     refine thn_i ?_
     exact ⟨(rfl).trans (congrArg (fun z => (.bool z : Value)) (show false = (if (decide (t27.1 = 0)) = true then (if (decide (t48.1 = 0)) = true then (if t61.2.2 = true then (if (decide (t61.2.1 = 1)) = true then (decide (t61.1.Epoch = 5)) else false) else false) else false) else false) from by rw [ite_t c77, ite_t c78, ite_t c79, ite_f c80])), rfl⟩
    refine ol_gskip rfl rfl rfl rfl rfl c79 ?_
    refine ol_gskip rfl rfl rfl rfl rfl c79 ?_
    refine ol_val (v := .bool false) (xr_pickF rfl rfl c79 rfl) rfl rfl rfl ?_
    refine ol_val (v := .bool false) (xr_move rfl rfl) rfl rfl rfl ?_
    refine ol_gskip rfl rfl rfl rfl rfl rfl ?_
    refine ol_gskip rfl rfl rfl rfl rfl rfl ?_
    refine ol_gskip rfl rfl rfl rfl rfl rfl ?_
    refine ol_val (v := .bool false) (xr_pickF rfl rfl rfl rfl) rfl rfl rfl ?_
    refine ol_val (v := .bool false) (xr_assign rfl rfl) rfl rfl rfl ?_
    refine ol_nil ?_
    refine thn_i ?_
    exact ⟨(rfl).trans (congrArg (fun z => (.bool z : Value)) (show false = (if (decide (t27.1 = 0)) = true then (if (decide (t48.1 = 0)) = true then (if t61.2.2 = true then (if (decide (t61.2.1 = 1)) = true then (decide (t61.1.Epoch = 5)) else false) else false) else false) else false) from by rw [ite_t c77, ite_t c78, ite_f c79])), rfl⟩
   refine ol_gskip rfl rfl rfl rfl rfl c78 ?_
   refine ol_val (v := .bool false) (xr_pickF rfl rfl c78 rfl) rfl rfl rfl ?_
   refine ol_val (v := .bool false) (xr_move rfl rfl) rfl rfl rfl ?_
   refine ol_gskip rfl rfl rfl rfl rfl rfl ?_
   refine ol_gskip rfl rfl rfl rfl rfl rfl ?_
   refine ol_val (v := .bool false) (xr_pickF rfl rfl rfl rfl) rfl rfl rfl ?_
   refine ol_val (v := .bool false) (xr_move rfl rfl) rfl rfl rfl ?_
   refine ol_gskip rfl rfl rfl rfl rfl rfl ?_
   refine ol_gskip rfl rfl rfl rfl rfl rfl ?_
   refine ol_gskip rfl rfl rfl rfl rfl rfl ?_
   refine ol_val (v := .bool false) (xr_pickF rfl rfl rfl rfl) rfl rfl rfl ?_
   refine ol_val (v := .bool false) (xr_assign rfl rfl) rfl rfl rfl ?_
   refine ol_nil ?_
   refine thn_i ?_
   exact ⟨(rfl).trans (congrArg (fun z => (.bool z : Value)) (show false = (if (decide (t27.1 = 0)) = true then (if (decide (t48.1 = 0)) = true then (if t61.2.2 = true then (if (decide (t61.2.1 = 1)) = true then (decide (t61.1.Epoch = 5)) else false) else false) else false) else false) from by rw [ite_t c77, ite_f c78])), rfl⟩
  refine ol_gskip rfl rfl rfl rfl rfl c77 ?_
  refine ol_gskip rfl rfl rfl rfl rfl c77 ?_
  refine ol_val (v := .bool false) (xr_pickF rfl rfl c77 rfl) rfl rfl rfl ?_
  refine ol_val (v := .bool false) (xr_move rfl rfl) rfl rfl rfl ?_
  refine ol_gskip rfl rfl rfl rfl rfl rfl ?_
  refine ol_val (v := .bool false) (xr_pickF rfl rfl rfl rfl) rfl rfl rfl ?_
  refine ol_val (v := .bool false) (xr_move rfl rfl) rfl rfl rfl ?_
  refine ol_gskip rfl rfl rfl rfl rfl rfl ?_
  refine ol_gskip rfl rfl rfl rfl rfl rfl ?_
  refine ol_val (v := .bool false) (xr_pickF rfl rfl rfl rfl) rfl rfl rfl ?_
  refine ol_val (v := .bool false) (xr_move rfl rfl) rfl rfl rfl ?_
  refine ol_gskip rfl rfl rfl rfl rfl rfl ?_
  refine ol_gskip rfl rfl rfl rfl rfl rfl ?_
  refine ol_gskip rfl rfl rfl rfl rfl rfl ?_
  refine ol_val (v := .bool false) (xr_pickF rfl rfl rfl rfl) rfl rfl rfl ?_
  refine ol_val (v := .bool false) (xr_assign rfl rfl) rfl rfl rfl ?_
  refine ol_nil ?_
  refine thn_i ?_
  exact ⟨(rfl).trans (congrArg (fun z => (.bool z : Value)) (show false = (if (decide (t27.1 = 0)) = true then (if (decide (t48.1 = 0)) = true then (if t61.2.2 = true then (if (decide (t61.2.1 = 1)) = true then (decide (t61.1.Epoch = 5)) else false) else false) else false) else false) from by rw [ite_f c77])), rfl⟩
 rintro ρ81 _ ⟨e0, rfl⟩
 refine cw_ret ?_
 repeat (first | with_reducible refine thn_r ?_ | with_reducible refine blk_r ?_)
 obtain rfl := Option.some.inj h
 refine fin_ret1 Try.results69 e0 ?_
 exact ⟨_, rfl, rfl, fB⟩
def rickyardref12_Right.f (fu : Nat) (a0 : S_api_Geometry) : Option Bool := some ((if (decide (a0.Blocks ≥ 16)) = true then (if (decide (a0.Blocks ≤ 3072)) = true then (if (decide (a0.Slots ≥ 1)) = true then (if (decide (a0.Slots ≤ 1792)) = true then (if (decide (a0.Gens ≥ 1)) = true then (decide (a0.Gens ≤ 4294967295)) else false) else false) else false) else false) else false))
theorem rickyardref12_Right.ok (fu : Nat) (w : World) (a0 : S_api_Geometry) (r : Bool) (h : rickyardref12_Right.f fu a0 = some r) :
  Calls Try.prog 115 (([aggV [(sI a0.Blocks), (sI a0.Slots), (sI a0.Gens)]] : List Value).toArray) w (fun e w' => ∃ v, e = .returned v ∧ v = .bool r ∧ Gr w w') := by
 unfold rickyardref12_Right.f at h
 have fB : Gr w w := Fr.refl _ _
 refine calls_cw Try.func115 rfl Try.ntmps115 rfl ?_
 refine cw_seq ?_
 refine cw_region ?_
 refine ol_op (opv_box (ss := [(sI a0.Blocks), (sI a0.Slots), (sI a0.Gens)]) rfl rfl rfl) rfl rfl rfl ?_
 rintro _ w6 ⟨G1, rfl, b2, q3, z4⟩
 have z4 := Nat.le_trans fB.size z4
 have fB := fB.gr q3
 refine ol_val (v := .bool false) (xr_assign rfl rfl) rfl rfl rfl ?_
 refine ol_nil ?_
 refine cw_seq ?_
 refine cw_mid (fun ρ' w' => ρ' 2 = .bool (if (decide (a0.Blocks ≥ 16)) = true then (if (decide (a0.Blocks ≤ 3072)) = true then (if (decide (a0.Slots ≥ 1)) = true then (if (decide (a0.Slots ≤ 1792)) = true then (if (decide (a0.Gens ≥ 1)) = true then (decide (a0.Gens ≤ 4294967295)) else false) else false) else false) else false) else false) ∧ w6 = w') ?_ ?_
 ·skip
  refine cw_region ?_
  refine ol_val (v := (pt G1 0)) (xr_fieldAddr (p := 0) (q := 0) rfl fl106_0 rfl) rfl rfl rfl ?_
  refine ol_val (v := .int .i64 a0.Blocks) (xr_load1 (v := .int .i64 a0.Blocks) rfl ag3 rfl (b2.seg 0 rfl rfl)) rfl rfl rfl ?_
  refine ol_val (v := .bool (decide (a0.Blocks ≥ 16))) (xr_geq rfl rfl rfl) rfl rfl rfl ?_
  refine ol_val (v := .bool (decide (a0.Blocks ≥ 16))) (xr_move rfl rfl) rfl rfl rfl ?_
  rcases bt (decide (a0.Blocks ≥ 16)) with c7 | c7
  ·skip
   refine ol_gval (v := (pt G1 0)) (xr_fieldAddr (p := 0) (q := 0) rfl fl106_0 rfl) rfl rfl rfl rfl rfl c7 ?_
   refine ol_gval (v := .int .i64 a0.Blocks) (xr_load1 (v := .int .i64 a0.Blocks) rfl ag3 rfl (b2.seg 0 rfl rfl)) rfl rfl rfl rfl rfl c7 ?_
   refine ol_gval (v := .bool (decide (a0.Blocks ≤ 3072))) (xr_leq rfl rfl rfl) rfl rfl rfl rfl rfl c7 ?_
   refine ol_val (v := .bool (decide (a0.Blocks ≤ 3072))) (xr_pickT rfl rfl c7 rfl) rfl rfl rfl ?_
   refine ol_val (v := .bool (decide (a0.Blocks ≤ 3072))) (xr_move rfl rfl) rfl rfl rfl ?_
   rcases bt (decide (a0.Blocks ≤ 3072)) with c8 | c8
   ·skip
    refine ol_gval (v := (pt G1 1)) (xr_fieldAddr (p := 0) (q := 1) rfl fl106_1 rfl) rfl rfl rfl rfl rfl c8 ?_
    refine ol_gval (v := .int .i64 a0.Slots) (xr_load1 (v := .int .i64 a0.Slots) rfl ag3 rfl (b2.seg 1 rfl rfl)) rfl rfl rfl rfl rfl c8 ?_
    refine ol_gval (v := .bool (decide (a0.Slots ≥ 1))) (xr_geq rfl rfl rfl) rfl rfl rfl rfl rfl c8 ?_
    refine ol_val (v := .bool (decide (a0.Slots ≥ 1))) (xr_pickT rfl rfl c8 rfl) rfl rfl rfl ?_
    refine ol_val (v := .bool (decide (a0.Slots ≥ 1))) (xr_move rfl rfl) rfl rfl rfl ?_
    rcases bt (decide (a0.Slots ≥ 1)) with c9 | c9
    ·skip
     refine ol_gval (v := (pt G1 1)) (xr_fieldAddr (p := 0) (q := 1) rfl fl106_1 rfl) rfl rfl rfl rfl rfl c9 ?_
     refine ol_gval (v := .int .i64 a0.Slots) (xr_load1 (v := .int .i64 a0.Slots) rfl ag3 rfl (b2.seg 1 rfl rfl)) rfl rfl rfl rfl rfl c9 ?_
     refine ol_gval (v := .bool (decide (a0.Slots ≤ 1792))) (xr_leq rfl rfl rfl) rfl rfl rfl rfl rfl c9 ?_
     refine ol_val (v := .bool (decide (a0.Slots ≤ 1792))) (xr_pickT rfl rfl c9 rfl) rfl rfl rfl ?_
     refine ol_val (v := .bool (decide (a0.Slots ≤ 1792))) (xr_move rfl rfl) rfl rfl rfl ?_
     rcases bt (decide (a0.Slots ≤ 1792)) with c10 | c10
     ·skip
      refine ol_gval (v := (pt G1 2)) (xr_fieldAddr (p := 0) (q := 2) rfl fl106_2 rfl) rfl rfl rfl rfl rfl c10 ?_
      refine ol_gval (v := .int .i64 a0.Gens) (xr_load1 (v := .int .i64 a0.Gens) rfl ag3 rfl (b2.seg 2 rfl rfl)) rfl rfl rfl rfl rfl c10 ?_
      refine ol_gval (v := .bool (decide (a0.Gens ≥ 1))) (xr_geq rfl rfl rfl) rfl rfl rfl rfl rfl c10 ?_
      refine ol_val (v := .bool (decide (a0.Gens ≥ 1))) (xr_pickT rfl rfl c10 rfl) rfl rfl rfl ?_
      refine ol_val (v := .bool (decide (a0.Gens ≥ 1))) (xr_move rfl rfl) rfl rfl rfl ?_
      rcases bt (decide (a0.Gens ≥ 1)) with c11 | c11
      ·skip
       refine ol_gval (v := (pt G1 2)) (xr_fieldAddr (p := 0) (q := 2) rfl fl106_2 rfl) rfl rfl rfl rfl rfl c11 ?_
       refine ol_gval (v := .int .i64 a0.Gens) (xr_load1 (v := .int .i64 a0.Gens) rfl ag3 rfl (b2.seg 2 rfl rfl)) rfl rfl rfl rfl rfl c11 ?_
       refine ol_gval (v := .bool (decide (a0.Gens ≤ 4294967295))) (xr_leq rfl rfl rfl) rfl rfl rfl rfl rfl c11 ?_
       refine ol_val (v := .bool (decide (a0.Gens ≤ 4294967295))) (xr_pickT rfl rfl c11 rfl) rfl rfl rfl ?_
       refine ol_val (v := .bool (decide (a0.Gens ≤ 4294967295))) (xr_assign rfl rfl) rfl rfl rfl ?_
       refine ol_nil ?_
       refine thn_i ?_
       exact ⟨(rfl).trans (congrArg (fun z => (.bool z : Value)) (show (decide (a0.Gens ≤ 4294967295)) = (if (decide (a0.Blocks ≥ 16)) = true then (if (decide (a0.Blocks ≤ 3072)) = true then (if (decide (a0.Slots ≥ 1)) = true then (if (decide (a0.Slots ≤ 1792)) = true then (if (decide (a0.Gens ≥ 1)) = true then (decide (a0.Gens ≤ 4294967295)) else false) else false) else false) else false) else false) from by rw [ite_t c7, ite_t c8, ite_t c9, ite_t c10, ite_t c11])), rfl⟩
      refine ol_gskip rfl rfl rfl rfl rfl c11 ?_
      refine ol_gskip rfl rfl rfl rfl rfl c11 ?_
      refine ol_gskip rfl rfl rfl rfl rfl c11 ?_
      refine ol_val (v := .bool false) (xr_pickF rfl rfl c11 rfl) rfl rfl rfl ?_
      refine ol_val (v := .bool false) (xr_assign rfl rfl) rfl rfl rfl ?_
      refine ol_nil ?_
      refine thn_i ?_
      exact ⟨(rfl).trans (congrArg (fun z => (.bool z : Value)) (show false = (if (decide (a0.Blocks ≥ 16)) = true then (if (decide (a0.Blocks ≤ 3072)) = true then (if (decide (a0.Slots ≥ 1)) = true then (if (decide (a0.Slots ≤ 1792)) = true then (if (decide (a0.Gens ≥ 1)) = true then (decide (a0.Gens ≤ 4294967295)) else false) else false) else false) else false) else false) from by rw [ite_t c7, ite_t c8, ite_t c9, ite_t c10, ite_f c11])), rfl⟩
     refine ol_gskip rfl rfl rfl rfl rfl c10 ?_
     refine ol_gskip rfl rfl rfl rfl rfl c10 ?_
     refine ol_gskip rfl rfl rfl rfl rfl c10 ?_
     refine ol_val (v := .bool false) (xr_pickF rfl rfl c10 rfl) rfl rfl rfl ?_
     refine ol_val (v := .bool false) (xr_move rfl rfl) rfl rfl rfl ?_
     refine ol_gskip rfl rfl rfl rfl rfl rfl ?_
     refine ol_gskip rfl rfl rfl rfl rfl rfl ?_
     refine ol_gskip rfl rfl rfl rfl rfl rfl ?_
     refine ol_val (v := .bool false) (xr_pickF rfl rfl rfl rfl) rfl rfl rfl ?_
     refine ol_val (v := .bool false) (xr_assign rfl rfl) rfl rfl rfl ?_
     refine ol_nil ?_
     refine thn_i ?_
     exact ⟨(rfl).trans (congrArg (fun z => (.bool z : Value)) (show false = (if (decide (a0.Blocks ≥ 16)) = true then (if (decide (a0.Blocks ≤ 3072)) = true then (if (decide (a0.Slots ≥ 1)) = true then (if (decide (a0.Slots ≤ 1792)) = true then (if (decide (a0.Gens ≥ 1)) = true then (decide (a0.Gens ≤ 4294967295)) else false) else false) else false) else false) else false) from by rw [ite_t c7, ite_t c8, ite_t c9, ite_f c10])), rfl⟩
    refine ol_gskip rfl rfl rfl rfl rfl c9 ?_
    refine ol_gskip rfl rfl rfl rfl rfl c9 ?_
    refine ol_gskip rfl rfl rfl rfl rfl c9 ?_
    refine ol_val (v := .bool false) (xr_pickF rfl rfl c9 rfl) rfl rfl rfl ?_
    refine ol_val (v := .bool false) (xr_move rfl rfl) rfl rfl rfl ?_
    refine ol_gskip rfl rfl rfl rfl rfl rfl ?_
    refine ol_gskip rfl rfl rfl rfl rfl rfl ?_
    refine ol_gskip rfl rfl rfl rfl rfl rfl ?_
    refine ol_val (v := .bool false) (xr_pickF rfl rfl rfl rfl) rfl rfl rfl ?_
    refine ol_val (v := .bool false) (xr_move rfl rfl) rfl rfl rfl ?_
    refine ol_gskip rfl rfl rfl rfl rfl rfl ?_
    refine ol_gskip rfl rfl rfl rfl rfl rfl ?_
    refine ol_gskip rfl rfl rfl rfl rfl rfl ?_
    refine ol_val (v := .bool false) (xr_pickF rfl rfl rfl rfl) rfl rfl rfl ?_
    refine ol_val (v := .bool false) (xr_assign rfl rfl) rfl rfl rfl ?_
    refine ol_nil ?_
    refine thn_i ?_
    exact ⟨(rfl).trans (congrArg (fun z => (.bool z : Value)) (show false = (if (decide (a0.Blocks ≥ 16)) = true then (if (decide (a0.Blocks ≤ 3072)) = true then (if (decide (a0.Slots ≥ 1)) = true then (if (decide (a0.Slots ≤ 1792)) = true then (if (decide (a0.Gens ≥ 1)) = true then (decide (a0.Gens ≤ 4294967295)) else false) else false) else false) else false) else false) from by rw [ite_t c7, ite_t c8, ite_f c9])), rfl⟩
   refine ol_gskip rfl rfl rfl rfl rfl c8 ?_
   refine ol_gskip rfl rfl rfl rfl rfl c8 ?_
   refine ol_gskip rfl rfl rfl rfl rfl c8 ?_
   refine ol_val (v := .bool false) (xr_pickF rfl rfl c8 rfl) rfl rfl rfl ?_
   refine ol_val (v := .bool false) (xr_move rfl rfl) rfl rfl rfl ?_
   refine ol_gskip rfl rfl rfl rfl rfl rfl ?_
   refine ol_gskip rfl rfl rfl rfl rfl rfl ?_
   refine ol_gskip rfl rfl rfl rfl rfl rfl ?_
   refine ol_val (v := .bool false) (xr_pickF rfl rfl rfl rfl) rfl rfl rfl ?_
   refine ol_val (v := .bool false) (xr_move rfl rfl) rfl rfl rfl ?_
   refine ol_gskip rfl rfl rfl rfl rfl rfl ?_
   refine ol_gskip rfl rfl rfl rfl rfl rfl ?_
   refine ol_gskip rfl rfl rfl rfl rfl rfl ?_
   refine ol_val (v := .bool false) (xr_pickF rfl rfl rfl rfl) rfl rfl rfl ?_
   refine ol_val (v := .bool false) (xr_move rfl rfl) rfl rfl rfl ?_
   refine ol_gskip rfl rfl rfl rfl rfl rfl ?_
   refine ol_gskip rfl rfl rfl rfl rfl rfl ?_
   refine ol_gskip rfl rfl rfl rfl rfl rfl ?_
   refine ol_val (v := .bool false) (xr_pickF rfl rfl rfl rfl) rfl rfl rfl ?_
   refine ol_val (v := .bool false) (xr_assign rfl rfl) rfl rfl rfl ?_
   refine ol_nil ?_
   refine thn_i ?_
   exact ⟨(rfl).trans (congrArg (fun z => (.bool z : Value)) (show false = (if (decide (a0.Blocks ≥ 16)) = true then (if (decide (a0.Blocks ≤ 3072)) = true then (if (decide (a0.Slots ≥ 1)) = true then (if (decide (a0.Slots ≤ 1792)) = true then (if (decide (a0.Gens ≥ 1)) = true then (decide (a0.Gens ≤ 4294967295)) else false) else false) else false) else false) else false) from by rw [ite_t c7, ite_f c8])), rfl⟩
  refine ol_gskip rfl rfl rfl rfl rfl c7 ?_
  refine ol_gskip rfl rfl rfl rfl rfl c7 ?_
  refine ol_gskip rfl rfl rfl rfl rfl c7 ?_
  refine ol_val (v := .bool false) (xr_pickF rfl rfl c7 rfl) rfl rfl rfl ?_
  refine ol_val (v := .bool false) (xr_move rfl rfl) rfl rfl rfl ?_
  refine ol_gskip rfl rfl rfl rfl rfl rfl ?_
  refine ol_gskip rfl rfl rfl rfl rfl rfl ?_
  refine ol_gskip rfl rfl rfl rfl rfl rfl ?_
  refine ol_val (v := .bool false) (xr_pickF rfl rfl rfl rfl) rfl rfl rfl ?_
  refine ol_val (v := .bool false) (xr_move rfl rfl) rfl rfl rfl ?_
  refine ol_gskip rfl rfl rfl rfl rfl rfl ?_
  refine ol_gskip rfl rfl rfl rfl rfl rfl ?_
  refine ol_gskip rfl rfl rfl rfl rfl rfl ?_
  refine ol_val (v := .bool false) (xr_pickF rfl rfl rfl rfl) rfl rfl rfl ?_
  refine ol_val (v := .bool false) (xr_move rfl rfl) rfl rfl rfl ?_
  refine ol_gskip rfl rfl rfl rfl rfl rfl ?_
  refine ol_gskip rfl rfl rfl rfl rfl rfl ?_
  refine ol_gskip rfl rfl rfl rfl rfl rfl ?_
  refine ol_val (v := .bool false) (xr_pickF rfl rfl rfl rfl) rfl rfl rfl ?_
  refine ol_val (v := .bool false) (xr_move rfl rfl) rfl rfl rfl ?_
  refine ol_gskip rfl rfl rfl rfl rfl rfl ?_
  refine ol_gskip rfl rfl rfl rfl rfl rfl ?_
  refine ol_gskip rfl rfl rfl rfl rfl rfl ?_
  refine ol_val (v := .bool false) (xr_pickF rfl rfl rfl rfl) rfl rfl rfl ?_
  refine ol_val (v := .bool false) (xr_assign rfl rfl) rfl rfl rfl ?_
  refine ol_nil ?_
  refine thn_i ?_
  exact ⟨(rfl).trans (congrArg (fun z => (.bool z : Value)) (show false = (if (decide (a0.Blocks ≥ 16)) = true then (if (decide (a0.Blocks ≤ 3072)) = true then (if (decide (a0.Slots ≥ 1)) = true then (if (decide (a0.Slots ≤ 1792)) = true then (if (decide (a0.Gens ≥ 1)) = true then (decide (a0.Gens ≤ 4294967295)) else false) else false) else false) else false) else false) from by rw [ite_f c7])), rfl⟩
 rintro ρ12 _ ⟨e2, rfl⟩
 refine cw_ret ?_
 repeat (first | with_reducible refine thn_r ?_ | with_reducible refine blk_r ?_)
 obtain rfl := Option.some.inj h
 refine fin_ret1 Try.results115 e2 ?_
 exact ⟨_, rfl, rfl, fB⟩
def rickyardref12_Need.s0 (fu : Nat) (a0 : Int) (a1 : Int) : Int → Option (Sum Int Int) := fun s1 => (if (decide ((IntKind.i64.wrap (s1 * a1)) < a0)) = true then some (Sum.inr ((IntKind.i64.wrap (s1 + 1)))) else some (Sum.inl (s1)))
def rickyardref12_Need.f (fu : Nat) (a0 : Int) (a1 : Int) : Option Int := ((loopM (rickyardref12_Need.s0 fu a0 a1) fu (0)).bind fun e2 => some (e2))
theorem rickyardref12_Need.ok (fu : Nat) (w : World) (a0 : Int) (a1 : Int) (r : Int) (h : rickyardref12_Need.f fu a0 a1 = some r) :
  Calls Try.prog 136 (([.int .i64 a0, .int .i64 a1] : List Value).toArray) w (fun e w' => ∃ v, e = .returned v ∧ v = .int .i64 r ∧ Gr w w') := by
 unfold rickyardref12_Need.f at h
 have fB : Gr w w := Fr.refl _ _
 refine calls_cw Try.func136 rfl Try.ntmps136 rfl ?_
 refine cw_seq ?_
 refine cw_region ?_
 refine ol_val (v := .int .i64 0) (xr_assign rfl rfl) rfl rfl rfl ?_
 refine ol_nil ?_
 refine cw_seq ?_
 refine cw_region ?_
 refine ol_val (v := .int .i64 0) (xr_assign rfl rfl) rfl rfl rfl ?_
 refine ol_nil ?_
 refine cw_seq ?_
 obtain ⟨e2, l3, h4⟩ := bs h
 refine cw_mid (fun ρ' w' => ρ' 5 = .int .i64 e2 ∧ Gr w w') ?_ ?_
 ·refine cw_block ?_
  refine cw_round (fun (s1 : Int) ρ' w' => ρ' 0 = .int .i64 a0 ∧ ρ' 1 = .int .i64 a1 ∧ ρ' 5 = .int .i64 s1 ∧ Gr w w') l3 ?_ ?_
  ·skip
   exact ⟨rfl, rfl, rfl, fB⟩
  rintro s1 x7 ρ5 w6 ⟨e0, e1, e5, fB⟩ h
  unfold rickyardref12_Need.s0 at h
  refine cw_seq ?_
  refine cw_seq ?_
  refine cw_region ?_
  refine ol_val (v := .int .i64 s1) (xr_move rfl e5) rfl rfl rfl ?_
  refine ol_val (v := .int .i64 a1) (xr_move rfl e1) rfl rfl rfl ?_
  refine ol_val (v := .int .i64 (IntKind.i64.wrap (s1 * a1))) (xr_mul rfl rfl rfl) rfl rfl rfl ?_
  refine ol_val (v := .int .i64 a0) (xr_move rfl e0) rfl rfl rfl ?_
  refine ol_val (v := .bool (decide ((IntKind.i64.wrap (s1 * a1)) < a0))) (xr_lss rfl rfl rfl) rfl rfl rfl ?_
  refine ol_nil ?_
  rcases is h with ⟨c8, h⟩ | ⟨c8, h⟩
  ·refine cw_condT rfl c8 ?_
   refine cw_skip ?_
   refine cw_block ?_
   refine cw_region ?_
   refine ol_val (v := .int .i64 s1) (xr_move rfl e5) rfl rfl rfl ?_
   refine ol_val (v := .int .i64 (IntKind.i64.wrap (s1 + 1))) (xr_add rfl rfl rfl) rfl rfl rfl ?_
   refine ol_val (v := .int .i64 (IntKind.i64.wrap (s1 + 1))) (xr_assign rfl rfl) rfl rfl rfl ?_
   refine ol_nil ?_
   refine blk_i ?_
   obtain rfl := Option.some.inj h
   refine lp_in ?_
   exact ⟨e0, e1, rfl, fB⟩
  refine cw_condF rfl c8 ?_
  refine cw_exit ?_
  repeat (first | with_reducible refine thn_e ?_ | with_reducible refine blk_e rfl ?_)
  obtain rfl := Option.some.inj h
  refine lp_exit ?_
  rintro rfl
  refine thn_x ?_
  exact ⟨e5, fB⟩
 rintro ρ9 w10 ⟨e5, fB⟩
 have h := h4
 refine cw_seq ?_
 refine cw_region ?_
 refine ol_val (v := .int .i64 e2) (xr_move rfl e5) rfl rfl rfl ?_
 refine ol_val (v := .int .i64 e2) (xr_assign rfl rfl) rfl rfl rfl ?_
 refine ol_nil ?_
 refine cw_ret ?_
 repeat (first | with_reducible refine thn_r ?_ | with_reducible refine blk_r ?_)
 obtain rfl := Option.some.inj h
 refine fin_ret1 Try.results136 rfl ?_
 exact ⟨_, rfl, rfl, fB⟩
def rickyardref12_Charts.f (fu : Nat) (a0 : S_api_Geometry) : Option Int := ((rickyardref12_Need.f fu a0.Blocks 384).bind fun t7 => some (t7))
theorem rickyardref12_Charts.ok (fu : Nat) (w : World) (a0 : S_api_Geometry) (r : Int) (h : rickyardref12_Charts.f fu a0 = some r) :
  Calls Try.prog 116 (([aggV [(sI a0.Blocks), (sI a0.Slots), (sI a0.Gens)]] : List Value).toArray) w (fun e w' => ∃ v, e = .returned v ∧ v = .int .i64 r ∧ Gr w w') := by
 unfold rickyardref12_Charts.f at h
 have fB : Gr w w := Fr.refl _ _
 refine calls_cw Try.func116 rfl Try.ntmps116 rfl ?_
 refine cw_seq ?_
 refine cw_region ?_
 refine ol_op (opv_box (ss := [(sI a0.Blocks), (sI a0.Slots), (sI a0.Gens)]) rfl rfl rfl) rfl rfl rfl ?_
 rintro _ w6 ⟨G1, rfl, b2, q3, z4⟩
 have z4 := Nat.le_trans fB.size z4
 have fB := fB.gr q3
 refine ol_val (v := .int .i64 0) (xr_assign rfl rfl) rfl rfl rfl ?_
 refine ol_nil ?_
 refine cw_seq ?_
 refine cw_region ?_
 refine ol_val (v := (pt G1 0)) (xr_fieldAddr (p := 0) (q := 0) rfl fl106_0 rfl) rfl rfl rfl ?_
 refine ol_val (v := .int .i64 a0.Blocks) (xr_load1 (v := .int .i64 a0.Blocks) rfl ag3 rfl (b2.seg 0 rfl rfl)) rfl rfl rfl ?_
 obtain ⟨t7, k8, h⟩ := bs h
 refine ol_op (opv_call rfl cal136 (ac rfl (ac rfl an)) (rickyardref12_Need.ok fu _ a0.Blocks 384 _ k8)) rfl rfl rfl ?_
 rintro _ w10 ⟨rfl, q9⟩
 have fB := fB.gr q9
 refine ol_val (v := .int .i64 t7) (xr_assign rfl rfl) rfl rfl rfl ?_
 refine ol_nil ?_
 refine cw_ret ?_
 repeat (first | with_reducible refine thn_r ?_ | with_reducible refine blk_r ?_)
 obtain rfl := Option.some.inj h
 refine fin_ret1 Try.results116 rfl ?_
 exact ⟨_, rfl, rfl, fB⟩
def rickyardref13_Right.s2 (fu : Nat) (a0 : S_api_Super) (s118 : (List Int) × Int) : Int → Option (Sum (Sum (Sum (Sum Bool (List Int)) ((List Int) × Int)) Unit) Int) := fun s150 => (if (decide (s150 < s118.2)) = true then (if 0 ≤ s150 ∧ s150 < (List.length a0.Charts : Int) then (if 0 ≤ s118.2 ∧ s118.2 < (List.length a0.Charts : Int) then (if (decide ((ix a0.Charts s150) = (ix a0.Charts s118.2))) = true then some (Sum.inl (Sum.inl (Sum.inl (Sum.inl (false))))) else some (Sum.inr ((IntKind.i64.wrap (s150 + 1))))) else none) else none) else some (Sum.inl (Sum.inr ())))
def rickyardref13_Right.s1 (fu : Nat) (a0 : S_api_Super) : ((List Int) × Int) → Option (Sum (Sum Bool (List Int)) ((List Int) × Int)) := fun s118 => (if (decide (s118.2 < (List.length a0.Charts : Int))) = true then (if 0 ≤ s118.2 ∧ s118.2 < (List.length a0.Charts : Int) then (if List.length s118.1 + List.length [(ix a0.Charts s118.2)] ≤ LIM then ((loopM (rickyardref13_Right.s2 fu a0 s118) fu (0)).bind fun e151 => match e151 with | Sum.inl p => some p | Sum.inr x154 => some (Sum.inr ((s118.1 ++ [(ix a0.Charts s118.2)]), (IntKind.i64.wrap (s118.2 + 1))))) else none) else none) else some (Sum.inl (Sum.inr (s118.1))))
def rickyardref13_Right.s3 (fu : Nat) (a0 : S_api_Super) (x122 : (List Int)) : Int → Option (Sum (Sum Bool Unit) Int) := fun s169 => (if (decide (s169 < (List.length x122 : Int))) = true then (((if 0 ≤ s169 ∧ s169 < (List.length x122 : Int) then (if (decide ((ix x122 s169) < 2)) = true then some (true) else (if 0 ≤ s169 ∧ s169 < (List.length x122 : Int) then some ((decide ((ix x122 s169) ≥ a0.Tickets.Geometry.Blocks))) else none)) else none) : Option Bool).bind fun x178 => (if x178 = true then some (Sum.inl (Sum.inl (false))) else some (Sum.inr ((IntKind.i64.wrap (s169 + 1)))))) else some (Sum.inl (Sum.inr ())))
def rickyardref13_Right.f (fu : Nat) (a0 : S_api_Super) : Option Bool := (((if (decide (a0.Epoch < 1)) = true then some (true) else (if (decide (a0.Epoch > 4611686018427387904)) = true then some (true) else ((rickyardref12_Right.f fu a0.Tickets.Geometry).bind fun t11 => some ((!t11))))) : Option Bool).bind fun x7 => (if x7 = true then some (false) else (((if (decide (a0.Tickets.High < 0)) = true then some (true) else (if (decide (a0.Tickets.High > a0.Tickets.Geometry.Slots)) = true then some (true) else (if (decide (a0.Tickets.Free < 0)) = true then some (true) else (if (decide (a0.Tickets.Free > a0.Tickets.High)) = true then some (true) else ((rickyardref12_Charts.f fu a0.Tickets.Geometry).bind fun t57 => some ((!decide ((List.length a0.Charts : Int) = t57)))))))) : Option Bool).bind fun x19 => (if x19 = true then some (false) else (((if (decide (a0.Tickets.High = 0)) = true then (if (!decide (a0.Tickets.Top = 0)) = true then some (Sum.inl (false)) else some (Sum.inr ([]))) else (if List.length ([] : List Int) + List.length [a0.Tickets.Top] ≤ LIM then some (Sum.inr ((([] : List Int) ++ [a0.Tickets.Top]))) else none)) : Option (Sum Bool (List Int))).bind fun x67 => match x67 with | Sum.inl p => some p | Sum.inr x70 => (((if (!decide (a0.Dir = 0)) = true then (if List.length x70 + List.length [a0.Dir] ≤ LIM then some ((x70 ++ [a0.Dir])) else none) else some (x70)) : Option (List Int)).bind fun x93 => ((loopM (rickyardref13_Right.s1 fu a0) fu (x93, 0)).bind fun e119 => match e119 with | Sum.inl p => some p | Sum.inr x122 => ((loopM (rickyardref13_Right.s3 fu a0 x122) fu (0)).bind fun e170 => match e170 with | Sum.inl p => some p | Sum.inr x173 => some (true)))))))))
theorem rickyardref13_Right.ok (fu : Nat) (w : World) (a0 : S_api_Super) (V0_0 : Value) (R0_0 : Rd (kI .i64) w V0_0 a0.Charts) (r : Bool) (h : rickyardref13_Right.f fu a0 = some r) :
  Calls Try.prog 75 (([aggV [(sI a0.Epoch), (sI a0.Tickets.Geometry.Blocks), (sI a0.Tickets.Geometry.Slots), (sI a0.Tickets.Geometry.Gens), (sI a0.Tickets.Top), (sI a0.Tickets.High), (sI a0.Tickets.Free), (sI a0.Dir), Seg.cell V0_0 R0_0.one]] : List Value).toArray) w (fun e w' => ∃ v, e = .returned v ∧ v = .bool r ∧ Gr w w') := by
 unfold rickyardref13_Right.f at h
 have fB : Gr w w := Fr.refl _ _
 refine calls_cw Try.func75 rfl Try.ntmps75 rfl ?_
 refine cw_seq ?_
 refine cw_region ?_
 refine ol_op (opv_box (ss := [(sI a0.Epoch), (sI a0.Tickets.Geometry.Blocks), (sI a0.Tickets.Geometry.Slots), (sI a0.Tickets.Geometry.Gens), (sI a0.Tickets.Top), (sI a0.Tickets.High), (sI a0.Tickets.Free), (sI a0.Dir), Seg.cell V0_0 R0_0.one]) rfl rfl rfl) rfl rfl rfl ?_
 rintro _ w6 ⟨G1, rfl, b2, q3, z4⟩
 have z4 := Nat.le_trans fB.size z4
 have fB := fB.gr q3
 refine ol_val (v := .bool false) (xr_assign rfl rfl) rfl rfl rfl ?_
 refine ol_nil ?_
 refine cw_seq ?_
 refine cw_seq ?_
 obtain ⟨x7, j8, h⟩ := bs h
 refine cw_mid (fun ρ' w' => ρ' 1 = (pt G1 0) ∧ ρ' 21 = .bool x7 ∧ Gr w6 w') ?_ ?_
 ·skip
  refine cw_region ?_
  refine ol_val (v := (pt G1 0)) (xr_fieldAddr (p := 0) (q := 0) rfl fl110_0 rfl) rfl rfl rfl ?_
  refine ol_val (v := .int .i64 a0.Epoch) (xr_load1 (v := .int .i64 a0.Epoch) rfl ag3 rfl (b2.seg 0 rfl rfl)) rfl rfl rfl ?_
  refine ol_val (v := .bool (decide (a0.Epoch < 1))) (xr_lss rfl rfl rfl) rfl rfl rfl ?_
  refine ol_val (v := .bool (decide (a0.Epoch < 1))) (xr_move rfl rfl) rfl rfl rfl ?_
  rcases is j8 with ⟨c9, j8⟩ | ⟨c9, j8⟩
  ·skip
   refine ol_gskip rfl rfl rfl rfl rfl c9 ?_
   refine ol_gskip rfl rfl rfl rfl rfl c9 ?_
   refine ol_gskip rfl rfl rfl rfl rfl c9 ?_
   refine ol_val (v := .bool true) (xr_pickT rfl rfl c9 rfl) rfl rfl rfl ?_
   refine ol_val (v := .bool true) (xr_move rfl rfl) rfl rfl rfl ?_
   refine ol_gskip rfl rfl rfl rfl rfl rfl ?_
   refine ol_gskip rfl rfl rfl rfl rfl rfl ?_
   refine ol_gskip rfl rfl rfl rfl rfl rfl ?_
   refine ol_gskip rfl rfl rfl rfl rfl rfl ?_
   refine ol_gskip rfl rfl rfl rfl rfl rfl ?_
   refine ol_val (v := .bool true) (xr_pickT rfl rfl rfl rfl) rfl rfl rfl ?_
   refine ol_nil ?_
   obtain rfl := Option.some.inj j8
   refine thn_i ?_
   exact ⟨rfl, rfl, Fr.refl _ _⟩
  refine ol_gval (v := (pt G1 0)) (xr_fieldAddr (p := 0) (q := 0) rfl fl110_0 rfl) rfl rfl rfl rfl rfl c9 ?_
  refine ol_gval (v := .int .i64 a0.Epoch) (xr_load1 (v := .int .i64 a0.Epoch) rfl ag3 rfl (b2.seg 0 rfl rfl)) rfl rfl rfl rfl rfl c9 ?_
  refine ol_gval (v := .bool (decide (a0.Epoch > 4611686018427387904))) (xr_gtr rfl rfl rfl) rfl rfl rfl rfl rfl c9 ?_
  refine ol_val (v := .bool (decide (a0.Epoch > 4611686018427387904))) (xr_pickF rfl rfl c9 rfl) rfl rfl rfl ?_
  refine ol_val (v := .bool (decide (a0.Epoch > 4611686018427387904))) (xr_move rfl rfl) rfl rfl rfl ?_
  rcases is j8 with ⟨c10, j8⟩ | ⟨c10, j8⟩
  ·skip
   refine ol_gskip rfl rfl rfl rfl rfl c10 ?_
   refine ol_gskip rfl rfl rfl rfl rfl c10 ?_
   refine ol_gskip rfl rfl rfl rfl rfl c10 ?_
   refine ol_gskip rfl rfl rfl rfl rfl c10 ?_
   refine ol_gskip rfl rfl rfl rfl rfl c10 ?_
   refine ol_val (v := .bool true) (xr_pickT rfl rfl c10 rfl) rfl rfl rfl ?_
   refine ol_nil ?_
   obtain rfl := Option.some.inj j8
   refine thn_i ?_
   exact ⟨rfl, rfl, Fr.refl _ _⟩
  refine ol_gval (v := (pt G1 1)) (xr_fieldAddr (p := 0) (q := 1) rfl fl110_1 rfl) rfl rfl rfl rfl rfl c10 ?_
  refine ol_gval (v := (pt G1 1)) (xr_fieldAddr (p := 1) (q := 0) rfl fl108_0 rfl) rfl rfl rfl rfl rfl c10 ?_
  refine ol_gval (v := aggV [(sI a0.Tickets.Geometry.Blocks), (sI a0.Tickets.Geometry.Slots), (sI a0.Tickets.Geometry.Gens)]) (xr_loadS (ss := [(sI a0.Tickets.Geometry.Blocks), (sI a0.Tickets.Geometry.Slots), (sI a0.Tickets.Geometry.Gens)]) rfl ag106 sz106 rfl rfl (b2.segs 1 3 rfl)) rfl rfl rfl rfl rfl c10 ?_
  obtain ⟨t11, k12, j8⟩ := bs j8
  refine ol_gop (opv_call rfl cal115 (ac rfl an) (rickyardref12_Right.ok fu _ a0.Tickets.Geometry _ k12)) rfl rfl rfl rfl rfl c10 ?_
  rintro _ w14 ⟨rfl, q13⟩
  have b2 := b2.gr q13
  have fB := fB.gr q13
  refine ol_gval (v := .bool (!t11)) (xr_not rfl rfl) rfl rfl rfl rfl rfl c10 ?_
  refine ol_val (v := .bool (!t11)) (xr_pickF rfl rfl c10 rfl) rfl rfl rfl ?_
  refine ol_nil ?_
  obtain rfl := Option.some.inj j8
  refine thn_i ?_
  exact ⟨rfl, rfl, q13⟩
 rintro ρ15 w16 ⟨e1, e21, q17⟩
 have b2 := b2.gr q17
 have fB := fB.gr q17
 rcases is h with ⟨c18, h⟩ | ⟨c18, h⟩
 ·refine cw_condT e21 c18 ?_
  refine cw_seq ?_
  refine cw_region ?_
  refine ol_val (v := .bool false) (xr_assign rfl rfl) rfl rfl rfl ?_
  refine ol_nil ?_
  refine cw_ret ?_
  repeat (first | with_reducible refine thn_r ?_ | with_reducible refine blk_r ?_)
  obtain rfl := Option.some.inj h
  refine fin_ret1 Try.results75 rfl ?_
  exact ⟨_, rfl, rfl, fB⟩
 refine cw_condF e21 c18 ?_
 refine cw_skip ?_
 refine cw_seq ?_
 refine cw_seq ?_
 obtain ⟨x19, j20, h⟩ := bs h
 refine cw_mid (fun ρ' w' => ρ' 1 = (pt G1 0) ∧ ρ' 60 = .bool x19 ∧ Gr w16 w') ?_ ?_
 ·skip
  refine rd_region mo ?_
  intro w21 q22
  have b2 := b2.gr q22
  have fB := fB.gr q22
  refine rd_seq (m := 0) (n := 5) rfl ?_
  refine ol_val (v := (pt G1 1)) (xr_fieldAddr (p := 0) (q := 1) rfl fl110_1 e1) rfl rfl rfl ?_
  refine ol_val (v := (pt G1 5)) (xr_fieldAddr (p := 1) (q := 4) rfl fl108_2 rfl) rfl rfl rfl ?_
  refine ol_val (v := .int .i64 a0.Tickets.High) (xr_load1 (v := .int .i64 a0.Tickets.High) rfl ag3 rfl (b2.seg 5 rfl rfl)) rfl rfl rfl ?_
  refine ol_val (v := .bool (decide (a0.Tickets.High < 0))) (xr_lss rfl rfl rfl) rfl rfl rfl ?_
  refine ol_val (v := .bool (decide (a0.Tickets.High < 0))) (xr_move rfl rfl) rfl rfl rfl ?_
  refine ol_nilK ?_
  rcases is j20 with ⟨c23, j20⟩ | ⟨c23, j20⟩
  ·skip
   refine rd_drawL 5 12 [fun vz _ => vz = undef, fun vz _ => vz = undef, fun vz _ => vz = undef, fun vz _ => vz = undef, fun vz _ => vz = undef, fun vz _ => vz = undef, fun vz _ => vz = undef] rfl ⟨fun _ _ _ h _ => h, fun _ _ _ h _ => h, fun _ _ _ h _ => h, fun _ _ _ h _ => h, fun _ _ _ h _ => h, fun _ _ _ h _ => h, fun _ _ _ h _ => h, trivial⟩ ?_ ?_
   ·refine ⟨?_, ?_, ?_, ?_, ?_, ?_, ?_, trivial⟩
    ·intro ρz wz hz hk hd
     exact sk_skip rfl rfl ((hk 26 rfl).trans rfl) c23 rfl
    ·intro ρz wz hz hk hd
     exact sk_skip rfl rfl ((hk 26 rfl).trans rfl) c23 rfl
    ·intro ρz wz hz hk hd
     exact sk_skip rfl rfl ((hk 26 rfl).trans rfl) c23 rfl
    ·intro ρz wz hz hk hd
     exact sk_skip rfl rfl ((hk 26 rfl).trans rfl) c23 rfl
    ·intro ρz wz hz hk hd
     exact sk_skip rfl rfl ((hk 26 rfl).trans rfl) c23 rfl
    ·intro ρz wz hz hk hd
     exact sk_skip rfl rfl ((hk 26 rfl).trans rfl) c23 rfl
    intro ρz wz hz hk hd
    exact sk_skip rfl rfl ((hk 26 rfl).trans rfl) c23 rfl
   intro ρ24 w25 q26 hk hd
   have e1 := (hk 1 rfl).trans e1
   have e26 := (hk 26 rfl).trans rfl
   have e29 := hd 7 rfl rfl 29 rfl
   have e33 := hd 11 rfl rfl 33 rfl
   have b2 := b2.gr q26
   have fB := fB.gr q26
   refine rd_seq (m := 12) (n := 21) rfl ?_
   refine ol_gskip rfl rfl rfl rfl e26 c23 ?_
   refine ol_val (v := .bool true) (xr_pickT rfl e26 c23 rfl) rfl rfl rfl ?_
   refine ol_val (v := .bool true) (xr_move rfl rfl) rfl rfl rfl ?_
   refine ol_gskip rfl rfl rfl rfl rfl rfl ?_
   refine ol_gskip rfl rfl rfl rfl rfl rfl ?_
   refine ol_gskip rfl rfl rfl rfl rfl rfl ?_
   refine ol_gskip rfl rfl rfl rfl rfl rfl ?_
   refine ol_val (v := .bool true) (xr_pickT rfl rfl rfl rfl) rfl rfl rfl ?_
   refine ol_val (v := .bool true) (xr_move rfl rfl) rfl rfl rfl ?_
   refine ol_nilK ?_
   refine rd_drawL 21 27 [fun vz _ => vz = undef, fun vz _ => vz = undef, fun vz _ => vz = undef, fun vz _ => vz = undef, fun vz _ => vz = undef, fun vz _ => vz = undef] rfl ⟨fun _ _ _ h _ => h, fun _ _ _ h _ => h, fun _ _ _ h _ => h, fun _ _ _ h _ => h, fun _ _ _ h _ => h, fun _ _ _ h _ => h, trivial⟩ ?_ ?_
   ·refine ⟨?_, ?_, ?_, ?_, ?_, ?_, trivial⟩
    ·intro ρz wz hz hk hd
     exact sk_skip rfl rfl ((hk 42 rfl).trans rfl) rfl rfl
    ·intro ρz wz hz hk hd
     exact sk_skip rfl rfl ((hk 42 rfl).trans rfl) rfl rfl
    ·intro ρz wz hz hk hd
     exact sk_skip rfl rfl ((hk 42 rfl).trans rfl) rfl rfl
    ·intro ρz wz hz hk hd
     exact sk_skip rfl rfl ((hk 42 rfl).trans rfl) rfl rfl
    ·intro ρz wz hz hk hd
     exact sk_skip rfl rfl ((hk 42 rfl).trans rfl) rfl rfl
    intro ρz wz hz hk hd
    exact sk_skip rfl rfl ((hk 42 rfl).trans rfl) rfl rfl
   intro ρ27 w28 q29 hk hd
   have e1 := (hk 1 rfl).trans e1
   have e42 := (hk 42 rfl).trans rfl
   have e45 := hd 23 rfl rfl 45 rfl
   have e48 := hd 26 rfl rfl 48 rfl
   have b2 := b2.gr q29
   have fB := fB.gr q29
   refine rd_seq (m := 27) (n := 30) rfl ?_
   refine ol_gskip rfl rfl rfl rfl e42 rfl ?_
   refine ol_val (v := .bool true) (xr_pickT rfl e42 rfl rfl) rfl rfl rfl ?_
   refine ol_val (v := .bool true) (xr_move rfl rfl) rfl rfl rfl ?_
   refine ol_nilK ?_
   refine rd_drawL 30 37 [fun vz _ => vz = undef, fun vz _ => vz = undef, fun vz _ => vz = undef, fun vz _ => vz = undef, fun vz _ => vz = undef, fun vz _ => vz = undef, fun vz _ => vz = undef] rfl ⟨fun _ _ _ h _ => h, fun _ _ _ h _ => h, fun _ _ _ h _ => h, fun _ _ _ h _ => h, fun _ _ _ h _ => h, fun _ _ _ h _ => h, fun _ _ _ h _ => h, trivial⟩ ?_ ?_
   ·refine ⟨?_, ?_, ?_, ?_, ?_, ?_, ?_, trivial⟩
    ·intro ρz wz hz hk hd
     exact sk_skip rfl rfl ((hk 51 rfl).trans rfl) rfl rfl
    ·intro ρz wz hz hk hd
     exact sk_skip rfl rfl ((hk 51 rfl).trans rfl) rfl rfl
    ·intro ρz wz hz hk hd
     exact sk_skip rfl rfl ((hk 51 rfl).trans rfl) rfl rfl
    ·intro ρz wz hz hk hd
     exact sk_skip rfl rfl ((hk 51 rfl).trans rfl) rfl rfl
    ·intro ρz wz hz hk hd
     exact sk_skip rfl rfl ((hk 51 rfl).trans rfl) rfl rfl
    ·intro ρz wz hz hk hd
     exact sk_skip rfl rfl ((hk 51 rfl).trans rfl) rfl rfl
    intro ρz wz hz hk hd
    exact sk_skip rfl rfl ((hk 51 rfl).trans rfl) rfl rfl
   intro ρ30 w31 q32 hk hd
   have e1 := (hk 1 rfl).trans e1
   have e51 := (hk 51 rfl).trans rfl
   have e54 := hd 32 rfl rfl 54 rfl
   have e58 := hd 36 rfl rfl 58 rfl
   have b2 := b2.gr q32
   have fB := fB.gr q32
   refine rd_seq (m := 37) (n := 39) rfl ?_
   refine ol_gskip rfl rfl rfl rfl e51 rfl ?_
   refine ol_val (v := .bool true) (xr_pickT rfl e51 rfl rfl) rfl rfl rfl ?_
   refine ol_nilK ?_
   refine rd_end rfl ?_
   obtain rfl := Option.some.inj j20
   refine thn_i ?_
   exact ⟨e1, rfl, (((q22.gr q26).gr q29).gr q32)⟩
  refine rd_drawL 5 12 [fun vz wz => vz = ((pt G1 1) : Value), fun vz wz => vz = ((pt G1 5) : Value), fun vz wz => vz = (.int .i64 a0.Tickets.High : Value), fun vz wz => vz = ((pt G1 1) : Value), fun vz wz => vz = ((pt G1 1) : Value), fun vz wz => vz = ((pt G1 2) : Value), fun vz wz => vz = (.int .i64 a0.Tickets.Geometry.Slots : Value)] rfl ⟨fun _ _ _ h _ => h, fun _ _ _ h _ => h, fun _ _ _ h _ => h, fun _ _ _ h _ => h, fun _ _ _ h _ => h, fun _ _ _ h _ => h, fun _ _ _ h _ => h, trivial⟩ ?_ ?_
  ·refine ⟨?_, ?_, ?_, ?_, ?_, ?_, ?_, trivial⟩
   ·intro ρz wz hz hk hd
    exact sk_gval (v := (pt G1 1)) (xr_fieldAddr (p := 0) (q := 1) rfl fl110_1 ((hk 1 rfl).trans e1)) rfl rfl ((hk 26 rfl).trans rfl) c23 rfl
   ·intro ρz wz hz hk hd
    exact sk_gval (v := (pt G1 5)) (xr_fieldAddr (p := 1) (q := 4) rfl fl108_2 (hd 5 rfl rfl 27 rfl)) rfl rfl ((hk 26 rfl).trans rfl) c23 rfl
   ·intro ρz wz hz hk hd
    exact sk_gval (v := .int .i64 a0.Tickets.High) (xr_load1 (v := .int .i64 a0.Tickets.High) rfl ag3 (hd 6 rfl rfl 28 rfl) ((b2.gr hz).seg 5 rfl rfl)) rfl rfl ((hk 26 rfl).trans rfl) c23 rfl
   ·intro ρz wz hz hk hd
    exact sk_gval (v := (pt G1 1)) (xr_fieldAddr (p := 0) (q := 1) rfl fl110_1 ((hk 1 rfl).trans e1)) rfl rfl ((hk 26 rfl).trans rfl) c23 rfl
   ·intro ρz wz hz hk hd
    exact sk_gval (v := (pt G1 1)) (xr_fieldAddr (p := 1) (q := 0) rfl fl108_0 (hd 8 rfl rfl 30 rfl)) rfl rfl ((hk 26 rfl).trans rfl) c23 rfl
   ·intro ρz wz hz hk hd
    exact sk_gval (v := (pt G1 2)) (xr_fieldAddr (p := 1) (q := 1) rfl fl106_1 (hd 9 rfl rfl 31 rfl)) rfl rfl ((hk 26 rfl).trans rfl) c23 rfl
   intro ρz wz hz hk hd
   exact sk_gval (v := .int .i64 a0.Tickets.Geometry.Slots) (xr_load1 (v := .int .i64 a0.Tickets.Geometry.Slots) rfl ag3 (hd 10 rfl rfl 32 rfl) ((b2.gr hz).seg 2 rfl rfl)) rfl rfl ((hk 26 rfl).trans rfl) c23 rfl
  intro ρ33 w34 q35 hk hd
  have e1 := (hk 1 rfl).trans e1
  have e26 := (hk 26 rfl).trans rfl
  have e29 := hd 7 rfl rfl 29 rfl
  have e33 := hd 11 rfl rfl 33 rfl
  have b2 := b2.gr q35
  have fB := fB.gr q35
  refine rd_seq (m := 12) (n := 21) rfl ?_
  refine ol_gval (v := .bool (decide (a0.Tickets.High > a0.Tickets.Geometry.Slots))) (xr_gtr rfl e29 e33) rfl rfl rfl rfl e26 c23 ?_
  refine ol_val (v := .bool (decide (a0.Tickets.High > a0.Tickets.Geometry.Slots))) (xr_pickF rfl e26 c23 rfl) rfl rfl rfl ?_
  refine ol_val (v := .bool (decide (a0.Tickets.High > a0.Tickets.Geometry.Slots))) (xr_move rfl rfl) rfl rfl rfl ?_
  rcases is j20 with ⟨c36, j20⟩ | ⟨c36, j20⟩
  ·skip
   refine ol_gskip rfl rfl rfl rfl rfl c36 ?_
   refine ol_gskip rfl rfl rfl rfl rfl c36 ?_
   refine ol_gskip rfl rfl rfl rfl rfl c36 ?_
   refine ol_gskip rfl rfl rfl rfl rfl c36 ?_
   refine ol_val (v := .bool true) (xr_pickT rfl rfl c36 rfl) rfl rfl rfl ?_
   refine ol_val (v := .bool true) (xr_move rfl rfl) rfl rfl rfl ?_
   refine ol_nilK ?_
   refine rd_drawL 21 27 [fun vz _ => vz = undef, fun vz _ => vz = undef, fun vz _ => vz = undef, fun vz _ => vz = undef, fun vz _ => vz = undef, fun vz _ => vz = undef] rfl ⟨fun _ _ _ h _ => h, fun _ _ _ h _ => h, fun _ _ _ h _ => h, fun _ _ _ h _ => h, fun _ _ _ h _ => h, fun _ _ _ h _ => h, trivial⟩ ?_ ?_
   ·refine ⟨?_, ?_, ?_, ?_, ?_, ?_, trivial⟩
    ·intro ρz wz hz hk hd
     exact sk_skip rfl rfl ((hk 42 rfl).trans rfl) rfl rfl
    ·intro ρz wz hz hk hd
     exact sk_skip rfl rfl ((hk 42 rfl).trans rfl) rfl rfl
    ·intro ρz wz hz hk hd
     exact sk_skip rfl rfl ((hk 42 rfl).trans rfl) rfl rfl
    ·intro ρz wz hz hk hd
     exact sk_skip rfl rfl ((hk 42 rfl).trans rfl) rfl rfl
    ·intro ρz wz hz hk hd
     exact sk_skip rfl rfl ((hk 42 rfl).trans rfl) rfl rfl
    intro ρz wz hz hk hd
    exact sk_skip rfl rfl ((hk 42 rfl).trans rfl) rfl rfl
   intro ρ37 w38 q39 hk hd
   have e1 := (hk 1 rfl).trans e1
   have e42 := (hk 42 rfl).trans rfl
   have e45 := hd 23 rfl rfl 45 rfl
   have e48 := hd 26 rfl rfl 48 rfl
   have b2 := b2.gr q39
   have fB := fB.gr q39
   refine rd_seq (m := 27) (n := 30) rfl ?_
   refine ol_gskip rfl rfl rfl rfl e42 rfl ?_
   refine ol_val (v := .bool true) (xr_pickT rfl e42 rfl rfl) rfl rfl rfl ?_
   refine ol_val (v := .bool true) (xr_move rfl rfl) rfl rfl rfl ?_
   refine ol_nilK ?_
   refine rd_drawL 30 37 [fun vz _ => vz = undef, fun vz _ => vz = undef, fun vz _ => vz = undef, fun vz _ => vz = undef, fun vz _ => vz = undef, fun vz _ => vz = undef, fun vz _ => vz = undef] rfl ⟨fun _ _ _ h _ => h, fun _ _ _ h _ => h, fun _ _ _ h _ => h, fun _ _ _ h _ => h, fun _ _ _ h _ => h, fun _ _ _ h _ => h, fun _ _ _ h _ => h, trivial⟩ ?_ ?_
   ·refine ⟨?_, ?_, ?_, ?_, ?_, ?_, ?_, trivial⟩
    ·intro ρz wz hz hk hd
     exact sk_skip rfl rfl ((hk 51 rfl).trans rfl) rfl rfl
    ·intro ρz wz hz hk hd
     exact sk_skip rfl rfl ((hk 51 rfl).trans rfl) rfl rfl
    ·intro ρz wz hz hk hd
     exact sk_skip rfl rfl ((hk 51 rfl).trans rfl) rfl rfl
    ·intro ρz wz hz hk hd
     exact sk_skip rfl rfl ((hk 51 rfl).trans rfl) rfl rfl
    ·intro ρz wz hz hk hd
     exact sk_skip rfl rfl ((hk 51 rfl).trans rfl) rfl rfl
    ·intro ρz wz hz hk hd
     exact sk_skip rfl rfl ((hk 51 rfl).trans rfl) rfl rfl
    intro ρz wz hz hk hd
    exact sk_skip rfl rfl ((hk 51 rfl).trans rfl) rfl rfl
   intro ρ40 w41 q42 hk hd
   have e1 := (hk 1 rfl).trans e1
   have e51 := (hk 51 rfl).trans rfl
   have e54 := hd 32 rfl rfl 54 rfl
   have e58 := hd 36 rfl rfl 58 rfl
   have b2 := b2.gr q42
   have fB := fB.gr q42
   refine rd_seq (m := 37) (n := 39) rfl ?_
   refine ol_gskip rfl rfl rfl rfl e51 rfl ?_
   refine ol_val (v := .bool true) (xr_pickT rfl e51 rfl rfl) rfl rfl rfl ?_
   refine ol_nilK ?_
   refine rd_end rfl ?_
   obtain rfl := Option.some.inj j20
   refine thn_i ?_
   exact ⟨e1, rfl, (((q22.gr q35).gr q39).gr q42)⟩
  refine ol_gval (v := (pt G1 1)) (xr_fieldAddr (p := 0) (q := 1) rfl fl110_1 e1) rfl rfl rfl rfl rfl c36 ?_
  refine ol_gval (v := (pt G1 6)) (xr_fieldAddr (p := 1) (q := 5) rfl fl108_3 rfl) rfl rfl rfl rfl rfl c36 ?_
  refine ol_gval (v := .int .i64 a0.Tickets.Free) (xr_load1 (v := .int .i64 a0.Tickets.Free) rfl ag3 rfl (b2.seg 6 rfl rfl)) rfl rfl rfl rfl rfl c36 ?_
  refine ol_gval (v := .bool (decide (a0.Tickets.Free < 0))) (xr_lss rfl rfl rfl) rfl rfl rfl rfl rfl c36 ?_
  refine ol_val (v := .bool (decide (a0.Tickets.Free < 0))) (xr_pickF rfl rfl c36 rfl) rfl rfl rfl ?_
  refine ol_val (v := .bool (decide (a0.Tickets.Free < 0))) (xr_move rfl rfl) rfl rfl rfl ?_
  refine ol_nilK ?_
  rcases is j20 with ⟨c43, j20⟩ | ⟨c43, j20⟩
  ·skip
   refine rd_drawL 21 27 [fun vz _ => vz = undef, fun vz _ => vz = undef, fun vz _ => vz = undef, fun vz _ => vz = undef, fun vz _ => vz = undef, fun vz _ => vz = undef] rfl ⟨fun _ _ _ h _ => h, fun _ _ _ h _ => h, fun _ _ _ h _ => h, fun _ _ _ h _ => h, fun _ _ _ h _ => h, fun _ _ _ h _ => h, trivial⟩ ?_ ?_
   ·refine ⟨?_, ?_, ?_, ?_, ?_, ?_, trivial⟩
    ·intro ρz wz hz hk hd
     exact sk_skip rfl rfl ((hk 42 rfl).trans rfl) c43 rfl
    ·intro ρz wz hz hk hd
     exact sk_skip rfl rfl ((hk 42 rfl).trans rfl) c43 rfl
    ·intro ρz wz hz hk hd
     exact sk_skip rfl rfl ((hk 42 rfl).trans rfl) c43 rfl
    ·intro ρz wz hz hk hd
     exact sk_skip rfl rfl ((hk 42 rfl).trans rfl) c43 rfl
    ·intro ρz wz hz hk hd
     exact sk_skip rfl rfl ((hk 42 rfl).trans rfl) c43 rfl
    intro ρz wz hz hk hd
    exact sk_skip rfl rfl ((hk 42 rfl).trans rfl) c43 rfl
   intro ρ44 w45 q46 hk hd
   have e1 := (hk 1 rfl).trans e1
   have e42 := (hk 42 rfl).trans rfl
   have e45 := hd 23 rfl rfl 45 rfl
   have e48 := hd 26 rfl rfl 48 rfl
   have b2 := b2.gr q46
   have fB := fB.gr q46
   refine rd_seq (m := 27) (n := 30) rfl ?_
   refine ol_gskip rfl rfl rfl rfl e42 c43 ?_
   refine ol_val (v := .bool true) (xr_pickT rfl e42 c43 rfl) rfl rfl rfl ?_
   refine ol_val (v := .bool true) (xr_move rfl rfl) rfl rfl rfl ?_
   refine ol_nilK ?_
   refine rd_drawL 30 37 [fun vz _ => vz = undef, fun vz _ => vz = undef, fun vz _ => vz = undef, fun vz _ => vz = undef, fun vz _ => vz = undef, fun vz _ => vz = undef, fun vz _ => vz = undef] rfl ⟨fun _ _ _ h _ => h, fun _ _ _ h _ => h, fun _ _ _ h _ => h, fun _ _ _ h _ => h, fun _ _ _ h _ => h, fun _ _ _ h _ => h, fun _ _ _ h _ => h, trivial⟩ ?_ ?_
   ·refine ⟨?_, ?_, ?_, ?_, ?_, ?_, ?_, trivial⟩
    ·intro ρz wz hz hk hd
     exact sk_skip rfl rfl ((hk 51 rfl).trans rfl) rfl rfl
    ·intro ρz wz hz hk hd
     exact sk_skip rfl rfl ((hk 51 rfl).trans rfl) rfl rfl
    ·intro ρz wz hz hk hd
     exact sk_skip rfl rfl ((hk 51 rfl).trans rfl) rfl rfl
    ·intro ρz wz hz hk hd
     exact sk_skip rfl rfl ((hk 51 rfl).trans rfl) rfl rfl
    ·intro ρz wz hz hk hd
     exact sk_skip rfl rfl ((hk 51 rfl).trans rfl) rfl rfl
    ·intro ρz wz hz hk hd
     exact sk_skip rfl rfl ((hk 51 rfl).trans rfl) rfl rfl
    intro ρz wz hz hk hd
    exact sk_skip rfl rfl ((hk 51 rfl).trans rfl) rfl rfl
   intro ρ47 w48 q49 hk hd
   have e1 := (hk 1 rfl).trans e1
   have e51 := (hk 51 rfl).trans rfl
   have e54 := hd 32 rfl rfl 54 rfl
   have e58 := hd 36 rfl rfl 58 rfl
   have b2 := b2.gr q49
   have fB := fB.gr q49
   refine rd_seq (m := 37) (n := 39) rfl ?_
   refine ol_gskip rfl rfl rfl rfl e51 rfl ?_
   refine ol_val (v := .bool true) (xr_pickT rfl e51 rfl rfl) rfl rfl rfl ?_
   refine ol_nilK ?_
   refine rd_end rfl ?_
   obtain rfl := Option.some.inj j20
   refine thn_i ?_
   exact ⟨e1, rfl, (((q22.gr q35).gr q46).gr q49)⟩
  refine rd_drawL 21 27 [fun vz wz => vz = ((pt G1 1) : Value), fun vz wz => vz = ((pt G1 6) : Value), fun vz wz => vz = (.int .i64 a0.Tickets.Free : Value), fun vz wz => vz = ((pt G1 1) : Value), fun vz wz => vz = ((pt G1 5) : Value), fun vz wz => vz = (.int .i64 a0.Tickets.High : Value)] rfl ⟨fun _ _ _ h _ => h, fun _ _ _ h _ => h, fun _ _ _ h _ => h, fun _ _ _ h _ => h, fun _ _ _ h _ => h, fun _ _ _ h _ => h, trivial⟩ ?_ ?_
  ·refine ⟨?_, ?_, ?_, ?_, ?_, ?_, trivial⟩
   ·intro ρz wz hz hk hd
    exact sk_gval (v := (pt G1 1)) (xr_fieldAddr (p := 0) (q := 1) rfl fl110_1 ((hk 1 rfl).trans e1)) rfl rfl ((hk 42 rfl).trans rfl) c43 rfl
   ·intro ρz wz hz hk hd
    exact sk_gval (v := (pt G1 6)) (xr_fieldAddr (p := 1) (q := 5) rfl fl108_3 (hd 21 rfl rfl 43 rfl)) rfl rfl ((hk 42 rfl).trans rfl) c43 rfl
   ·intro ρz wz hz hk hd
    exact sk_gval (v := .int .i64 a0.Tickets.Free) (xr_load1 (v := .int .i64 a0.Tickets.Free) rfl ag3 (hd 22 rfl rfl 44 rfl) ((b2.gr hz).seg 6 rfl rfl)) rfl rfl ((hk 42 rfl).trans rfl) c43 rfl
   ·intro ρz wz hz hk hd
    exact sk_gval (v := (pt G1 1)) (xr_fieldAddr (p := 0) (q := 1) rfl fl110_1 ((hk 1 rfl).trans e1)) rfl rfl ((hk 42 rfl).trans rfl) c43 rfl
   ·intro ρz wz hz hk hd
    exact sk_gval (v := (pt G1 5)) (xr_fieldAddr (p := 1) (q := 4) rfl fl108_2 (hd 24 rfl rfl 46 rfl)) rfl rfl ((hk 42 rfl).trans rfl) c43 rfl
   intro ρz wz hz hk hd
   exact sk_gval (v := .int .i64 a0.Tickets.High) (xr_load1 (v := .int .i64 a0.Tickets.High) rfl ag3 (hd 25 rfl rfl 47 rfl) ((b2.gr hz).seg 5 rfl rfl)) rfl rfl ((hk 42 rfl).trans rfl) c43 rfl
  intro ρ50 w51 q52 hk hd
  have e1 := (hk 1 rfl).trans e1
  have e42 := (hk 42 rfl).trans rfl
  have e45 := hd 23 rfl rfl 45 rfl
  have e48 := hd 26 rfl rfl 48 rfl
  have b2 := b2.gr q52
  have fB := fB.gr q52
  refine rd_seq (m := 27) (n := 30) rfl ?_
  refine ol_gval (v := .bool (decide (a0.Tickets.Free > a0.Tickets.High))) (xr_gtr rfl e45 e48) rfl rfl rfl rfl e42 c43 ?_
  refine ol_val (v := .bool (decide (a0.Tickets.Free > a0.Tickets.High))) (xr_pickF rfl e42 c43 rfl) rfl rfl rfl ?_
  refine ol_val (v := .bool (decide (a0.Tickets.Free > a0.Tickets.High))) (xr_move rfl rfl) rfl rfl rfl ?_
  refine ol_nilK ?_
  rcases is j20 with ⟨c53, j20⟩ | ⟨c53, j20⟩
  ·skip
   refine rd_drawL 30 37 [fun vz _ => vz = undef, fun vz _ => vz = undef, fun vz _ => vz = undef, fun vz _ => vz = undef, fun vz _ => vz = undef, fun vz _ => vz = undef, fun vz _ => vz = undef] rfl ⟨fun _ _ _ h _ => h, fun _ _ _ h _ => h, fun _ _ _ h _ => h, fun _ _ _ h _ => h, fun _ _ _ h _ => h, fun _ _ _ h _ => h, fun _ _ _ h _ => h, trivial⟩ ?_ ?_
   ·refine ⟨?_, ?_, ?_, ?_, ?_, ?_, ?_, trivial⟩
    ·intro ρz wz hz hk hd
     exact sk_skip rfl rfl ((hk 51 rfl).trans rfl) c53 rfl
    ·intro ρz wz hz hk hd
     exact sk_skip rfl rfl ((hk 51 rfl).trans rfl) c53 rfl
    ·intro ρz wz hz hk hd
     exact sk_skip rfl rfl ((hk 51 rfl).trans rfl) c53 rfl
    ·intro ρz wz hz hk hd
     exact sk_skip rfl rfl ((hk 51 rfl).trans rfl) c53 rfl
    ·intro ρz wz hz hk hd
     exact sk_skip rfl rfl ((hk 51 rfl).trans rfl) c53 rfl
    ·intro ρz wz hz hk hd
     exact sk_skip rfl rfl ((hk 51 rfl).trans rfl) c53 rfl
    intro ρz wz hz hk hd
    exact sk_skip rfl rfl ((hk 51 rfl).trans rfl) c53 rfl
   intro ρ54 w55 q56 hk hd
   have e1 := (hk 1 rfl).trans e1
   have e51 := (hk 51 rfl).trans rfl
   have e54 := hd 32 rfl rfl 54 rfl
   have e58 := hd 36 rfl rfl 58 rfl
   have b2 := b2.gr q56
   have fB := fB.gr q56
   refine rd_seq (m := 37) (n := 39) rfl ?_
   refine ol_gskip rfl rfl rfl rfl e51 c53 ?_
   refine ol_val (v := .bool true) (xr_pickT rfl e51 c53 rfl) rfl rfl rfl ?_
   refine ol_nilK ?_
   refine rd_end rfl ?_
   obtain rfl := Option.some.inj j20
   refine thn_i ?_
   exact ⟨e1, rfl, (((q22.gr q35).gr q52).gr q56)⟩
  obtain ⟨t57, k58, j20⟩ := bs j20
  refine rd_drawL 30 37 [fun vz wz => vz = ((pt G1 8) : Value), fun vz wz => vz = (V0_0 : Value), fun vz wz => vz = (.int .i64 (List.length a0.Charts : Int) : Value), fun vz wz => vz = ((pt G1 1) : Value), fun vz wz => vz = ((pt G1 1) : Value), fun vz wz => vz = (aggV [(sI a0.Tickets.Geometry.Blocks), (sI a0.Tickets.Geometry.Slots), (sI a0.Tickets.Geometry.Gens)] : Value), fun vz wz => vz = (.int .i64 t57 : Value)] rfl ⟨fun _ _ _ h _ => h, fun _ _ _ h _ => h, fun _ _ _ h _ => h, fun _ _ _ h _ => h, fun _ _ _ h _ => h, fun _ _ _ h _ => h, fun _ _ _ h _ => h, trivial⟩ ?_ ?_
  ·refine ⟨?_, ?_, ?_, ?_, ?_, ?_, ?_, trivial⟩
   ·intro ρz wz hz hk hd
    exact sk_gval (v := (pt G1 8)) (xr_fieldAddr (p := 0) (q := 8) rfl fl110_3 ((hk 1 rfl).trans e1)) rfl rfl ((hk 51 rfl).trans rfl) c53 rfl
   ·intro ρz wz hz hk hd
    exact sk_gval (v := V0_0) (xr_load1 (v := V0_0) rfl ag25 (hd 30 rfl rfl 52 rfl) ((b2.gr hz).seg 8 rfl rfl)) rfl rfl ((hk 51 rfl).trans rfl) c53 rfl
   ·intro ρz wz hz hk hd
    exact sk_gval (v := .int .i64 (List.length a0.Charts : Int)) (xr_lenR rfl Try.underlying25 (hd 31 rfl rfl 53 rfl) (R0_0.gr (fB.gr hz))) rfl rfl ((hk 51 rfl).trans rfl) c53 rfl
   ·intro ρz wz hz hk hd
    exact sk_gval (v := (pt G1 1)) (xr_fieldAddr (p := 0) (q := 1) rfl fl110_1 ((hk 1 rfl).trans e1)) rfl rfl ((hk 51 rfl).trans rfl) c53 rfl
   ·intro ρz wz hz hk hd
    exact sk_gval (v := (pt G1 1)) (xr_fieldAddr (p := 1) (q := 0) rfl fl108_0 (hd 33 rfl rfl 55 rfl)) rfl rfl ((hk 51 rfl).trans rfl) c53 rfl
   ·intro ρz wz hz hk hd
    exact sk_gval (xr_loadS (ss := [(sI a0.Tickets.Geometry.Blocks), (sI a0.Tickets.Geometry.Slots), (sI a0.Tickets.Geometry.Gens)]) rfl ag106 sz106 rfl (hd 34 rfl rfl 56 rfl) ((b2.gr hz).segs 1 3 rfl)) rfl rfl ((hk 51 rfl).trans rfl) c53 rfl
   intro ρz wz hz hk hd
   refine sk_gop (opv_call rfl cal116 (ac (hd 35 rfl rfl 57 rfl) an) (rickyardref12_Charts.ok fu _ a0.Tickets.Geometry _ k58)) rfl rfl ((hk 51 rfl).trans rfl) c53 ?_
   rintro _ wy ⟨rfl, q59⟩
   exact ⟨rfl, q59⟩
  intro ρ60 w61 q62 hk hd
  have e1 := (hk 1 rfl).trans e1
  have e51 := (hk 51 rfl).trans rfl
  have e54 := hd 32 rfl rfl 54 rfl
  have e58 := hd 36 rfl rfl 58 rfl
  have b2 := b2.gr q62
  have fB := fB.gr q62
  refine rd_seq (m := 37) (n := 39) rfl ?_
  refine ol_gval (v := .bool (!decide ((List.length a0.Charts : Int) = t57))) (xr_neI rfl Try.underlying3 rfl e54 e58) rfl rfl rfl rfl e51 c53 ?_
  refine ol_val (v := .bool (!decide ((List.length a0.Charts : Int) = t57))) (xr_pickF rfl e51 c53 rfl) rfl rfl rfl ?_
  refine ol_nilK ?_
  refine rd_end rfl ?_
  obtain rfl := Option.some.inj j20
  refine thn_i ?_
  exact ⟨e1, rfl, (((q22.gr q35).gr q52).gr q62)⟩
 rintro ρ63 w64 ⟨e1, e60, q65⟩
 have b2 := b2.gr q65
 have fB := fB.gr q65
 rcases is h with ⟨c66, h⟩ | ⟨c66, h⟩
 ·refine cw_condT e60 c66 ?_
  refine cw_seq ?_
  refine cw_region ?_
  refine ol_val (v := .bool false) (xr_assign rfl rfl) rfl rfl rfl ?_
  refine ol_nil ?_
  refine cw_ret ?_
  repeat (first | with_reducible refine thn_r ?_ | with_reducible refine blk_r ?_)
  obtain rfl := Option.some.inj h
  refine fin_ret1 Try.results75 rfl ?_
  exact ⟨_, rfl, rfl, fB⟩
 refine cw_condF e60 c66 ?_
 refine cw_skip ?_
 refine cw_seq ?_
 refine cw_region ?_
 refine ol_val (v := .slice none 0 0) (xr_assign rfl rfl) rfl rfl rfl ?_
 refine ol_nil ?_
 refine cw_seq ?_
 refine cw_seq ?_
 refine cw_region ?_
 refine ol_val (v := (pt G1 1)) (xr_fieldAddr (p := 0) (q := 1) rfl fl110_1 e1) rfl rfl rfl ?_
 refine ol_val (v := (pt G1 5)) (xr_fieldAddr (p := 1) (q := 4) rfl fl108_2 rfl) rfl rfl rfl ?_
 refine ol_val (v := .int .i64 a0.Tickets.High) (xr_load1 (v := .int .i64 a0.Tickets.High) rfl ag3 rfl (b2.seg 5 rfl rfl)) rfl rfl rfl ?_
 refine ol_val (v := .bool (decide (a0.Tickets.High = 0))) (xr_eqI rfl Try.underlying3 rfl rfl rfl) rfl rfl rfl ?_
 refine ol_nil ?_
 obtain ⟨x67, j68, h69⟩ := bs h
 refine cw_mid (fun ρ' w' => ∃ x70, x67 = Sum.inr x70 ∧ ∃ v71 : Value, ∃ o72 : Own (kI .i64) 3 w' w.heap.size v71 x70, ρ' 1 = (pt G1 0) ∧ ρ' 3 = v71 ∧ Blk w' G1 110 [(sI a0.Epoch), (sI a0.Tickets.Geometry.Blocks), (sI a0.Tickets.Geometry.Slots), (sI a0.Tickets.Geometry.Gens), (sI a0.Tickets.Top), (sI a0.Tickets.High), (sI a0.Tickets.Free), (sI a0.Dir), Seg.cell V0_0 R0_0.one] ∧ Gr w w') ?_ ?_
 ·have h := j68
  rcases is h with ⟨c74, h⟩ | ⟨c74, h⟩
  ·refine cw_condT rfl c74 ?_
   refine cw_seq ?_
   refine cw_region ?_
   refine ol_val (v := (pt G1 1)) (xr_fieldAddr (p := 0) (q := 1) rfl fl110_1 e1) rfl rfl rfl ?_
   refine ol_val (v := (pt G1 4)) (xr_fieldAddr (p := 1) (q := 3) rfl fl108_1 rfl) rfl rfl rfl ?_
   refine ol_val (v := .int .i64 a0.Tickets.Top) (xr_load1 (v := .int .i64 a0.Tickets.Top) rfl ag3 rfl (b2.seg 4 rfl rfl)) rfl rfl rfl ?_
   refine ol_val (v := .bool (!decide (a0.Tickets.Top = 0))) (xr_neI rfl Try.underlying3 rfl rfl rfl) rfl rfl rfl ?_
   refine ol_nil ?_
   rcases is h with ⟨c75, h⟩ | ⟨c75, h⟩
   ·refine cw_condT rfl c75 ?_
    refine cw_seq ?_
    refine cw_region ?_
    refine ol_val (v := .bool false) (xr_assign rfl rfl) rfl rfl rfl ?_
    refine ol_nil ?_
    refine cw_ret ?_
    repeat (first | with_reducible refine thn_r ?_ | with_reducible refine blk_r ?_)
    obtain rfl := Option.some.inj h
    have h := h69
    obtain rfl := Option.some.inj h
    refine fin_ret1 Try.results75 rfl ?_
    exact ⟨_, rfl, rfl, fB⟩
   refine cw_condF rfl c75 ?_
   refine cw_skip ?_
   obtain rfl := Option.some.inj h
   refine thn_i ?_
   exact ⟨_, rfl, (.slice none 0 0), Own.nil _ _ _ _, e1, rfl, b2, fB⟩
  refine cw_condF rfl c74 ?_
  refine cw_region ?_
  refine ol_val (v := .slice none 0 0) (xr_move rfl rfl) rfl rfl rfl ?_
  refine ol_val (v := (pt G1 1)) (xr_fieldAddr (p := 0) (q := 1) rfl fl110_1 e1) rfl rfl rfl ?_
  refine ol_val (v := (pt G1 4)) (xr_fieldAddr (p := 1) (q := 3) rfl fl108_1 rfl) rfl rfl rfl ?_
  refine ol_val (v := .int .i64 a0.Tickets.Top) (xr_load1 (v := .int .i64 a0.Tickets.Top) rfl ag3 rfl (b2.seg 4 rfl rfl)) rfl rfl rfl ?_
  refine ol_op (opv_buildSlice (K := (kI .i64)) (xs := [a0.Tickets.Top]) (vals := [.int .i64 a0.Tickets.Top]) rfl Try.underlying25 el3 rfl rfl ⟨rfl, rfl, trivial⟩ rfl rfl rfl fB.size) rfl rfl rfl ?_
  rintro v76 w81 ⟨o78, q77, z79⟩
  have b2 := b2.gr q77
  have fB := fB.gr q77
  obtain ⟨g86, h⟩ := gs h
  have f88 := Off.nil G1
  have f89 := Own.geN w.heap.size
  refine ol_op (opv_append (K := (kI .i64)) rfl Try.underlying25 el3 rfl rfl rfl rfl rfl (Own.nil (kI .i64) 3 _ _) o78.rd g86 fB.size) rfl rfl rfl ?_
  rintro v82 w90 ⟨o83, q84, n85⟩
  have b2 := b2.wrO q84 f88
  have fB := fB.wrO q84 f89
  refine ol_val (v := v82) (xr_assign rfl rfl) rfl rfl rfl ?_
  refine ol_nil ?_
  obtain rfl := Option.some.inj h
  refine thn_i ?_
  exact ⟨_, rfl, v82, o83, e1, rfl, b2, fB⟩
 rintro ρ91 w92 ⟨x70, rfl, v71, o72, e1, e3, b2, fB⟩
 have h := h69
 refine cw_seq ?_
 refine cw_seq ?_
 refine cw_region ?_
 refine ol_val (v := (pt G1 7)) (xr_fieldAddr (p := 0) (q := 7) rfl fl110_2 e1) rfl rfl rfl ?_
 refine ol_val (v := .int .i64 a0.Dir) (xr_load1 (v := .int .i64 a0.Dir) rfl ag3 rfl (b2.seg 7 rfl rfl)) rfl rfl rfl ?_
 refine ol_val (v := .bool (!decide (a0.Dir = 0))) (xr_neI rfl Try.underlying3 rfl rfl rfl) rfl rfl rfl ?_
 refine ol_nil ?_
 obtain ⟨x93, j94, h95⟩ := bs h
 refine cw_mid (fun ρ' w' => ∃ v96 : Value, ∃ o97 : Own (kI .i64) 3 w' w.heap.size v96 x93, ρ' 1 = (pt G1 0) ∧ ρ' 3 = v96 ∧ Blk w' G1 110 [(sI a0.Epoch), (sI a0.Tickets.Geometry.Blocks), (sI a0.Tickets.Geometry.Slots), (sI a0.Tickets.Geometry.Gens), (sI a0.Tickets.Top), (sI a0.Tickets.High), (sI a0.Tickets.Free), (sI a0.Dir), Seg.cell V0_0 R0_0.one] ∧ Gr w w') ?_ ?_
 ·have h := j94
  rcases is h with ⟨c99, h⟩ | ⟨c99, h⟩
  ·refine cw_condT rfl c99 ?_
   refine cw_region ?_
   refine ol_val (v := v71) (xr_move rfl e3) rfl rfl rfl ?_
   refine ol_val (v := (pt G1 7)) (xr_fieldAddr (p := 0) (q := 7) rfl fl110_2 e1) rfl rfl rfl ?_
   refine ol_val (v := .int .i64 a0.Dir) (xr_load1 (v := .int .i64 a0.Dir) rfl ag3 rfl (b2.seg 7 rfl rfl)) rfl rfl rfl ?_
   refine ol_op (opv_buildSlice (K := (kI .i64)) (xs := [a0.Dir]) (vals := [.int .i64 a0.Dir]) rfl Try.underlying25 el3 rfl rfl ⟨rfl, rfl, trivial⟩ rfl rfl rfl fB.size) rfl rfl rfl ?_
   rintro v100 w105 ⟨o102, q101, z103⟩
   have a106 := OffV.new o72 z103
   have b2 := b2.gr q101
   have o72 := o72.gr q101
   have fB := fB.gr q101
   obtain ⟨g111, h⟩ := gs h
   have f113 := off_ty b2 o72 (by decide)
   have f114 := o72.geO
   refine ol_op (opv_append (K := (kI .i64)) rfl Try.underlying25 el3 rfl rfl rfl rfl rfl o72 o102.rd g111 fB.size) rfl rfl rfl ?_
   rintro v107 w115 ⟨o108, q109, n110⟩
   have b2 := b2.wrO q109 f113
   have fB := fB.wrO q109 f114
   refine ol_val (v := v107) (xr_assign rfl rfl) rfl rfl rfl ?_
   refine ol_nil ?_
   obtain rfl := Option.some.inj h
   refine thn_i ?_
   exact ⟨v107, o108, e1, rfl, b2, fB⟩
  refine cw_condF rfl c99 ?_
  refine cw_skip ?_
  obtain rfl := Option.some.inj h
  refine thn_i ?_
  exact ⟨v71, o72, e1, e3, b2, fB⟩
 rintro ρ116 w117 ⟨v96, o97, e1, e3, b2, fB⟩
 have h := h95
 refine cw_seq ?_
 refine cw_seq ?_
 refine cw_region ?_
 refine ol_val (v := .int .i64 0) (xr_assign rfl rfl) rfl rfl rfl ?_
 refine ol_nil ?_
 obtain ⟨e119, l120, h121⟩ := bs h
 refine cw_mid (fun ρ' w' => ∃ x122, e119 = Sum.inr x122 ∧ ∃ v123 : Value, ∃ o124 : Own (kI .i64) 3 w' w.heap.size v123 x122, ρ' 1 = (pt G1 0) ∧ ρ' 3 = v123 ∧ Blk w' G1 110 [(sI a0.Epoch), (sI a0.Tickets.Geometry.Blocks), (sI a0.Tickets.Geometry.Slots), (sI a0.Tickets.Geometry.Gens), (sI a0.Tickets.Top), (sI a0.Tickets.High), (sI a0.Tickets.Free), (sI a0.Dir), Seg.cell V0_0 R0_0.one] ∧ Gr w w') ?_ ?_
 ·refine cw_block ?_
  refine cw_round (fun (s118 : (List Int) × Int) ρ' w' => ∃ v126 : Value, ∃ o127 : Own (kI .i64) 3 w' w.heap.size v126 s118.1, ρ' 1 = (pt G1 0) ∧ ρ' 3 = v126 ∧ ρ' 4 = .int .i64 s118.2 ∧ Blk w' G1 110 [(sI a0.Epoch), (sI a0.Tickets.Geometry.Blocks), (sI a0.Tickets.Geometry.Slots), (sI a0.Tickets.Geometry.Gens), (sI a0.Tickets.Top), (sI a0.Tickets.High), (sI a0.Tickets.Free), (sI a0.Dir), Seg.cell V0_0 R0_0.one] ∧ Gr w w') l120 ?_ ?_
  ·skip
   exact ⟨v96, o97, e1, e3, rfl, b2, fB⟩
  rintro s118 x131 ρ129 w130 ⟨v126, o127, e1, e3, e4, b2, fB⟩ h
  unfold rickyardref13_Right.s1 at h
  refine cw_seq ?_
  refine cw_seq ?_
  refine cw_region ?_
  refine ol_val (v := .int .i64 s118.2) (xr_move rfl e4) rfl rfl rfl ?_
  refine ol_val (v := (pt G1 8)) (xr_fieldAddr (p := 0) (q := 8) rfl fl110_3 e1) rfl rfl rfl ?_
  refine ol_val (v := V0_0) (xr_load1 (v := V0_0) rfl ag25 rfl (b2.seg 8 rfl rfl)) rfl rfl rfl ?_
  refine ol_val (v := .int .i64 (List.length a0.Charts : Int)) (xr_lenR rfl Try.underlying25 rfl (R0_0.gr fB)) rfl rfl rfl ?_
  refine ol_val (v := .bool (decide (s118.2 < (List.length a0.Charts : Int)))) (xr_lss rfl rfl rfl) rfl rfl rfl ?_
  refine ol_nil ?_
  rcases is h with ⟨c132, h⟩ | ⟨c132, h⟩
  ·refine cw_condT rfl c132 ?_
   refine cw_skip ?_
   refine cw_seq ?_
   refine cw_block ?_
   refine cw_seq ?_
   refine cw_region ?_
   refine ol_val (v := v126) (xr_move rfl e3) rfl rfl rfl ?_
   refine ol_val (v := (pt G1 8)) (xr_fieldAddr (p := 0) (q := 8) rfl fl110_3 e1) rfl rfl rfl ?_
   refine ol_val (v := V0_0) (xr_load1 (v := V0_0) rfl ag25 rfl (b2.seg 8 rfl rfl)) rfl rfl rfl ?_
   refine ol_val (v := .int .i64 s118.2) (xr_move rfl e4) rfl rfl rfl ?_
   obtain ⟨g133, h⟩ := gs h
   refine ol_val (v := (pt ((sb V0_0)) (so V0_0 + Int.toNat s118.2 * 1))) (xr_indexR (K := (kI .i64)) (v := V0_0) rfl Try.underlying25 sz3 rfl (R0_0.gr fB) rfl g133.1 g133.2) rfl rfl rfl ?_
   refine ol_val (v := .int .i64 (ix a0.Charts s118.2)) (xr_load1 (v := .int .i64 (ix a0.Charts s118.2)) rfl ag3 rfl ((R0_0.gr fB).elem g133.1 g133.2)) rfl rfl rfl ?_
   refine ol_op (opv_buildSlice (K := (kI .i64)) (xs := [(ix a0.Charts s118.2)]) (vals := [.int .i64 (ix a0.Charts s118.2)]) rfl Try.underlying25 el3 rfl rfl ⟨rfl, rfl, trivial⟩ rfl rfl rfl fB.size) rfl rfl rfl ?_
   rintro v134 w139 ⟨o136, q135, z137⟩
   have a140 := OffV.new o127 z137
   have b2 := b2.gr q135
   have o127 := o127.gr q135
   have fB := fB.gr q135
   obtain ⟨g145, h⟩ := gs h
   have f147 := off_ty b2 o127 (by decide)
   have f148 := o127.geO
   refine ol_op (opv_append (K := (kI .i64)) rfl Try.underlying25 el3 rfl rfl rfl rfl rfl o127 o136.rd g145 fB.size) rfl rfl rfl ?_
   rintro v141 w149 ⟨o142, q143, n144⟩
   have b2 := b2.wrO q143 f147
   have fB := fB.wrO q143 f148
   refine ol_val (v := v141) (xr_assign rfl rfl) rfl rfl rfl ?_
   refine ol_nil ?_
   refine cw_seq ?_
   refine cw_region ?_
   refine ol_val (v := .int .i64 0) (xr_assign rfl rfl) rfl rfl rfl ?_
   refine ol_nil ?_
   obtain ⟨e151, l152, h153⟩ := bs h
   refine cw_mid (fun ρ' w' => ∃ x154, e151 = Sum.inr x154 ∧ ∃ o142 : Own (kI .i64) 3 w' w.heap.size v141 (s118.1 ++ [(ix a0.Charts s118.2)]), ρ' 1 = (pt G1 0) ∧ ρ' 3 = v141 ∧ ρ' 4 = .int .i64 s118.2 ∧ Blk w' G1 110 [(sI a0.Epoch), (sI a0.Tickets.Geometry.Blocks), (sI a0.Tickets.Geometry.Slots), (sI a0.Tickets.Geometry.Gens), (sI a0.Tickets.Top), (sI a0.Tickets.High), (sI a0.Tickets.Free), (sI a0.Dir), Seg.cell V0_0 R0_0.one] ∧ Gr w w') ?_ ?_
   ·refine cw_block ?_
    refine cw_round (fun (s150 : Int) ρ' w' => ∃ o142 : Own (kI .i64) 3 w' w.heap.size v141 (s118.1 ++ [(ix a0.Charts s118.2)]), ρ' 1 = (pt G1 0) ∧ ρ' 3 = v141 ∧ ρ' 4 = .int .i64 s118.2 ∧ ρ' 5 = .int .i64 s150 ∧ Blk w' G1 110 [(sI a0.Epoch), (sI a0.Tickets.Geometry.Blocks), (sI a0.Tickets.Geometry.Slots), (sI a0.Tickets.Geometry.Gens), (sI a0.Tickets.Top), (sI a0.Tickets.High), (sI a0.Tickets.Free), (sI a0.Dir), Seg.cell V0_0 R0_0.one] ∧ Gr w w') l152 ?_ ?_
    ·skip
     exact ⟨o142, e1, rfl, e4, rfl, b2, fB⟩
    rintro s150 x157 ρ155 w156 ⟨o142, e1, e3, e4, e5, b2, fB⟩ h
    unfold rickyardref13_Right.s2 at h
    refine cw_seq ?_
    refine cw_seq ?_
    refine cw_region ?_
    refine ol_val (v := .int .i64 s150) (xr_move rfl e5) rfl rfl rfl ?_
    refine ol_val (v := .int .i64 s118.2) (xr_move rfl e4) rfl rfl rfl ?_
    refine ol_val (v := .bool (decide (s150 < s118.2))) (xr_lss rfl rfl rfl) rfl rfl rfl ?_
    refine ol_nil ?_
    rcases is h with ⟨c158, h⟩ | ⟨c158, h⟩
    ·refine cw_condT rfl c158 ?_
     refine cw_skip ?_
     refine cw_seq ?_
     refine cw_block ?_
     refine cw_seq ?_
     obtain ⟨g159, h⟩ := gs h
     obtain ⟨g160, h⟩ := gs h
     refine cw_drawL 10 [fun vz wz => vz = ((pt G1 8) : Value), fun vz wz => vz = (V0_0 : Value), fun vz wz => vz = (.int .i64 s150 : Value), fun vz wz => vz = ((pt ((sb V0_0)) (so V0_0 + Int.toNat s150 * 1)) : Value), fun vz wz => vz = (.int .i64 (ix a0.Charts s150) : Value), fun vz wz => vz = ((pt G1 8) : Value), fun vz wz => vz = (V0_0 : Value), fun vz wz => vz = (.int .i64 s118.2 : Value), fun vz wz => vz = ((pt ((sb V0_0)) (so V0_0 + Int.toNat s118.2 * 1)) : Value), fun vz wz => vz = (.int .i64 (ix a0.Charts s118.2) : Value)] mo rfl ⟨fun _ _ _ h _ => h, fun _ _ _ h _ => h, fun _ _ _ h _ => h, fun _ _ _ h _ => h, fun _ _ _ h _ => h, fun _ _ _ h _ => h, fun _ _ _ h _ => h, fun _ _ _ h _ => h, fun _ _ _ h _ => h, fun _ _ _ h _ => h, trivial⟩ ?_ ?_
     ·refine ⟨?_, ?_, ?_, ?_, ?_, ?_, ?_, ?_, ?_, ?_, trivial⟩
      ·intro ρz wz hz hk hd
       exact sk_val (v := (pt G1 8)) (xr_fieldAddr (p := 0) (q := 8) rfl fl110_3 ((hk 1 rfl).trans e1)) rfl rfl
      ·intro ρz wz hz hk hd
       exact sk_val (v := V0_0) (xr_load1 (v := V0_0) rfl ag25 (hd 0 rfl 103 rfl) ((b2.gr hz).seg 8 rfl rfl)) rfl rfl
      ·intro ρz wz hz hk hd
       exact sk_val (v := .int .i64 s150) (xr_move rfl ((hk 5 rfl).trans e5)) rfl rfl
      ·intro ρz wz hz hk hd
       exact sk_val (xr_indexR (K := (kI .i64)) (v := V0_0) rfl Try.underlying25 sz3 (hd 1 rfl 104 rfl) (R0_0.gr (fB.gr hz)) (hd 2 rfl 105 rfl) g159.1 g159.2) rfl rfl
      ·intro ρz wz hz hk hd
       exact sk_val (v := .int .i64 (ix a0.Charts s150)) (xr_load1 (v := .int .i64 (ix a0.Charts s150)) rfl ag3 (hd 3 rfl 106 rfl) ((R0_0.gr (fB.gr hz)).elem g159.1 g159.2)) rfl rfl
      ·intro ρz wz hz hk hd
       exact sk_val (v := (pt G1 8)) (xr_fieldAddr (p := 0) (q := 8) rfl fl110_3 ((hk 1 rfl).trans e1)) rfl rfl
      ·intro ρz wz hz hk hd
       exact sk_val (v := V0_0) (xr_load1 (v := V0_0) rfl ag25 (hd 5 rfl 108 rfl) ((b2.gr hz).seg 8 rfl rfl)) rfl rfl
      ·intro ρz wz hz hk hd
       exact sk_val (v := .int .i64 s118.2) (xr_move rfl ((hk 4 rfl).trans e4)) rfl rfl
      ·intro ρz wz hz hk hd
       exact sk_val (xr_indexR (K := (kI .i64)) (v := V0_0) rfl Try.underlying25 sz3 (hd 6 rfl 109 rfl) (R0_0.gr (fB.gr hz)) (hd 7 rfl 110 rfl) g160.1 g160.2) rfl rfl
      intro ρz wz hz hk hd
      exact sk_val (v := .int .i64 (ix a0.Charts s118.2)) (xr_load1 (v := .int .i64 (ix a0.Charts s118.2)) rfl ag3 (hd 8 rfl 111 rfl) ((R0_0.gr (fB.gr hz)).elem g160.1 g160.2)) rfl rfl
     intro ρ161 w162 q163 hk hd
     have e1 := (hk 1 rfl).trans e1
     have e3 := (hk 3 rfl).trans e3
     have e4 := (hk 4 rfl).trans e4
     have e5 := (hk 5 rfl).trans e5
     have e107 := hd 4 rfl 107 rfl
     have e112 := hd 9 rfl 112 rfl
     have b2 := b2.gr q163
     have o142 := o142.gr q163
     have fB := fB.gr q163
     refine ol_val (v := .bool (decide ((ix a0.Charts s150) = (ix a0.Charts s118.2)))) (xr_eqI rfl Try.underlying3 rfl e107 e112) rfl rfl rfl ?_
     refine ol_nil ?_
     rcases is h with ⟨c164, h⟩ | ⟨c164, h⟩
     ·refine cw_condT rfl c164 ?_
      refine cw_seq ?_
      refine cw_region ?_
      refine ol_val (v := .bool false) (xr_assign rfl rfl) rfl rfl rfl ?_
      refine ol_nil ?_
      refine cw_ret ?_
      repeat (first | with_reducible refine thn_r ?_ | with_reducible refine blk_r ?_)
      obtain rfl := Option.some.inj h
      refine lp_ret ?_
      rintro rfl
      repeat (first | with_reducible refine thn_r ?_ | with_reducible refine blk_r ?_)
      have h := h153
      obtain rfl := Option.some.inj h
      refine lp_ret ?_
      rintro rfl
      repeat (first | with_reducible refine thn_r ?_ | with_reducible refine blk_r ?_)
      have h := h121
      obtain rfl := Option.some.inj h
      refine fin_ret1 Try.results75 rfl ?_
      exact ⟨_, rfl, rfl, fB⟩
     refine cw_condF rfl c164 ?_
     refine cw_skip ?_
     refine blk_i ?_
     refine cw_region ?_
     refine ol_val (v := .int .i64 s150) (xr_move rfl e5) rfl rfl rfl ?_
     refine ol_val (v := .int .i64 (IntKind.i64.wrap (s150 + 1))) (xr_add rfl rfl rfl) rfl rfl rfl ?_
     refine ol_val (v := .int .i64 (IntKind.i64.wrap (s150 + 1))) (xr_assign rfl rfl) rfl rfl rfl ?_
     refine ol_nil ?_
     obtain rfl := Option.some.inj h
     refine lp_in ?_
     exact ⟨o142, e1, e3, e4, rfl, b2, fB⟩
    refine cw_condF rfl c158 ?_
    refine cw_exit ?_
    repeat (first | with_reducible refine thn_e ?_ | with_reducible refine blk_e rfl ?_)
    obtain rfl := Option.some.inj h
    refine lp_exit ?_
    rintro rfl
    refine thn_x ?_
    exact ⟨_, rfl, o142, e1, e3, e4, b2, fB⟩
   rintro ρ165 w166 ⟨x154, rfl, o142, e1, e3, e4, b2, fB⟩
   have h := h153
   refine blk_i ?_
   refine cw_region ?_
   refine ol_val (v := .int .i64 s118.2) (xr_move rfl e4) rfl rfl rfl ?_
   refine ol_val (v := .int .i64 (IntKind.i64.wrap (s118.2 + 1))) (xr_add rfl rfl rfl) rfl rfl rfl ?_
   refine ol_val (v := .int .i64 (IntKind.i64.wrap (s118.2 + 1))) (xr_assign rfl rfl) rfl rfl rfl ?_
   refine ol_nil ?_
   obtain rfl := Option.some.inj h
   refine lp_in ?_
   exact ⟨v141, o142, e1, e3, rfl, b2, fB⟩
  refine cw_condF rfl c132 ?_
  refine cw_exit ?_
  repeat (first | with_reducible refine thn_e ?_ | with_reducible refine blk_e rfl ?_)
  obtain rfl := Option.some.inj h
  refine lp_exit ?_
  rintro rfl
  refine thn_x ?_
  exact ⟨_, rfl, v126, o127, e1, e3, b2, fB⟩
 rintro ρ167 w168 ⟨x122, rfl, v123, o124, e1, e3, b2, fB⟩
 have h := h121
 refine cw_seq ?_
 refine cw_seq ?_
 refine cw_region ?_
 refine ol_val (v := .int .i64 0) (xr_assign rfl rfl) rfl rfl rfl ?_
 refine ol_nil ?_
 obtain ⟨e170, l171, h172⟩ := bs h
 refine cw_mid (fun ρ' w' => ∃ x173, e170 = Sum.inr x173 ∧ Gr w w') ?_ ?_
 ·refine cw_block ?_
  refine cw_round (fun (s169 : Int) ρ' w' => ∃ o124 : Own (kI .i64) 3 w' w.heap.size v123 x122, ρ' 1 = (pt G1 0) ∧ ρ' 3 = v123 ∧ ρ' 6 = .int .i64 s169 ∧ Blk w' G1 110 [(sI a0.Epoch), (sI a0.Tickets.Geometry.Blocks), (sI a0.Tickets.Geometry.Slots), (sI a0.Tickets.Geometry.Gens), (sI a0.Tickets.Top), (sI a0.Tickets.High), (sI a0.Tickets.Free), (sI a0.Dir), Seg.cell V0_0 R0_0.one] ∧ Gr w w') l171 ?_ ?_
  ·skip
   exact ⟨o124, e1, e3, rfl, b2, fB⟩
  rintro s169 x176 ρ174 w175 ⟨o124, e1, e3, e6, b2, fB⟩ h
  unfold rickyardref13_Right.s3 at h
  refine cw_seq ?_
  refine cw_seq ?_
  refine cw_region ?_
  refine ol_val (v := .int .i64 s169) (xr_move rfl e6) rfl rfl rfl ?_
  refine ol_val (v := v123) (xr_move rfl e3) rfl rfl rfl ?_
  refine ol_val (v := .int .i64 (List.length x122 : Int)) (xr_lenR rfl Try.underlying25 rfl o124.rd) rfl rfl rfl ?_
  refine ol_val (v := .bool (decide (s169 < (List.length x122 : Int)))) (xr_lss rfl rfl rfl) rfl rfl rfl ?_
  refine ol_nil ?_
  rcases is h with ⟨c177, h⟩ | ⟨c177, h⟩
  ·refine cw_condT rfl c177 ?_
   refine cw_skip ?_
   refine cw_seq ?_
   refine cw_block ?_
   refine cw_seq ?_
   obtain ⟨x178, j179, h⟩ := bs h
   refine cw_mid (fun ρ' w' => ρ' 1 = (pt G1 0) ∧ ρ' 3 = v123 ∧ ρ' 6 = .int .i64 s169 ∧ ρ' 135 = .bool x178 ∧ Gr w175 w') ?_ ?_
   ·skip
    refine rd_region mo ?_
    intro w180 q181
    have b2 := b2.gr q181
    have o124 := o124.gr q181
    have fB := fB.gr q181
    refine rd_drawL 0 2 [fun vz wz => vz = (v123 : Value), fun vz wz => vz = (.int .i64 s169 : Value)] rfl ⟨fun _ _ _ h _ => h, fun _ _ _ h _ => h, trivial⟩ ?_ ?_
    ·refine ⟨?_, ?_, trivial⟩
     ·intro ρz wz hz hk hd
      exact sk_val (v := v123) (xr_move rfl ((hk 3 rfl).trans e3)) rfl rfl
     intro ρz wz hz hk hd
     exact sk_val (v := .int .i64 s169) (xr_move rfl ((hk 6 rfl).trans e6)) rfl rfl
    intro ρ182 w183 q184 hk hd
    have e1 := (hk 1 rfl).trans e1
    have e3 := (hk 3 rfl).trans e3
    have e6 := (hk 6 rfl).trans e6
    have e120 := hd 0 rfl rfl 120 rfl
    have e121 := hd 1 rfl rfl 121 rfl
    have b2 := b2.gr q184
    have o124 := o124.gr q184
    have fB := fB.gr q184
    refine rd_seq (m := 2) (n := 6) rfl ?_
    obtain ⟨g185, j179⟩ := gs j179
    refine ol_val (v := (pt ((sb v123)) (so v123 + Int.toNat s169 * 1))) (xr_indexR (K := (kI .i64)) (v := v123) rfl Try.underlying25 sz3 e120 o124.rd e121 g185.1 g185.2) rfl rfl rfl ?_
    refine ol_val (v := .int .i64 (ix x122 s169)) (xr_load1 (v := .int .i64 (ix x122 s169)) rfl ag3 rfl (o124.rd.elem g185.1 g185.2)) rfl rfl rfl ?_
    refine ol_val (v := .bool (decide ((ix x122 s169) < 2))) (xr_lss rfl rfl rfl) rfl rfl rfl ?_
    refine ol_val (v := .bool (decide ((ix x122 s169) < 2))) (xr_move rfl rfl) rfl rfl rfl ?_
    refine ol_nilK ?_
    rcases is j179 with ⟨c186, j179⟩ | ⟨c186, j179⟩
    ·skip
     refine rd_drawL 6 14 [fun vz _ => vz = undef, fun vz _ => vz = undef, fun vz _ => vz = undef, fun vz _ => vz = undef, fun vz _ => vz = undef, fun vz _ => vz = undef, fun vz _ => vz = undef, fun vz _ => vz = undef] rfl ⟨fun _ _ _ h _ => h, fun _ _ _ h _ => h, fun _ _ _ h _ => h, fun _ _ _ h _ => h, fun _ _ _ h _ => h, fun _ _ _ h _ => h, fun _ _ _ h _ => h, fun _ _ _ h _ => h, trivial⟩ ?_ ?_
     ·refine ⟨?_, ?_, ?_, ?_, ?_, ?_, ?_, ?_, trivial⟩
      ·intro ρz wz hz hk hd
       exact sk_skip rfl rfl ((hk 125 rfl).trans rfl) c186 rfl
      ·intro ρz wz hz hk hd
       exact sk_skip rfl rfl ((hk 125 rfl).trans rfl) c186 rfl
      ·intro ρz wz hz hk hd
       exact sk_skip rfl rfl ((hk 125 rfl).trans rfl) c186 rfl
      ·intro ρz wz hz hk hd
       exact sk_skip rfl rfl ((hk 125 rfl).trans rfl) c186 rfl
      ·intro ρz wz hz hk hd
       exact sk_skip rfl rfl ((hk 125 rfl).trans rfl) c186 rfl
      ·intro ρz wz hz hk hd
       exact sk_skip rfl rfl ((hk 125 rfl).trans rfl) c186 rfl
      ·intro ρz wz hz hk hd
       exact sk_skip rfl rfl ((hk 125 rfl).trans rfl) c186 rfl
      intro ρz wz hz hk hd
      exact sk_skip rfl rfl ((hk 125 rfl).trans rfl) c186 rfl
     intro ρ187 w188 q189 hk hd
     have e1 := (hk 1 rfl).trans e1
     have e3 := (hk 3 rfl).trans e3
     have e6 := (hk 6 rfl).trans e6
     have e125 := (hk 125 rfl).trans rfl
     have e126 := hd 6 rfl rfl 126 rfl
     have e127 := hd 7 rfl rfl 127 rfl
     have e128 := hd 8 rfl rfl 128 rfl
     have e129 := hd 9 rfl rfl 129 rfl
     have e130 := hd 10 rfl rfl 130 rfl
     have e131 := hd 11 rfl rfl 131 rfl
     have e132 := hd 12 rfl rfl 132 rfl
     have e133 := hd 13 rfl rfl 133 rfl
     have b2 := b2.gr q189
     have o124 := o124.gr q189
     have fB := fB.gr q189
     refine rd_seq (m := 14) (n := 16) rfl ?_
     refine ol_gskip rfl rfl rfl rfl e125 c186 ?_
     refine ol_val (v := .bool true) (xr_pickT rfl e125 c186 rfl) rfl rfl rfl ?_
     refine ol_nilK ?_
     refine rd_end rfl ?_
     obtain rfl := Option.some.inj j179
     refine thn_i ?_
     exact ⟨e1, e3, e6, rfl, ((q181.gr q184).gr q189)⟩
    obtain ⟨g190, j179⟩ := gs j179
    refine rd_drawL 6 14 [fun vz wz => vz = (v123 : Value), fun vz wz => vz = (.int .i64 s169 : Value), fun vz wz => vz = ((pt ((sb v123)) (so v123 + Int.toNat s169 * 1)) : Value), fun vz wz => vz = (.int .i64 (ix x122 s169) : Value), fun vz wz => vz = ((pt G1 1) : Value), fun vz wz => vz = ((pt G1 1) : Value), fun vz wz => vz = ((pt G1 1) : Value), fun vz wz => vz = (.int .i64 a0.Tickets.Geometry.Blocks : Value)] rfl ⟨fun _ _ _ h _ => h, fun _ _ _ h _ => h, fun _ _ _ h _ => h, fun _ _ _ h _ => h, fun _ _ _ h _ => h, fun _ _ _ h _ => h, fun _ _ _ h _ => h, fun _ _ _ h _ => h, trivial⟩ ?_ ?_
    ·refine ⟨?_, ?_, ?_, ?_, ?_, ?_, ?_, ?_, trivial⟩
     ·intro ρz wz hz hk hd
      exact sk_gval (v := v123) (xr_move rfl ((hk 3 rfl).trans e3)) rfl rfl ((hk 125 rfl).trans rfl) c186 rfl
     ·intro ρz wz hz hk hd
      exact sk_gval (v := .int .i64 s169) (xr_move rfl ((hk 6 rfl).trans e6)) rfl rfl ((hk 125 rfl).trans rfl) c186 rfl
     ·intro ρz wz hz hk hd
      exact sk_gval (xr_indexR (K := (kI .i64)) (v := v123) rfl Try.underlying25 sz3 (hd 6 rfl rfl 126 rfl) (o124.gr hz).rd (hd 7 rfl rfl 127 rfl) g190.1 g190.2) rfl rfl ((hk 125 rfl).trans rfl) c186 rfl
     ·intro ρz wz hz hk hd
      exact sk_gval (v := .int .i64 (ix x122 s169)) (xr_load1 (v := .int .i64 (ix x122 s169)) rfl ag3 (hd 8 rfl rfl 128 rfl) ((o124.gr hz).rd.elem g190.1 g190.2)) rfl rfl ((hk 125 rfl).trans rfl) c186 rfl
     ·intro ρz wz hz hk hd
      exact sk_gval (v := (pt G1 1)) (xr_fieldAddr (p := 0) (q := 1) rfl fl110_1 ((hk 1 rfl).trans e1)) rfl rfl ((hk 125 rfl).trans rfl) c186 rfl
     ·intro ρz wz hz hk hd
      exact sk_gval (v := (pt G1 1)) (xr_fieldAddr (p := 1) (q := 0) rfl fl108_0 (hd 10 rfl rfl 130 rfl)) rfl rfl ((hk 125 rfl).trans rfl) c186 rfl
     ·intro ρz wz hz hk hd
      exact sk_gval (v := (pt G1 1)) (xr_fieldAddr (p := 1) (q := 0) rfl fl106_0 (hd 11 rfl rfl 131 rfl)) rfl rfl ((hk 125 rfl).trans rfl) c186 rfl
     intro ρz wz hz hk hd
     exact sk_gval (v := .int .i64 a0.Tickets.Geometry.Blocks) (xr_load1 (v := .int .i64 a0.Tickets.Geometry.Blocks) rfl ag3 (hd 12 rfl rfl 132 rfl) ((b2.gr hz).seg 1 rfl rfl)) rfl rfl ((hk 125 rfl).trans rfl) c186 rfl
    intro ρ191 w192 q193 hk hd
    have e1 := (hk 1 rfl).trans e1
    have e3 := (hk 3 rfl).trans e3
    have e6 := (hk 6 rfl).trans e6
    have e125 := (hk 125 rfl).trans rfl
    have e126 := hd 6 rfl rfl 126 rfl
    have e127 := hd 7 rfl rfl 127 rfl
    have e128 := hd 8 rfl rfl 128 rfl
    have e129 := hd 9 rfl rfl 129 rfl
    have e130 := hd 10 rfl rfl 130 rfl
    have e131 := hd 11 rfl rfl 131 rfl
    have e132 := hd 12 rfl rfl 132 rfl
    have e133 := hd 13 rfl rfl 133 rfl
    have b2 := b2.gr q193
    have o124 := o124.gr q193
    have fB := fB.gr q193
    refine rd_seq (m := 14) (n := 16) rfl ?_
    refine ol_gval (v := .bool (decide ((ix x122 s169) ≥ a0.Tickets.Geometry.Blocks))) (xr_geq rfl e129 e133) rfl rfl rfl rfl e125 c186 ?_
    refine ol_val (v := .bool (decide ((ix x122 s169) ≥ a0.Tickets.Geometry.Blocks))) (xr_pickF rfl e125 c186 rfl) rfl rfl rfl ?_
    refine ol_nilK ?_
    refine rd_end rfl ?_
    obtain rfl := Option.some.inj j179
    refine thn_i ?_
    exact ⟨e1, e3, e6, rfl, ((q181.gr q184).gr q193)⟩
   rintro ρ194 w195 ⟨e1, e3, e6, e135, q196⟩
   have b2 := b2.gr q196
   have o124 := o124.gr q196
   have fB := fB.gr q196
   rcases is h with ⟨c197, h⟩ | ⟨c197, h⟩
   ·refine cw_condT e135 c197 ?_
    refine cw_seq ?_
    refine cw_region ?_
    refine ol_val (v := .bool false) (xr_assign rfl rfl) rfl rfl rfl ?_
    refine ol_nil ?_
    refine cw_ret ?_
    repeat (first | with_reducible refine thn_r ?_ | with_reducible refine blk_r ?_)
    obtain rfl := Option.some.inj h
    refine lp_ret ?_
    rintro rfl
    repeat (first | with_reducible refine thn_r ?_ | with_reducible refine blk_r ?_)
    have h := h172
    obtain rfl := Option.some.inj h
    refine fin_ret1 Try.results75 rfl ?_
    exact ⟨_, rfl, rfl, fB⟩
   refine cw_condF e135 c197 ?_
   refine cw_skip ?_
   refine blk_i ?_
   refine cw_region ?_
   refine ol_val (v := .int .i64 s169) (xr_move rfl e6) rfl rfl rfl ?_
   refine ol_val (v := .int .i64 (IntKind.i64.wrap (s169 + 1))) (xr_add rfl rfl rfl) rfl rfl rfl ?_
   refine ol_val (v := .int .i64 (IntKind.i64.wrap (s169 + 1))) (xr_assign rfl rfl) rfl rfl rfl ?_
   refine ol_nil ?_
   obtain rfl := Option.some.inj h
   refine lp_in ?_
   exact ⟨o124, e1, e3, rfl, b2, fB⟩
  refine cw_condF rfl c177 ?_
  refine cw_exit ?_
  repeat (first | with_reducible refine thn_e ?_ | with_reducible refine blk_e rfl ?_)
  obtain rfl := Option.some.inj h
  refine lp_exit ?_
  rintro rfl
  refine thn_x ?_
  exact ⟨_, rfl, fB⟩
 rintro ρ198 w199 ⟨x173, rfl, fB⟩
 have h := h172
 refine cw_seq ?_
 refine cw_region ?_
 refine ol_val (v := .bool true) (xr_assign rfl rfl) rfl rfl rfl ?_
 refine ol_nil ?_
 refine cw_ret ?_
 repeat (first | with_reducible refine thn_r ?_ | with_reducible refine blk_r ?_)
 obtain rfl := Option.some.inj h
 refine fin_ret1 Try.results75 rfl ?_
 exact ⟨_, rfl, rfl, fB⟩
def rickyardref01_Octet.s0 (fu : Nat) (a1 : Int) : (Int × Int) → Option (Sum Int (Int × Int)) := fun s1 => (if (decide (s1.2 < a1)) = true then some (Sum.inr ((IntKind.u64.wrap (Int.tdiv s1.1 256)), (IntKind.i64.wrap (s1.2 + 1)))) else some (Sum.inl (s1.1)))
def rickyardref01_Octet.f (fu : Nat) (a0 : Int) (a1 : Int) : Option Int := ((loopM (rickyardref01_Octet.s0 fu a1) fu (a0, 0)).bind fun e2 => some ((IntKind.u8.wrap (Int.tmod e2 256))))
theorem rickyardref01_Octet.ok (fu : Nat) (w : World) (a0 : Int) (a1 : Int) (r : Int) (h : rickyardref01_Octet.f fu a0 a1 = some r) :
  Calls Try.prog 137 (([.int .u64 a0, .int .i64 a1] : List Value).toArray) w (fun e w' => ∃ v, e = .returned v ∧ v = .int .u8 r ∧ Gr w w') := by
 unfold rickyardref01_Octet.f at h
 have fB : Gr w w := Fr.refl _ _
 refine calls_cw Try.func137 rfl Try.ntmps137 rfl ?_
 refine cw_seq ?_
 refine cw_region ?_
 refine ol_val (v := .int .u8 0) (xr_assign rfl rfl) rfl rfl rfl ?_
 refine ol_nil ?_
 refine cw_seq ?_
 refine cw_seq ?_
 refine cw_region ?_
 refine ol_val (v := .int .i64 0) (xr_assign rfl rfl) rfl rfl rfl ?_
 refine ol_nil ?_
 obtain ⟨e2, l3, h4⟩ := bs h
 refine cw_mid (fun ρ' w' => ρ' 0 = .int .u64 e2 ∧ Gr w w') ?_ ?_
 ·refine cw_block ?_
  refine cw_round (fun (s1 : Int × Int) ρ' w' => ρ' 0 = .int .u64 s1.1 ∧ ρ' 1 = .int .i64 a1 ∧ ρ' 5 = .int .i64 s1.2 ∧ Gr w w') l3 ?_ ?_
  ·skip
   exact ⟨rfl, rfl, rfl, fB⟩
  rintro s1 x7 ρ5 w6 ⟨e0, e1, e5, fB⟩ h
  unfold rickyardref01_Octet.s0 at h
  refine cw_seq ?_
  refine cw_seq ?_
  refine cw_region ?_
  refine ol_val (v := .int .i64 s1.2) (xr_move rfl e5) rfl rfl rfl ?_
  refine ol_val (v := .int .i64 a1) (xr_move rfl e1) rfl rfl rfl ?_
  refine ol_val (v := .bool (decide (s1.2 < a1))) (xr_lss rfl rfl rfl) rfl rfl rfl ?_
  refine ol_nil ?_
  rcases is h with ⟨c8, h⟩ | ⟨c8, h⟩
  ·refine cw_condT rfl c8 ?_
   refine cw_skip ?_
   refine cw_seq ?_
   refine cw_block ?_
   refine cw_region ?_
   refine ol_val (v := .int .u64 s1.1) (xr_move rfl e0) rfl rfl rfl ?_
   refine ol_val (v := .int .u64 (IntKind.u64.wrap (Int.tdiv s1.1 256))) (xr_quo rfl rfl rfl (by decide)) rfl rfl rfl ?_
   refine ol_val (v := .int .u64 (IntKind.u64.wrap (Int.tdiv s1.1 256))) (xr_assign rfl rfl) rfl rfl rfl ?_
   refine ol_nil ?_
   refine blk_i ?_
   refine cw_region ?_
   refine ol_val (v := .int .i64 s1.2) (xr_move rfl e5) rfl rfl rfl ?_
   refine ol_val (v := .int .i64 (IntKind.i64.wrap (s1.2 + 1))) (xr_add rfl rfl rfl) rfl rfl rfl ?_
   refine ol_val (v := .int .i64 (IntKind.i64.wrap (s1.2 + 1))) (xr_assign rfl rfl) rfl rfl rfl ?_
   refine ol_nil ?_
   obtain rfl := Option.some.inj h
   refine lp_in ?_
   exact ⟨rfl, e1, rfl, fB⟩
  refine cw_condF rfl c8 ?_
  refine cw_exit ?_
  repeat (first | with_reducible refine thn_e ?_ | with_reducible refine blk_e rfl ?_)
  obtain rfl := Option.some.inj h
  refine lp_exit ?_
  rintro rfl
  refine thn_x ?_
  exact ⟨e0, fB⟩
 rintro ρ9 w10 ⟨e0, fB⟩
 have h := h4
 refine cw_seq ?_
 refine cw_region ?_
 refine ol_val (v := .int .u64 e2) (xr_move rfl e0) rfl rfl rfl ?_
 refine ol_val (v := .int .u64 (Int.tmod e2 256)) (xr_rem rfl rfl rfl (by decide)) rfl rfl rfl ?_
 refine ol_val (v := .int .u8 (IntKind.u8.wrap (Int.tmod e2 256))) (xr_conv rfl Try.underlying22 Try.underlying5 rfl) rfl rfl rfl ?_
 refine ol_val (v := .int .u8 (IntKind.u8.wrap (Int.tmod e2 256))) (xr_assign rfl rfl) rfl rfl rfl ?_
 refine ol_nil ?_
 refine cw_ret ?_
 repeat (first | with_reducible refine thn_r ?_ | with_reducible refine blk_r ?_)
 obtain rfl := Option.some.inj h
 refine fin_ret1 Try.results137 rfl ?_
 exact ⟨_, rfl, rfl, fB⟩
def rickyardref01_Lay.s0 (fu : Nat) (a0 : Int) (a1 : Int) : ((List UInt8) × Int) → Option (Sum (List UInt8) ((List UInt8) × Int)) := fun s1 => (if (decide (s1.2 < a1)) = true then ((rickyardref01_Octet.f fu a0 s1.2).bind fun t9 => (if List.length s1.1 + List.length (List.map toB [t9]) ≤ LIM then some (Sum.inr ((s1.1 ++ (List.map toB [t9])), (IntKind.i64.wrap (s1.2 + 1)))) else none)) else some (Sum.inl (s1.1)))
def rickyardref01_Lay.f (fu : Nat) (a0 : Int) (a1 : Int) : Option (List UInt8) := ((loopM (rickyardref01_Lay.s0 fu a0 a1) fu ([], 0)).bind fun e2 => some (e2))
theorem rickyardref01_Lay.ok (fu : Nat) (w : World) (a0 : Int) (a1 : Int) (r : (List UInt8)) (h : rickyardref01_Lay.f fu a0 a1 = some r) :
  Calls Try.prog 117 (([.int .u64 a0, .int .i64 a1] : List Value).toArray) w (fun e w' => ∃ v, e = .returned v ∧ v = sv r ∧ Gr w w') := by
 unfold rickyardref01_Lay.f at h
 have fB : Gr w w := Fr.refl _ _
 refine calls_cw Try.func117 rfl Try.ntmps117 rfl ?_
 refine cw_seq ?_
 refine cw_region ?_
 refine ol_val (v := sv []) (xr_assign rfl rfl) rfl rfl rfl ?_
 refine ol_nil ?_
 refine cw_seq ?_
 refine cw_region ?_
 refine ol_val (v := sv []) (xr_assign rfl rfl) rfl rfl rfl ?_
 refine ol_nil ?_
 refine cw_seq ?_
 refine cw_seq ?_
 refine cw_region ?_
 refine ol_val (v := .int .i64 0) (xr_assign rfl rfl) rfl rfl rfl ?_
 refine ol_nil ?_
 obtain ⟨e2, l3, h4⟩ := bs h
 refine cw_mid (fun ρ' w' => ρ' 5 = sv e2 ∧ Gr w w') ?_ ?_
 ·refine cw_block ?_
  refine cw_round (fun (s1 : (List UInt8) × Int) ρ' w' => ρ' 0 = .int .u64 a0 ∧ ρ' 1 = .int .i64 a1 ∧ ρ' 5 = sv s1.1 ∧ ρ' 6 = .int .i64 s1.2 ∧ Gr w w') l3 ?_ ?_
  ·skip
   exact ⟨rfl, rfl, rfl, rfl, fB⟩
  rintro s1 x7 ρ5 w6 ⟨e0, e1, e5, e6, fB⟩ h
  unfold rickyardref01_Lay.s0 at h
  refine cw_seq ?_
  refine cw_seq ?_
  refine cw_region ?_
  refine ol_val (v := .int .i64 s1.2) (xr_move rfl e6) rfl rfl rfl ?_
  refine ol_val (v := .int .i64 a1) (xr_move rfl e1) rfl rfl rfl ?_
  refine ol_val (v := .bool (decide (s1.2 < a1))) (xr_lss rfl rfl rfl) rfl rfl rfl ?_
  refine ol_nil ?_
  rcases is h with ⟨c8, h⟩ | ⟨c8, h⟩
  ·refine cw_condT rfl c8 ?_
   refine cw_skip ?_
   refine cw_seq ?_
   refine cw_block ?_
   refine cw_region ?_
   refine ol_val (v := sv s1.1) (xr_move rfl e5) rfl rfl rfl ?_
   refine ol_val (v := .int .u64 a0) (xr_move rfl e0) rfl rfl rfl ?_
   refine ol_val (v := .int .i64 s1.2) (xr_move rfl e6) rfl rfl rfl ?_
   obtain ⟨t9, k10, h⟩ := bs h
   refine ol_op (opv_call rfl cal137 (ac rfl (ac rfl an)) (rickyardref01_Octet.ok fu _ a0 s1.2 _ k10)) rfl rfl rfl ?_
   rintro _ w12 ⟨rfl, q11⟩
   have fB := fB.gr q11
   refine ol_op (opv_buildSlice (K := (kI .u8)) (xs := [t9]) (vals := [.int .u8 t9]) rfl Try.underlying43 el5 rfl rfl ⟨rfl, rfl, trivial⟩ rfl rfl rfl fB.size) rfl rfl rfl ?_
   rintro v13 w18 ⟨o15, q14, z16⟩
   have fB := fB.gr q14
   refine ol_val (v := sv (List.map toB [t9])) (xr_toStr rfl Try.underlying43 Try.underlying5 Try.underlying9 rfl o15.rd) rfl rfl rfl ?_
   obtain ⟨g19, h⟩ := gs h
   refine ol_val (v := sv (s1.1 ++ (List.map toB [t9]))) (xr_addStr rfl rfl rfl g19) rfl rfl rfl ?_
   refine ol_val (v := sv (s1.1 ++ (List.map toB [t9]))) (xr_assign rfl rfl) rfl rfl rfl ?_
   refine ol_nil ?_
   refine blk_i ?_
   refine cw_region ?_
   refine ol_val (v := .int .i64 s1.2) (xr_move rfl e6) rfl rfl rfl ?_
   refine ol_val (v := .int .i64 (IntKind.i64.wrap (s1.2 + 1))) (xr_add rfl rfl rfl) rfl rfl rfl ?_
   refine ol_val (v := .int .i64 (IntKind.i64.wrap (s1.2 + 1))) (xr_assign rfl rfl) rfl rfl rfl ?_
   refine ol_nil ?_
   obtain rfl := Option.some.inj h
   refine lp_in ?_
   exact ⟨e0, e1, rfl, rfl, fB⟩
  refine cw_condF rfl c8 ?_
  refine cw_exit ?_
  repeat (first | with_reducible refine thn_e ?_ | with_reducible refine blk_e rfl ?_)
  obtain rfl := Option.some.inj h
  refine lp_exit ?_
  rintro rfl
  refine thn_x ?_
  exact ⟨e5, fB⟩
 rintro ρ20 w21 ⟨e5, fB⟩
 have h := h4
 refine cw_seq ?_
 refine cw_region ?_
 refine ol_val (v := sv e2) (xr_move rfl e5) rfl rfl rfl ?_
 refine ol_val (v := sv e2) (xr_assign rfl rfl) rfl rfl rfl ?_
 refine ol_nil ?_
 refine cw_ret ?_
 repeat (first | with_reducible refine thn_r ?_ | with_reducible refine blk_r ?_)
 obtain rfl := Option.some.inj h
 refine fin_ret1 Try.results117 rfl ?_
 exact ⟨_, rfl, rfl, fB⟩
def rickyardref07_Fill.f (fu : Nat) (a0 : List UInt8) (a1 : Int) : Option (List UInt8) := (if 0 ≤ (mxI (IntKind.i64.wrap (a1 - (List.length a0 : Int))) 0) ∧ Int.toNat (mxI (IntKind.i64.wrap (a1 - (List.length a0 : Int))) 0) ≤ LIM then (if List.length a0 + List.length (List.map toB (List.replicate (Int.toNat (mxI (IntKind.i64.wrap (a1 - (List.length a0 : Int))) 0)) (0 : Int))) ≤ LIM then some ((a0 ++ (List.map toB (List.replicate (Int.toNat (mxI (IntKind.i64.wrap (a1 - (List.length a0 : Int))) 0)) (0 : Int))))) else none) else none)
theorem rickyardref07_Fill.ok (fu : Nat) (w : World) (a0 : List UInt8) (a1 : Int) (r : (List UInt8)) (h : rickyardref07_Fill.f fu a0 a1 = some r) :
  Calls Try.prog 138 (([sv a0, .int .i64 a1] : List Value).toArray) w (fun e w' => ∃ v, e = .returned v ∧ v = sv r ∧ Gr w w') := by
 unfold rickyardref07_Fill.f at h
 have fB : Gr w w := Fr.refl _ _
 refine calls_cw Try.func138 rfl Try.ntmps138 rfl ?_
 refine cw_seq ?_
 refine cw_region ?_
 refine ol_val (v := sv []) (xr_assign rfl rfl) rfl rfl rfl ?_
 refine ol_nil ?_
 refine cw_seq ?_
 refine cw_region ?_
 refine ol_val (v := sv a0) (xr_move rfl rfl) rfl rfl rfl ?_
 refine ol_val (v := .int .i64 a1) (xr_move rfl rfl) rfl rfl rfl ?_
 refine ol_val (v := sv a0) (xr_move rfl rfl) rfl rfl rfl ?_
 refine ol_val (v := .int .i64 (List.length a0 : Int)) (xr_lenStr rfl Try.underlying9 rfl) rfl rfl rfl ?_
 refine ol_val (v := .int .i64 (IntKind.i64.wrap (a1 - (List.length a0 : Int)))) (xr_sub rfl rfl rfl) rfl rfl rfl ?_
 refine ol_val (v := .int .i64 (mxI (IntKind.i64.wrap (a1 - (List.length a0 : Int))) 0)) (xr_max2 rfl rfl rfl) rfl rfl rfl ?_
 obtain ⟨g1, h⟩ := gs h
 refine ol_op (opv_make (K := (kI .u8)) (z := (0 : Int)) rfl Try.underlying43 el5 rfl rfl rfl g1.1 g1.2 rfl fB.size) rfl rfl rfl ?_
 rintro v2 w7 ⟨o4, q3, z5⟩
 have fB := fB.gr q3
 refine ol_val (v := sv (List.map toB (List.replicate (Int.toNat (mxI (IntKind.i64.wrap (a1 - (List.length a0 : Int))) 0)) (0 : Int)))) (xr_toStr rfl Try.underlying43 Try.underlying5 Try.underlying9 rfl o4.rd) rfl rfl rfl ?_
 obtain ⟨g8, h⟩ := gs h
 refine ol_val (v := sv (a0 ++ (List.map toB (List.replicate (Int.toNat (mxI (IntKind.i64.wrap (a1 - (List.length a0 : Int))) 0)) (0 : Int))))) (xr_addStr rfl rfl rfl g8) rfl rfl rfl ?_
 refine ol_val (v := sv (a0 ++ (List.map toB (List.replicate (Int.toNat (mxI (IntKind.i64.wrap (a1 - (List.length a0 : Int))) 0)) (0 : Int))))) (xr_assign rfl rfl) rfl rfl rfl ?_
 refine ol_nil ?_
 refine cw_ret ?_
 repeat (first | with_reducible refine thn_r ?_ | with_reducible refine blk_r ?_)
 obtain rfl := Option.some.inj h
 refine fin_ret1 Try.results138 rfl ?_
 exact ⟨_, rfl, rfl, fB⟩
def rickyardref02_Step.f (fu : Nat) (a0 : Int) : Option Int := (if (decide ((Int.tmod a0 2) = 1)) = true then some ((bXor .u32 (IntKind.u32.wrap (Int.tdiv a0 2)) 2197175160)) else some ((IntKind.u32.wrap (Int.tdiv a0 2))))
theorem rickyardref02_Step.ok (fu : Nat) (w : World) (a0 : Int) (r : Int) (h : rickyardref02_Step.f fu a0 = some r) :
  Calls Try.prog 153 (([.int .u32 a0] : List Value).toArray) w (fun e w' => ∃ v, e = .returned v ∧ v = .int .u32 r ∧ Gr w w') := by
 unfold rickyardref02_Step.f at h
 have fB : Gr w w := Fr.refl _ _
 refine calls_cw Try.func153 rfl Try.ntmps153 rfl ?_
 refine cw_seq ?_
 refine cw_region ?_
 refine ol_val (v := .int .u32 0) (xr_assign rfl rfl) rfl rfl rfl ?_
 refine ol_nil ?_
 refine cw_seq ?_
 refine cw_seq ?_
 refine cw_region ?_
 refine ol_val (v := .int .u32 a0) (xr_move rfl rfl) rfl rfl rfl ?_
 refine ol_val (v := .int .u32 (Int.tmod a0 2)) (xr_rem rfl rfl rfl (by decide)) rfl rfl rfl ?_
 refine ol_val (v := .bool (decide ((Int.tmod a0 2) = 1))) (xr_eqI rfl Try.underlying191 rfl rfl rfl) rfl rfl rfl ?_
 refine ol_nil ?_
 rcases is h with ⟨c1, h⟩ | ⟨c1, h⟩
 ·refine cw_condT rfl c1 ?_
  refine cw_seq ?_
  refine cw_region ?_
  refine ol_val (v := .int .u32 a0) (xr_move rfl rfl) rfl rfl rfl ?_
  refine ol_val (v := .int .u32 (IntKind.u32.wrap (Int.tdiv a0 2))) (xr_quo rfl rfl rfl (by decide)) rfl rfl rfl ?_
  refine ol_val (v := .int .u32 (bXor .u32 (IntKind.u32.wrap (Int.tdiv a0 2)) 2197175160)) (xr_xor rfl rfl rfl) rfl rfl rfl ?_
  refine ol_val (v := .int .u32 (bXor .u32 (IntKind.u32.wrap (Int.tdiv a0 2)) 2197175160)) (xr_assign rfl rfl) rfl rfl rfl ?_
  refine ol_nil ?_
  refine cw_ret ?_
  repeat (first | with_reducible refine thn_r ?_ | with_reducible refine blk_r ?_)
  obtain rfl := Option.some.inj h
  refine fin_ret1 Try.results153 rfl ?_
  exact ⟨_, rfl, rfl, fB⟩
 refine cw_condF rfl c1 ?_
 refine cw_skip ?_
 refine cw_seq ?_
 refine cw_region ?_
 refine ol_val (v := .int .u32 a0) (xr_move rfl rfl) rfl rfl rfl ?_
 refine ol_val (v := .int .u32 (IntKind.u32.wrap (Int.tdiv a0 2))) (xr_quo rfl rfl rfl (by decide)) rfl rfl rfl ?_
 refine ol_val (v := .int .u32 (IntKind.u32.wrap (Int.tdiv a0 2))) (xr_assign rfl rfl) rfl rfl rfl ?_
 refine ol_nil ?_
 refine cw_ret ?_
 repeat (first | with_reducible refine thn_r ?_ | with_reducible refine blk_r ?_)
 obtain rfl := Option.some.inj h
 refine fin_ret1 Try.results153 rfl ?_
 exact ⟨_, rfl, rfl, fB⟩
def rickyardref02_Steps.s0 (fu : Nat) (a1 : Int) : (Int × Int) → Option (Sum Int (Int × Int)) := fun s1 => (if (decide (s1.2 < a1)) = true then ((rickyardref02_Step.f fu s1.1).bind fun t9 => some (Sum.inr (t9, (IntKind.i64.wrap (s1.2 + 1))))) else some (Sum.inl (s1.1)))
def rickyardref02_Steps.f (fu : Nat) (a0 : Int) (a1 : Int) : Option Int := ((loopM (rickyardref02_Steps.s0 fu a1) fu (a0, 0)).bind fun e2 => some (e2))
theorem rickyardref02_Steps.ok (fu : Nat) (w : World) (a0 : Int) (a1 : Int) (r : Int) (h : rickyardref02_Steps.f fu a0 a1 = some r) :
  Calls Try.prog 148 (([.int .u32 a0, .int .i64 a1] : List Value).toArray) w (fun e w' => ∃ v, e = .returned v ∧ v = .int .u32 r ∧ Gr w w') := by
 unfold rickyardref02_Steps.f at h
 have fB : Gr w w := Fr.refl _ _
 refine calls_cw Try.func148 rfl Try.ntmps148 rfl ?_
 refine cw_seq ?_
 refine cw_region ?_
 refine ol_val (v := .int .u32 0) (xr_assign rfl rfl) rfl rfl rfl ?_
 refine ol_nil ?_
 refine cw_seq ?_
 refine cw_seq ?_
 refine cw_region ?_
 refine ol_val (v := .int .i64 0) (xr_assign rfl rfl) rfl rfl rfl ?_
 refine ol_nil ?_
 obtain ⟨e2, l3, h4⟩ := bs h
 refine cw_mid (fun ρ' w' => ρ' 0 = .int .u32 e2 ∧ Gr w w') ?_ ?_
 ·refine cw_block ?_
  refine cw_round (fun (s1 : Int × Int) ρ' w' => ρ' 0 = .int .u32 s1.1 ∧ ρ' 1 = .int .i64 a1 ∧ ρ' 5 = .int .i64 s1.2 ∧ Gr w w') l3 ?_ ?_
  ·skip
   exact ⟨rfl, rfl, rfl, fB⟩
  rintro s1 x7 ρ5 w6 ⟨e0, e1, e5, fB⟩ h
  unfold rickyardref02_Steps.s0 at h
  refine cw_seq ?_
  refine cw_seq ?_
  refine cw_region ?_
  refine ol_val (v := .int .i64 s1.2) (xr_move rfl e5) rfl rfl rfl ?_
  refine ol_val (v := .int .i64 a1) (xr_move rfl e1) rfl rfl rfl ?_
  refine ol_val (v := .bool (decide (s1.2 < a1))) (xr_lss rfl rfl rfl) rfl rfl rfl ?_
  refine ol_nil ?_
  rcases is h with ⟨c8, h⟩ | ⟨c8, h⟩
  ·refine cw_condT rfl c8 ?_
   refine cw_skip ?_
   refine cw_seq ?_
   refine cw_block ?_
   refine cw_region ?_
   refine ol_val (v := .int .u32 s1.1) (xr_move rfl e0) rfl rfl rfl ?_
   obtain ⟨t9, k10, h⟩ := bs h
   refine ol_op (opv_call rfl cal153 (ac rfl an) (rickyardref02_Step.ok fu _ s1.1 _ k10)) rfl rfl rfl ?_
   rintro _ w12 ⟨rfl, q11⟩
   have fB := fB.gr q11
   refine ol_val (v := .int .u32 t9) (xr_assign rfl rfl) rfl rfl rfl ?_
   refine ol_nil ?_
   refine blk_i ?_
   refine cw_region ?_
   refine ol_val (v := .int .i64 s1.2) (xr_move rfl e5) rfl rfl rfl ?_
   refine ol_val (v := .int .i64 (IntKind.i64.wrap (s1.2 + 1))) (xr_add rfl rfl rfl) rfl rfl rfl ?_
   refine ol_val (v := .int .i64 (IntKind.i64.wrap (s1.2 + 1))) (xr_assign rfl rfl) rfl rfl rfl ?_
   refine ol_nil ?_
   obtain rfl := Option.some.inj h
   refine lp_in ?_
   exact ⟨rfl, e1, rfl, fB⟩
  refine cw_condF rfl c8 ?_
  refine cw_exit ?_
  repeat (first | with_reducible refine thn_e ?_ | with_reducible refine blk_e rfl ?_)
  obtain rfl := Option.some.inj h
  refine lp_exit ?_
  rintro rfl
  refine thn_x ?_
  exact ⟨e0, fB⟩
 rintro ρ13 w14 ⟨e0, fB⟩
 have h := h4
 refine cw_seq ?_
 refine cw_region ?_
 refine ol_val (v := .int .u32 e2) (xr_move rfl e0) rfl rfl rfl ?_
 refine ol_val (v := .int .u32 e2) (xr_assign rfl rfl) rfl rfl rfl ?_
 refine ol_nil ?_
 refine cw_ret ?_
 repeat (first | with_reducible refine thn_r ?_ | with_reducible refine blk_r ?_)
 obtain rfl := Option.some.inj h
 refine fin_ret1 Try.results148 rfl ?_
 exact ⟨_, rfl, rfl, fB⟩
def rickyardref02_Sum.s0 (fu : Nat) (a0 : List Int) : (Int × Int) → Option (Sum Int (Int × Int)) := fun s1 => (if (decide (s1.2 < (List.length a0 : Int))) = true then (if 0 ≤ s1.2 ∧ s1.2 < (List.length a0 : Int) then ((rickyardref02_Steps.f fu (bXor .u32 s1.1 (IntKind.u32.wrap (ix a0 s1.2))) 8).bind fun t10 => some (Sum.inr (t10, (IntKind.i64.wrap (s1.2 + 1))))) else none) else some (Sum.inl (s1.1)))
def rickyardref02_Sum.f (fu : Nat) (a0 : List Int) : Option Int := ((loopM (rickyardref02_Sum.s0 fu a0) fu (4294967295, 0)).bind fun e2 => some ((IntKind.u32.wrap (4294967295 - e2))))
theorem rickyardref02_Sum.ok (fu : Nat) (w : World) (a0 : List Int) (V0_0 : Value) (R0_0 : Rd (kI .u8) w V0_0 a0) (r : Int) (h : rickyardref02_Sum.f fu a0 = some r) :
  Calls Try.prog 139 (([V0_0] : List Value).toArray) w (fun e w' => ∃ v, e = .returned v ∧ v = .int .u32 r ∧ Gr w w') := by
 unfold rickyardref02_Sum.f at h
 have fB : Gr w w := Fr.refl _ _
 refine calls_cw Try.func139 rfl Try.ntmps139 rfl ?_
 refine cw_seq ?_
 refine cw_region ?_
 refine ol_val (v := .int .u32 0) (xr_assign rfl rfl) rfl rfl rfl ?_
 refine ol_nil ?_
 refine cw_seq ?_
 refine cw_region ?_
 refine ol_val (v := .int .u32 4294967295) (xr_assign rfl rfl) rfl rfl rfl ?_
 refine ol_nil ?_
 refine cw_seq ?_
 refine cw_seq ?_
 refine cw_region ?_
 refine ol_val (v := .int .i64 0) (xr_assign rfl rfl) rfl rfl rfl ?_
 refine ol_nil ?_
 obtain ⟨e2, l3, h4⟩ := bs h
 refine cw_mid (fun ρ' w' => ρ' 3 = .int .u32 e2 ∧ Gr w w') ?_ ?_
 ·refine cw_block ?_
  refine cw_round (fun (s1 : Int × Int) ρ' w' => ρ' 0 = V0_0 ∧ ρ' 3 = .int .u32 s1.1 ∧ ρ' 4 = .int .i64 s1.2 ∧ Gr w w') l3 ?_ ?_
  ·skip
   exact ⟨rfl, rfl, rfl, fB⟩
  rintro s1 x7 ρ5 w6 ⟨e0, e3, e4, fB⟩ h
  unfold rickyardref02_Sum.s0 at h
  refine cw_seq ?_
  refine cw_seq ?_
  refine cw_region ?_
  refine ol_val (v := .int .i64 s1.2) (xr_move rfl e4) rfl rfl rfl ?_
  refine ol_val (v := V0_0) (xr_move rfl e0) rfl rfl rfl ?_
  refine ol_val (v := .int .i64 (List.length a0 : Int)) (xr_lenR rfl Try.underlying43 rfl (R0_0.gr fB)) rfl rfl rfl ?_
  refine ol_val (v := .bool (decide (s1.2 < (List.length a0 : Int)))) (xr_lss rfl rfl rfl) rfl rfl rfl ?_
  refine ol_nil ?_
  rcases is h with ⟨c8, h⟩ | ⟨c8, h⟩
  ·refine cw_condT rfl c8 ?_
   refine cw_skip ?_
   refine cw_seq ?_
   refine cw_block ?_
   refine cw_region ?_
   refine ol_val (v := .int .u32 s1.1) (xr_move rfl e3) rfl rfl rfl ?_
   refine ol_val (v := V0_0) (xr_move rfl e0) rfl rfl rfl ?_
   refine ol_val (v := .int .i64 s1.2) (xr_move rfl e4) rfl rfl rfl ?_
   obtain ⟨g9, h⟩ := gs h
   refine ol_val (v := (pt ((sb V0_0)) (so V0_0 + Int.toNat s1.2 * 1))) (xr_indexR (K := (kI .u8)) (v := V0_0) rfl Try.underlying43 sz5 rfl (R0_0.gr fB) rfl g9.1 g9.2) rfl rfl rfl ?_
   refine ol_val (v := .int .u8 (ix a0 s1.2)) (xr_load1 (v := .int .u8 (ix a0 s1.2)) rfl ag5 rfl ((R0_0.gr fB).elem g9.1 g9.2)) rfl rfl rfl ?_
   refine ol_val (v := .int .u32 (IntKind.u32.wrap (ix a0 s1.2))) (xr_conv rfl Try.underlying5 Try.underlying191 rfl) rfl rfl rfl ?_
   refine ol_val (v := .int .u32 (bXor .u32 s1.1 (IntKind.u32.wrap (ix a0 s1.2)))) (xr_xor rfl rfl rfl) rfl rfl rfl ?_
   obtain ⟨t10, k11, h⟩ := bs h
   refine ol_op (opv_call rfl cal148 (ac rfl (ac rfl an)) (rickyardref02_Steps.ok fu _ (bXor .u32 s1.1 (IntKind.u32.wrap (ix a0 s1.2))) 8 _ k11)) rfl rfl rfl ?_
   rintro _ w13 ⟨rfl, q12⟩
   have fB := fB.gr q12
   refine ol_val (v := .int .u32 t10) (xr_assign rfl rfl) rfl rfl rfl ?_
   refine ol_nil ?_
   refine blk_i ?_
   refine cw_region ?_
   refine ol_val (v := .int .i64 s1.2) (xr_move rfl e4) rfl rfl rfl ?_
   refine ol_val (v := .int .i64 (IntKind.i64.wrap (s1.2 + 1))) (xr_add rfl rfl rfl) rfl rfl rfl ?_
   refine ol_val (v := .int .i64 (IntKind.i64.wrap (s1.2 + 1))) (xr_assign rfl rfl) rfl rfl rfl ?_
   refine ol_nil ?_
   obtain rfl := Option.some.inj h
   refine lp_in ?_
   exact ⟨e0, rfl, rfl, fB⟩
  refine cw_condF rfl c8 ?_
  refine cw_exit ?_
  repeat (first | with_reducible refine thn_e ?_ | with_reducible refine blk_e rfl ?_)
  obtain rfl := Option.some.inj h
  refine lp_exit ?_
  rintro rfl
  refine thn_x ?_
  exact ⟨e3, fB⟩
 rintro ρ14 w15 ⟨e3, fB⟩
 have h := h4
 refine cw_seq ?_
 refine cw_region ?_
 refine ol_val (v := .int .u32 e2) (xr_move rfl e3) rfl rfl rfl ?_
 refine ol_val (v := .int .u32 (IntKind.u32.wrap (4294967295 - e2))) (xr_sub rfl rfl rfl) rfl rfl rfl ?_
 refine ol_val (v := .int .u32 (IntKind.u32.wrap (4294967295 - e2))) (xr_assign rfl rfl) rfl rfl rfl ?_
 refine ol_nil ?_
 refine cw_ret ?_
 repeat (first | with_reducible refine thn_r ?_ | with_reducible refine blk_r ?_)
 obtain rfl := Option.some.inj h
 refine fin_ret1 Try.results139 rfl ?_
 exact ⟨_, rfl, rfl, fB⟩
def rickyardref07_Seal.f (fu : Nat) (a0 : Int) (a1 : Int) (a2 : List UInt8) : Option (List UInt8) := ((rickyardref07_Fill.f fu a2 56).bind fun t6 => (if List.length (List.map toB [(IntKind.u8.wrap a0), (IntKind.u8.wrap a1), 0, 0]) + List.length t6 ≤ LIM then ((rickyardref02_Sum.f fu (List.map ofB ((List.map toB [(IntKind.u8.wrap a0), (IntKind.u8.wrap a1), 0, 0]) ++ t6))).bind fun t17 => ((rickyardref01_Lay.f fu (IntKind.u64.wrap t17) 4).bind fun t21 => (if List.length t21 + List.length ((List.map toB [(IntKind.u8.wrap a0), (IntKind.u8.wrap a1), 0, 0]) ++ t6) ≤ LIM then some ((t21 ++ ((List.map toB [(IntKind.u8.wrap a0), (IntKind.u8.wrap a1), 0, 0]) ++ t6))) else none))) else none))
theorem rickyardref07_Seal.ok (fu : Nat) (w : World) (a0 : Int) (a1 : Int) (a2 : List UInt8) (r : (List UInt8)) (h : rickyardref07_Seal.f fu a0 a1 a2 = some r) :
  Calls Try.prog 118 (([.int .i64 a0, .int .i64 a1, sv a2] : List Value).toArray) w (fun e w' => ∃ v, e = .returned v ∧ v = sv r ∧ Gr w w') := by
 unfold rickyardref07_Seal.f at h
 have fB : Gr w w := Fr.refl _ _
 refine calls_cw Try.func118 rfl Try.ntmps118 rfl ?_
 refine cw_seq ?_
 refine cw_region ?_
 refine ol_val (v := sv []) (xr_assign rfl rfl) rfl rfl rfl ?_
 refine ol_nil ?_
 refine cw_seq ?_
 obtain ⟨t6, k7, h⟩ := bs h
 refine cw_drawL 8 [fun vz wz => vz = (.int .i64 a0 : Value), fun vz wz => vz = (.int .u8 (IntKind.u8.wrap a0) : Value), fun vz wz => vz = (.int .i64 a1 : Value), fun vz wz => vz = (.int .u8 (IntKind.u8.wrap a1) : Value), fun vz wz => ∃ v1 : Value, ∃ o3 : Own (kI .u8) 5 wz w.heap.size v1 [(IntKind.u8.wrap a0), (IntKind.u8.wrap a1), 0, 0], vz = (v1 : Value), fun vz wz => vz = (sv (List.map toB [(IntKind.u8.wrap a0), (IntKind.u8.wrap a1), 0, 0]) : Value), fun vz wz => vz = (sv a2 : Value), fun vz wz => vz = (sv t6 : Value)] mo rfl ⟨fun _ _ _ h _ => h, fun _ _ _ h _ => h, fun _ _ _ h _ => h, fun _ _ _ h _ => h, fun _ _ _ ⟨v1, o3, h⟩ q => ⟨v1, o3.gr q, h⟩, fun _ _ _ h _ => h, fun _ _ _ h _ => h, fun _ _ _ h _ => h, trivial⟩ ?_ ?_
 ·refine ⟨?_, ?_, ?_, ?_, ?_, ?_, ?_, ?_, trivial⟩
  ·intro ρz wz hz hk hd
   exact sk_val (v := .int .i64 a0) (xr_move rfl ((hk 0 rfl).trans rfl)) rfl rfl
  ·intro ρz wz hz hk hd
   exact sk_val (v := .int .u8 (IntKind.u8.wrap a0)) (xr_conv rfl Try.underlying3 Try.underlying5 (hd 0 rfl 8 rfl)) rfl rfl
  ·intro ρz wz hz hk hd
   exact sk_val (v := .int .i64 a1) (xr_move rfl ((hk 1 rfl).trans rfl)) rfl rfl
  ·intro ρz wz hz hk hd
   exact sk_val (v := .int .u8 (IntKind.u8.wrap a1)) (xr_conv rfl Try.underlying3 Try.underlying5 (hd 2 rfl 10 rfl)) rfl rfl
  ·intro ρz wz hz hk hd
   refine sk_op (opv_buildSlice (K := (kI .u8)) (xs := [(IntKind.u8.wrap a0), (IntKind.u8.wrap a1), 0, 0]) (vals := [.int .u8 (IntKind.u8.wrap a0), .int .u8 (IntKind.u8.wrap a1), .int .u8 0, .int .u8 0]) rfl Try.underlying43 el5 rfl rfl ⟨rfl, (hd 1 rfl 9 rfl), ⟨rfl, (hd 3 rfl 11 rfl), ⟨rfl, rfl, ⟨rfl, rfl, trivial⟩⟩⟩⟩ rfl rfl rfl (Nat.le_trans fB.size hz.size)) rfl ?_
   rintro v1 wy ⟨o3, q2, z4⟩
   exact ⟨⟨v1, o3, rfl⟩, q2⟩
  ·intro ρz wz hz hk hd
   obtain ⟨v1, o3, d12⟩ := hd 4 rfl 12 rfl
   exact sk_val (xr_toStr rfl Try.underlying43 Try.underlying5 Try.underlying9 d12 o3.rd) rfl rfl
  ·intro ρz wz hz hk hd
   exact sk_val (v := sv a2) (xr_move rfl ((hk 2 rfl).trans rfl)) rfl rfl
  intro ρz wz hz hk hd
  refine sk_op (opv_call rfl cal138 (ac (hd 6 rfl 14 rfl) (ac rfl an)) (rickyardref07_Fill.ok fu _ a2 56 _ k7)) rfl ?_
  rintro _ wy ⟨rfl, q8⟩
  exact ⟨rfl, q8⟩
 intro ρ9 w10 q11 hk hd
 have e13 := hd 5 rfl 13 rfl
 have e15 := hd 7 rfl 15 rfl
 have fB := fB.gr q11
 obtain ⟨g12, h⟩ := gs h
 refine ol_val (v := sv ((List.map toB [(IntKind.u8.wrap a0), (IntKind.u8.wrap a1), 0, 0]) ++ t6)) (xr_addStr rfl e13 e15 g12) rfl rfl rfl ?_
 refine ol_val (v := sv ((List.map toB [(IntKind.u8.wrap a0), (IntKind.u8.wrap a1), 0, 0]) ++ t6)) (xr_assign rfl rfl) rfl rfl rfl ?_
 refine ol_nil ?_
 refine cw_seq ?_
 refine cw_region ?_
 refine ol_val (v := sv ((List.map toB [(IntKind.u8.wrap a0), (IntKind.u8.wrap a1), 0, 0]) ++ t6)) (xr_move rfl rfl) rfl rfl rfl ?_
 refine ol_op (opv_toBytes rfl Try.underlying9 Try.underlying43 Try.underlying5 rfl) rfl rfl rfl ?_
 rintro v13 w16 ⟨r15, q14⟩
 have fB := fB.gr q14
 obtain ⟨t17, k18, h⟩ := bs h
 refine ol_op (opv_call rfl cal139 (ac rfl an) (rickyardref02_Sum.ok fu _ (List.map ofB ((List.map toB [(IntKind.u8.wrap a0), (IntKind.u8.wrap a1), 0, 0]) ++ t6)) v13 (r15) _ k18)) rfl rfl rfl ?_
 rintro _ w20 ⟨rfl, q19⟩
 have fB := fB.gr q19
 refine ol_val (v := .int .u64 (IntKind.u64.wrap t17)) (xr_conv rfl Try.underlying191 Try.underlying22 rfl) rfl rfl rfl ?_
 obtain ⟨t21, k22, h⟩ := bs h
 refine ol_op (opv_call rfl cal117 (ac rfl (ac rfl an)) (rickyardref01_Lay.ok fu _ (IntKind.u64.wrap t17) 4 _ k22)) rfl rfl rfl ?_
 rintro _ w24 ⟨rfl, q23⟩
 have fB := fB.gr q23
 refine ol_val (v := sv ((List.map toB [(IntKind.u8.wrap a0), (IntKind.u8.wrap a1), 0, 0]) ++ t6)) (xr_move rfl rfl) rfl rfl rfl ?_
 obtain ⟨g25, h⟩ := gs h
 refine ol_val (v := sv (t21 ++ ((List.map toB [(IntKind.u8.wrap a0), (IntKind.u8.wrap a1), 0, 0]) ++ t6))) (xr_addStr rfl rfl rfl g25) rfl rfl rfl ?_
 refine ol_val (v := sv (t21 ++ ((List.map toB [(IntKind.u8.wrap a0), (IntKind.u8.wrap a1), 0, 0]) ++ t6))) (xr_assign rfl rfl) rfl rfl rfl ?_
 refine ol_nil ?_
 refine cw_ret ?_
 repeat (first | with_reducible refine thn_r ?_ | with_reducible refine blk_r ?_)
 obtain rfl := Option.some.inj h
 refine fin_ret1 Try.results118 rfl ?_
 exact ⟨_, rfl, rfl, fB⟩
def rickyardref13_Put.s0 (fu : Nat) (a0 : S_api_Super) : ((List UInt8) × Int) → Option (Sum (List UInt8) ((List UInt8) × Int)) := fun s44 => (if (decide (s44.2 < (List.length a0.Charts : Int))) = true then (if 0 ≤ s44.2 ∧ s44.2 < (List.length a0.Charts : Int) then ((rickyardref01_Lay.f fu (IntKind.u64.wrap (ix a0.Charts s44.2)) 2).bind fun t53 => (if List.length s44.1 + List.length t53 ≤ LIM then some (Sum.inr ((s44.1 ++ t53), (IntKind.i64.wrap (s44.2 + 1)))) else none)) else none) else some (Sum.inl (s44.1)))
def rickyardref13_Put.f (fu : Nat) (a0 : S_api_Super) : Option (List UInt8) := ((rickyardref01_Lay.f fu (IntKind.u64.wrap a0.Epoch) 8).bind fun t7 => ((rickyardref01_Lay.f fu (IntKind.u64.wrap a0.Tickets.Geometry.Blocks) 4).bind fun t10 => (if List.length t7 + List.length t10 ≤ LIM then ((rickyardref01_Lay.f fu (IntKind.u64.wrap a0.Tickets.Geometry.Slots) 4).bind fun t14 => (if List.length (t7 ++ t10) + List.length t14 ≤ LIM then ((rickyardref01_Lay.f fu (IntKind.u64.wrap a0.Tickets.Geometry.Gens) 4).bind fun t18 => (if List.length ((t7 ++ t10) ++ t14) + List.length t18 ≤ LIM then ((rickyardref01_Lay.f fu (IntKind.u64.wrap a0.Tickets.High) 4).bind fun t22 => (if List.length (((t7 ++ t10) ++ t14) ++ t18) + List.length t22 ≤ LIM then ((rickyardref01_Lay.f fu (IntKind.u64.wrap a0.Tickets.Free) 4).bind fun t26 => (if List.length ((((t7 ++ t10) ++ t14) ++ t18) ++ t22) + List.length t26 ≤ LIM then ((rickyardref01_Lay.f fu (IntKind.u64.wrap a0.Tickets.Top) 2).bind fun t33 => (if List.length (((((t7 ++ t10) ++ t14) ++ t18) ++ t22) ++ t26) + List.length t33 ≤ LIM then ((rickyardref01_Lay.f fu (IntKind.u64.wrap a0.Dir) 2).bind fun t37 => (if List.length ((((((t7 ++ t10) ++ t14) ++ t18) ++ t22) ++ t26) ++ t33) + List.length t37 ≤ LIM then ((loopM (rickyardref13_Put.s0 fu a0) fu ((((((((t7 ++ t10) ++ t14) ++ t18) ++ t22) ++ t26) ++ t33) ++ t37), 0)).bind fun e45 => ((rickyardref07_Seal.f fu 7 (List.length a0.Charts : Int) e45).bind fun t60 => some (t60))) else none)) else none)) else none)) else none)) else none)) else none)) else none)))
theorem rickyardref13_Put.ok (fu : Nat) (w : World) (a0 : S_api_Super) (V0_0 : Value) (R0_0 : Rd (kI .i64) w V0_0 a0.Charts) (r : (List UInt8)) (h : rickyardref13_Put.f fu a0 = some r) :
  Calls Try.prog 76 (([aggV [(sI a0.Epoch), (sI a0.Tickets.Geometry.Blocks), (sI a0.Tickets.Geometry.Slots), (sI a0.Tickets.Geometry.Gens), (sI a0.Tickets.Top), (sI a0.Tickets.High), (sI a0.Tickets.Free), (sI a0.Dir), Seg.cell V0_0 R0_0.one]] : List Value).toArray) w (fun e w' => ∃ v, e = .returned v ∧ v = sv r ∧ Gr w w') := by
 unfold rickyardref13_Put.f at h
 have fB : Gr w w := Fr.refl _ _
 refine calls_cw Try.func76 rfl Try.ntmps76 rfl ?_
 refine cw_seq ?_
 refine cw_region ?_
 refine ol_op (opv_box (ss := [(sI a0.Epoch), (sI a0.Tickets.Geometry.Blocks), (sI a0.Tickets.Geometry.Slots), (sI a0.Tickets.Geometry.Gens), (sI a0.Tickets.Top), (sI a0.Tickets.High), (sI a0.Tickets.Free), (sI a0.Dir), Seg.cell V0_0 R0_0.one]) rfl rfl rfl) rfl rfl rfl ?_
 rintro _ w6 ⟨G1, rfl, b2, q3, z4⟩
 have z4 := Nat.le_trans fB.size z4
 have fB := fB.gr q3
 refine ol_val (v := sv []) (xr_assign rfl rfl) rfl rfl rfl ?_
 refine ol_nil ?_
 refine cw_seq ?_
 obtain ⟨t7, k8, h⟩ := bs h
 obtain ⟨t10, k11, h⟩ := bs h
 obtain ⟨g13, h⟩ := gs h
 obtain ⟨t14, k15, h⟩ := bs h
 obtain ⟨g17, h⟩ := gs h
 obtain ⟨t18, k19, h⟩ := bs h
 obtain ⟨g21, h⟩ := gs h
 obtain ⟨t22, k23, h⟩ := bs h
 obtain ⟨g25, h⟩ := gs h
 obtain ⟨t26, k27, h⟩ := bs h
 refine cw_drawL 36 [fun vz wz => vz = ((pt G1 0) : Value), fun vz wz => vz = (.int .i64 a0.Epoch : Value), fun vz wz => vz = (.int .u64 (IntKind.u64.wrap a0.Epoch) : Value), fun vz wz => vz = (sv t7 : Value), fun vz wz => vz = ((pt G1 1) : Value), fun vz wz => vz = ((pt G1 1) : Value), fun vz wz => vz = ((pt G1 1) : Value), fun vz wz => vz = (.int .i64 a0.Tickets.Geometry.Blocks : Value), fun vz wz => vz = (.int .u64 (IntKind.u64.wrap a0.Tickets.Geometry.Blocks) : Value), fun vz wz => vz = (sv t10 : Value), fun vz wz => vz = (sv (t7 ++ t10) : Value), fun vz wz => vz = ((pt G1 1) : Value), fun vz wz => vz = ((pt G1 1) : Value), fun vz wz => vz = ((pt G1 2) : Value), fun vz wz => vz = (.int .i64 a0.Tickets.Geometry.Slots : Value), fun vz wz => vz = (.int .u64 (IntKind.u64.wrap a0.Tickets.Geometry.Slots) : Value), fun vz wz => vz = (sv t14 : Value), fun vz wz => vz = (sv ((t7 ++ t10) ++ t14) : Value), fun vz wz => vz = ((pt G1 1) : Value), fun vz wz => vz = ((pt G1 1) : Value), fun vz wz => vz = ((pt G1 3) : Value), fun vz wz => vz = (.int .i64 a0.Tickets.Geometry.Gens : Value), fun vz wz => vz = (.int .u64 (IntKind.u64.wrap a0.Tickets.Geometry.Gens) : Value), fun vz wz => vz = (sv t18 : Value), fun vz wz => vz = (sv (((t7 ++ t10) ++ t14) ++ t18) : Value), fun vz wz => vz = ((pt G1 1) : Value), fun vz wz => vz = ((pt G1 5) : Value), fun vz wz => vz = (.int .i64 a0.Tickets.High : Value), fun vz wz => vz = (.int .u64 (IntKind.u64.wrap a0.Tickets.High) : Value), fun vz wz => vz = (sv t22 : Value), fun vz wz => vz = (sv ((((t7 ++ t10) ++ t14) ++ t18) ++ t22) : Value), fun vz wz => vz = ((pt G1 1) : Value), fun vz wz => vz = ((pt G1 6) : Value), fun vz wz => vz = (.int .i64 a0.Tickets.Free : Value), fun vz wz => vz = (.int .u64 (IntKind.u64.wrap a0.Tickets.Free) : Value), fun vz wz => vz = (sv t26 : Value)] mo rfl ⟨fun _ _ _ h _ => h, fun _ _ _ h _ => h, fun _ _ _ h _ => h, fun _ _ _ h _ => h, fun _ _ _ h _ => h, fun _ _ _ h _ => h, fun _ _ _ h _ => h, fun _ _ _ h _ => h, fun _ _ _ h _ => h, fun _ _ _ h _ => h, fun _ _ _ h _ => h, fun _ _ _ h _ => h, fun _ _ _ h _ => h, fun _ _ _ h _ => h, fun _ _ _ h _ => h, fun _ _ _ h _ => h, fun _ _ _ h _ => h, fun _ _ _ h _ => h, fun _ _ _ h _ => h, fun _ _ _ h _ => h, fun _ _ _ h _ => h, fun _ _ _ h _ => h, fun _ _ _ h _ => h, fun _ _ _ h _ => h, fun _ _ _ h _ => h, fun _ _ _ h _ => h, fun _ _ _ h _ => h, fun _ _ _ h _ => h, fun _ _ _ h _ => h, fun _ _ _ h _ => h, fun _ _ _ h _ => h, fun _ _ _ h _ => h, fun _ _ _ h _ => h, fun _ _ _ h _ => h, fun _ _ _ h _ => h, fun _ _ _ h _ => h, trivial⟩ ?_ ?_
 ·refine ⟨?_, ?_, ?_, ?_, ?_, ?_, ?_, ?_, ?_, ?_, ?_, ?_, ?_, ?_, ?_, ?_, ?_, ?_, ?_, ?_, ?_, ?_, ?_, ?_, ?_, ?_, ?_, ?_, ?_, ?_, ?_, ?_, ?_, ?_, ?_, ?_, trivial⟩
  ·intro ρz wz hz hk hd
   exact sk_val (v := (pt G1 0)) (xr_fieldAddr (p := 0) (q := 0) rfl fl110_0 ((hk 1 rfl).trans rfl)) rfl rfl
  ·intro ρz wz hz hk hd
   exact sk_val (v := .int .i64 a0.Epoch) (xr_load1 (v := .int .i64 a0.Epoch) rfl ag3 (hd 0 rfl 5 rfl) ((b2.gr hz).seg 0 rfl rfl)) rfl rfl
  ·intro ρz wz hz hk hd
   exact sk_val (v := .int .u64 (IntKind.u64.wrap a0.Epoch)) (xr_conv rfl Try.underlying3 Try.underlying22 (hd 1 rfl 6 rfl)) rfl rfl
  ·intro ρz wz hz hk hd
   refine sk_op (opv_call rfl cal117 (ac (hd 2 rfl 7 rfl) (ac rfl an)) (rickyardref01_Lay.ok fu _ (IntKind.u64.wrap a0.Epoch) 8 _ k8)) rfl ?_
   rintro _ wy ⟨rfl, q9⟩
   exact ⟨rfl, q9⟩
  ·intro ρz wz hz hk hd
   exact sk_val (v := (pt G1 1)) (xr_fieldAddr (p := 0) (q := 1) rfl fl110_1 ((hk 1 rfl).trans rfl)) rfl rfl
  ·intro ρz wz hz hk hd
   exact sk_val (v := (pt G1 1)) (xr_fieldAddr (p := 1) (q := 0) rfl fl108_0 (hd 4 rfl 9 rfl)) rfl rfl
  ·intro ρz wz hz hk hd
   exact sk_val (v := (pt G1 1)) (xr_fieldAddr (p := 1) (q := 0) rfl fl106_0 (hd 5 rfl 10 rfl)) rfl rfl
  ·intro ρz wz hz hk hd
   exact sk_val (v := .int .i64 a0.Tickets.Geometry.Blocks) (xr_load1 (v := .int .i64 a0.Tickets.Geometry.Blocks) rfl ag3 (hd 6 rfl 11 rfl) ((b2.gr hz).seg 1 rfl rfl)) rfl rfl
  ·intro ρz wz hz hk hd
   exact sk_val (v := .int .u64 (IntKind.u64.wrap a0.Tickets.Geometry.Blocks)) (xr_conv rfl Try.underlying3 Try.underlying22 (hd 7 rfl 12 rfl)) rfl rfl
  ·intro ρz wz hz hk hd
   refine sk_op (opv_call rfl cal117 (ac (hd 8 rfl 13 rfl) (ac rfl an)) (rickyardref01_Lay.ok fu _ (IntKind.u64.wrap a0.Tickets.Geometry.Blocks) 4 _ k11)) rfl ?_
   rintro _ wy ⟨rfl, q12⟩
   exact ⟨rfl, q12⟩
  ·intro ρz wz hz hk hd
   exact sk_val (v := sv (t7 ++ t10)) (xr_addStr rfl (hd 3 rfl 8 rfl) (hd 9 rfl 14 rfl) g13) rfl rfl
  ·intro ρz wz hz hk hd
   exact sk_val (v := (pt G1 1)) (xr_fieldAddr (p := 0) (q := 1) rfl fl110_1 ((hk 1 rfl).trans rfl)) rfl rfl
  ·intro ρz wz hz hk hd
   exact sk_val (v := (pt G1 1)) (xr_fieldAddr (p := 1) (q := 0) rfl fl108_0 (hd 11 rfl 16 rfl)) rfl rfl
  ·intro ρz wz hz hk hd
   exact sk_val (v := (pt G1 2)) (xr_fieldAddr (p := 1) (q := 1) rfl fl106_1 (hd 12 rfl 17 rfl)) rfl rfl
  ·intro ρz wz hz hk hd
   exact sk_val (v := .int .i64 a0.Tickets.Geometry.Slots) (xr_load1 (v := .int .i64 a0.Tickets.Geometry.Slots) rfl ag3 (hd 13 rfl 18 rfl) ((b2.gr hz).seg 2 rfl rfl)) rfl rfl
  ·intro ρz wz hz hk hd
   exact sk_val (v := .int .u64 (IntKind.u64.wrap a0.Tickets.Geometry.Slots)) (xr_conv rfl Try.underlying3 Try.underlying22 (hd 14 rfl 19 rfl)) rfl rfl
  ·intro ρz wz hz hk hd
   refine sk_op (opv_call rfl cal117 (ac (hd 15 rfl 20 rfl) (ac rfl an)) (rickyardref01_Lay.ok fu _ (IntKind.u64.wrap a0.Tickets.Geometry.Slots) 4 _ k15)) rfl ?_
   rintro _ wy ⟨rfl, q16⟩
   exact ⟨rfl, q16⟩
  ·intro ρz wz hz hk hd
   exact sk_val (v := sv ((t7 ++ t10) ++ t14)) (xr_addStr rfl (hd 10 rfl 15 rfl) (hd 16 rfl 21 rfl) g17) rfl rfl
  ·intro ρz wz hz hk hd
   exact sk_val (v := (pt G1 1)) (xr_fieldAddr (p := 0) (q := 1) rfl fl110_1 ((hk 1 rfl).trans rfl)) rfl rfl
  ·intro ρz wz hz hk hd
   exact sk_val (v := (pt G1 1)) (xr_fieldAddr (p := 1) (q := 0) rfl fl108_0 (hd 18 rfl 23 rfl)) rfl rfl
  ·intro ρz wz hz hk hd
   exact sk_val (v := (pt G1 3)) (xr_fieldAddr (p := 1) (q := 2) rfl fl106_2 (hd 19 rfl 24 rfl)) rfl rfl
  ·intro ρz wz hz hk hd
   exact sk_val (v := .int .i64 a0.Tickets.Geometry.Gens) (xr_load1 (v := .int .i64 a0.Tickets.Geometry.Gens) rfl ag3 (hd 20 rfl 25 rfl) ((b2.gr hz).seg 3 rfl rfl)) rfl rfl
  ·intro ρz wz hz hk hd
   exact sk_val (v := .int .u64 (IntKind.u64.wrap a0.Tickets.Geometry.Gens)) (xr_conv rfl Try.underlying3 Try.underlying22 (hd 21 rfl 26 rfl)) rfl rfl
  ·intro ρz wz hz hk hd
   refine sk_op (opv_call rfl cal117 (ac (hd 22 rfl 27 rfl) (ac rfl an)) (rickyardref01_Lay.ok fu _ (IntKind.u64.wrap a0.Tickets.Geometry.Gens) 4 _ k19)) rfl ?_
   rintro _ wy ⟨rfl, q20⟩
   exact ⟨rfl, q20⟩
  ·intro ρz wz hz hk hd
   exact sk_val (v := sv (((t7 ++ t10) ++ t14) ++ t18)) (xr_addStr rfl (hd 17 rfl 22 rfl) (hd 23 rfl 28 rfl) g21) rfl rfl
  ·intro ρz wz hz hk hd
   exact sk_val (v := (pt G1 1)) (xr_fieldAddr (p := 0) (q := 1) rfl fl110_1 ((hk 1 rfl).trans rfl)) rfl rfl
  ·intro ρz wz hz hk hd
   exact sk_val (v := (pt G1 5)) (xr_fieldAddr (p := 1) (q := 4) rfl fl108_2 (hd 25 rfl 30 rfl)) rfl rfl
  ·intro ρz wz hz hk hd
   exact sk_val (v := .int .i64 a0.Tickets.High) (xr_load1 (v := .int .i64 a0.Tickets.High) rfl ag3 (hd 26 rfl 31 rfl) ((b2.gr hz).seg 5 rfl rfl)) rfl rfl
  ·intro ρz wz hz hk hd
   exact sk_val (v := .int .u64 (IntKind.u64.wrap a0.Tickets.High)) (xr_conv rfl Try.underlying3 Try.underlying22 (hd 27 rfl 32 rfl)) rfl rfl
  ·intro ρz wz hz hk hd
   refine sk_op (opv_call rfl cal117 (ac (hd 28 rfl 33 rfl) (ac rfl an)) (rickyardref01_Lay.ok fu _ (IntKind.u64.wrap a0.Tickets.High) 4 _ k23)) rfl ?_
   rintro _ wy ⟨rfl, q24⟩
   exact ⟨rfl, q24⟩
  ·intro ρz wz hz hk hd
   exact sk_val (v := sv ((((t7 ++ t10) ++ t14) ++ t18) ++ t22)) (xr_addStr rfl (hd 24 rfl 29 rfl) (hd 29 rfl 34 rfl) g25) rfl rfl
  ·intro ρz wz hz hk hd
   exact sk_val (v := (pt G1 1)) (xr_fieldAddr (p := 0) (q := 1) rfl fl110_1 ((hk 1 rfl).trans rfl)) rfl rfl
  ·intro ρz wz hz hk hd
   exact sk_val (v := (pt G1 6)) (xr_fieldAddr (p := 1) (q := 5) rfl fl108_3 (hd 31 rfl 36 rfl)) rfl rfl
  ·intro ρz wz hz hk hd
   exact sk_val (v := .int .i64 a0.Tickets.Free) (xr_load1 (v := .int .i64 a0.Tickets.Free) rfl ag3 (hd 32 rfl 37 rfl) ((b2.gr hz).seg 6 rfl rfl)) rfl rfl
  ·intro ρz wz hz hk hd
   exact sk_val (v := .int .u64 (IntKind.u64.wrap a0.Tickets.Free)) (xr_conv rfl Try.underlying3 Try.underlying22 (hd 33 rfl 38 rfl)) rfl rfl
  intro ρz wz hz hk hd
  refine sk_op (opv_call rfl cal117 (ac (hd 34 rfl 39 rfl) (ac rfl an)) (rickyardref01_Lay.ok fu _ (IntKind.u64.wrap a0.Tickets.Free) 4 _ k27)) rfl ?_
  rintro _ wy ⟨rfl, q28⟩
  exact ⟨rfl, q28⟩
 intro ρ29 w30 q31 hk hd
 have e1 := (hk 1 rfl).trans rfl
 have e35 := hd 30 rfl 35 rfl
 have e40 := hd 35 rfl 40 rfl
 have b2 := b2.gr q31
 have fB := fB.gr q31
 obtain ⟨g32, h⟩ := gs h
 refine ol_val (v := sv (((((t7 ++ t10) ++ t14) ++ t18) ++ t22) ++ t26)) (xr_addStr rfl e35 e40 g32) rfl rfl rfl ?_
 refine ol_val (v := sv (((((t7 ++ t10) ++ t14) ++ t18) ++ t22) ++ t26)) (xr_assign rfl rfl) rfl rfl rfl ?_
 refine ol_nil ?_
 refine cw_seq ?_
 obtain ⟨t33, k34, h⟩ := bs h
 obtain ⟨g36, h⟩ := gs h
 obtain ⟨t37, k38, h⟩ := bs h
 refine cw_drawL 11 [fun vz wz => vz = (sv (((((t7 ++ t10) ++ t14) ++ t18) ++ t22) ++ t26) : Value), fun vz wz => vz = ((pt G1 1) : Value), fun vz wz => vz = ((pt G1 4) : Value), fun vz wz => vz = (.int .i64 a0.Tickets.Top : Value), fun vz wz => vz = (.int .u64 (IntKind.u64.wrap a0.Tickets.Top) : Value), fun vz wz => vz = (sv t33 : Value), fun vz wz => vz = (sv ((((((t7 ++ t10) ++ t14) ++ t18) ++ t22) ++ t26) ++ t33) : Value), fun vz wz => vz = ((pt G1 7) : Value), fun vz wz => vz = (.int .i64 a0.Dir : Value), fun vz wz => vz = (.int .u64 (IntKind.u64.wrap a0.Dir) : Value), fun vz wz => vz = (sv t37 : Value)] mo rfl ⟨fun _ _ _ h _ => h, fun _ _ _ h _ => h, fun _ _ _ h _ => h, fun _ _ _ h _ => h, fun _ _ _ h _ => h, fun _ _ _ h _ => h, fun _ _ _ h _ => h, fun _ _ _ h _ => h, fun _ _ _ h _ => h, fun _ _ _ h _ => h, fun _ _ _ h _ => h, trivial⟩ ?_ ?_
 ·refine ⟨?_, ?_, ?_, ?_, ?_, ?_, ?_, ?_, ?_, ?_, ?_, trivial⟩
  ·intro ρz wz hz hk hd
   exact sk_val (v := sv (((((t7 ++ t10) ++ t14) ++ t18) ++ t22) ++ t26)) (xr_move rfl ((hk 3 rfl).trans rfl)) rfl rfl
  ·intro ρz wz hz hk hd
   exact sk_val (v := (pt G1 1)) (xr_fieldAddr (p := 0) (q := 1) rfl fl110_1 ((hk 1 rfl).trans e1)) rfl rfl
  ·intro ρz wz hz hk hd
   exact sk_val (v := (pt G1 4)) (xr_fieldAddr (p := 1) (q := 3) rfl fl108_1 (hd 1 rfl 43 rfl)) rfl rfl
  ·intro ρz wz hz hk hd
   exact sk_val (v := .int .i64 a0.Tickets.Top) (xr_load1 (v := .int .i64 a0.Tickets.Top) rfl ag3 (hd 2 rfl 44 rfl) ((b2.gr hz).seg 4 rfl rfl)) rfl rfl
  ·intro ρz wz hz hk hd
   exact sk_val (v := .int .u64 (IntKind.u64.wrap a0.Tickets.Top)) (xr_conv rfl Try.underlying3 Try.underlying22 (hd 3 rfl 45 rfl)) rfl rfl
  ·intro ρz wz hz hk hd
   refine sk_op (opv_call rfl cal117 (ac (hd 4 rfl 46 rfl) (ac rfl an)) (rickyardref01_Lay.ok fu _ (IntKind.u64.wrap a0.Tickets.Top) 2 _ k34)) rfl ?_
   rintro _ wy ⟨rfl, q35⟩
   exact ⟨rfl, q35⟩
  ·intro ρz wz hz hk hd
   exact sk_val (v := sv ((((((t7 ++ t10) ++ t14) ++ t18) ++ t22) ++ t26) ++ t33)) (xr_addStr rfl (hd 0 rfl 42 rfl) (hd 5 rfl 47 rfl) g36) rfl rfl
  ·intro ρz wz hz hk hd
   exact sk_val (v := (pt G1 7)) (xr_fieldAddr (p := 0) (q := 7) rfl fl110_2 ((hk 1 rfl).trans e1)) rfl rfl
  ·intro ρz wz hz hk hd
   exact sk_val (v := .int .i64 a0.Dir) (xr_load1 (v := .int .i64 a0.Dir) rfl ag3 (hd 7 rfl 49 rfl) ((b2.gr hz).seg 7 rfl rfl)) rfl rfl
  ·intro ρz wz hz hk hd
   exact sk_val (v := .int .u64 (IntKind.u64.wrap a0.Dir)) (xr_conv rfl Try.underlying3 Try.underlying22 (hd 8 rfl 50 rfl)) rfl rfl
  intro ρz wz hz hk hd
  refine sk_op (opv_call rfl cal117 (ac (hd 9 rfl 51 rfl) (ac rfl an)) (rickyardref01_Lay.ok fu _ (IntKind.u64.wrap a0.Dir) 2 _ k38)) rfl ?_
  rintro _ wy ⟨rfl, q39⟩
  exact ⟨rfl, q39⟩
 intro ρ40 w41 q42 hk hd
 have e1 := (hk 1 rfl).trans e1
 have e48 := hd 6 rfl 48 rfl
 have e52 := hd 10 rfl 52 rfl
 have b2 := b2.gr q42
 have fB := fB.gr q42
 obtain ⟨g43, h⟩ := gs h
 refine ol_val (v := sv (((((((t7 ++ t10) ++ t14) ++ t18) ++ t22) ++ t26) ++ t33) ++ t37)) (xr_addStr rfl e48 e52 g43) rfl rfl rfl ?_
 refine ol_val (v := sv (((((((t7 ++ t10) ++ t14) ++ t18) ++ t22) ++ t26) ++ t33) ++ t37)) (xr_assign rfl rfl) rfl rfl rfl ?_
 refine ol_nil ?_
 refine cw_seq ?_
 refine cw_seq ?_
 refine cw_region ?_
 refine ol_val (v := .int .i64 0) (xr_assign rfl rfl) rfl rfl rfl ?_
 refine ol_nil ?_
 obtain ⟨e45, l46, h47⟩ := bs h
 refine cw_mid (fun ρ' w' => ρ' 1 = (pt G1 0) ∧ ρ' 3 = sv e45 ∧ Blk w' G1 110 [(sI a0.Epoch), (sI a0.Tickets.Geometry.Blocks), (sI a0.Tickets.Geometry.Slots), (sI a0.Tickets.Geometry.Gens), (sI a0.Tickets.Top), (sI a0.Tickets.High), (sI a0.Tickets.Free), (sI a0.Dir), Seg.cell V0_0 R0_0.one] ∧ Gr w w') ?_ ?_
 ·refine cw_block ?_
  refine cw_round (fun (s44 : (List UInt8) × Int) ρ' w' => ρ' 1 = (pt G1 0) ∧ ρ' 3 = sv s44.1 ∧ ρ' 4 = .int .i64 s44.2 ∧ Blk w' G1 110 [(sI a0.Epoch), (sI a0.Tickets.Geometry.Blocks), (sI a0.Tickets.Geometry.Slots), (sI a0.Tickets.Geometry.Gens), (sI a0.Tickets.Top), (sI a0.Tickets.High), (sI a0.Tickets.Free), (sI a0.Dir), Seg.cell V0_0 R0_0.one] ∧ Gr w w') l46 ?_ ?_
  ·skip
   exact ⟨e1, rfl, rfl, b2, fB⟩
  rintro s44 x50 ρ48 w49 ⟨e1, e3, e4, b2, fB⟩ h
  unfold rickyardref13_Put.s0 at h
  refine cw_seq ?_
  refine cw_seq ?_
  refine cw_region ?_
  refine ol_val (v := .int .i64 s44.2) (xr_move rfl e4) rfl rfl rfl ?_
  refine ol_val (v := (pt G1 8)) (xr_fieldAddr (p := 0) (q := 8) rfl fl110_3 e1) rfl rfl rfl ?_
  refine ol_val (v := V0_0) (xr_load1 (v := V0_0) rfl ag25 rfl (b2.seg 8 rfl rfl)) rfl rfl rfl ?_
  refine ol_val (v := .int .i64 (List.length a0.Charts : Int)) (xr_lenR rfl Try.underlying25 rfl (R0_0.gr fB)) rfl rfl rfl ?_
  refine ol_val (v := .bool (decide (s44.2 < (List.length a0.Charts : Int)))) (xr_lss rfl rfl rfl) rfl rfl rfl ?_
  refine ol_nil ?_
  rcases is h with ⟨c51, h⟩ | ⟨c51, h⟩
  ·refine cw_condT rfl c51 ?_
   refine cw_skip ?_
   refine cw_seq ?_
   refine cw_block ?_
   refine cw_region ?_
   refine ol_val (v := sv s44.1) (xr_move rfl e3) rfl rfl rfl ?_
   refine ol_val (v := (pt G1 8)) (xr_fieldAddr (p := 0) (q := 8) rfl fl110_3 e1) rfl rfl rfl ?_
   refine ol_val (v := V0_0) (xr_load1 (v := V0_0) rfl ag25 rfl (b2.seg 8 rfl rfl)) rfl rfl rfl ?_
   refine ol_val (v := .int .i64 s44.2) (xr_move rfl e4) rfl rfl rfl ?_
   obtain ⟨g52, h⟩ := gs h
   refine ol_val (v := (pt ((sb V0_0)) (so V0_0 + Int.toNat s44.2 * 1))) (xr_indexR (K := (kI .i64)) (v := V0_0) rfl Try.underlying25 sz3 rfl (R0_0.gr fB) rfl g52.1 g52.2) rfl rfl rfl ?_
   refine ol_val (v := .int .i64 (ix a0.Charts s44.2)) (xr_load1 (v := .int .i64 (ix a0.Charts s44.2)) rfl ag3 rfl ((R0_0.gr fB).elem g52.1 g52.2)) rfl rfl rfl ?_
   refine ol_val (v := .int .u64 (IntKind.u64.wrap (ix a0.Charts s44.2))) (xr_conv rfl Try.underlying3 Try.underlying22 rfl) rfl rfl rfl ?_
   obtain ⟨t53, k54, h⟩ := bs h
   refine ol_op (opv_call rfl cal117 (ac rfl (ac rfl an)) (rickyardref01_Lay.ok fu _ (IntKind.u64.wrap (ix a0.Charts s44.2)) 2 _ k54)) rfl rfl rfl ?_
   rintro _ w56 ⟨rfl, q55⟩
   have b2 := b2.gr q55
   have fB := fB.gr q55
   obtain ⟨g57, h⟩ := gs h
   refine ol_val (v := sv (s44.1 ++ t53)) (xr_addStr rfl rfl rfl g57) rfl rfl rfl ?_
   refine ol_val (v := sv (s44.1 ++ t53)) (xr_assign rfl rfl) rfl rfl rfl ?_
   refine ol_nil ?_
   refine blk_i ?_
   refine cw_region ?_
   refine ol_val (v := .int .i64 s44.2) (xr_move rfl e4) rfl rfl rfl ?_
   refine ol_val (v := .int .i64 (IntKind.i64.wrap (s44.2 + 1))) (xr_add rfl rfl rfl) rfl rfl rfl ?_
   refine ol_val (v := .int .i64 (IntKind.i64.wrap (s44.2 + 1))) (xr_assign rfl rfl) rfl rfl rfl ?_
   refine ol_nil ?_
   obtain rfl := Option.some.inj h
   refine lp_in ?_
   exact ⟨e1, rfl, rfl, b2, fB⟩
  refine cw_condF rfl c51 ?_
  refine cw_exit ?_
  repeat (first | with_reducible refine thn_e ?_ | with_reducible refine blk_e rfl ?_)
  obtain rfl := Option.some.inj h
  refine lp_exit ?_
  rintro rfl
  refine thn_x ?_
  exact ⟨e1, e3, b2, fB⟩
 rintro ρ58 w59 ⟨e1, e3, b2, fB⟩
 have h := h47
 refine cw_seq ?_
 refine cw_region ?_
 refine ol_val (v := (pt G1 8)) (xr_fieldAddr (p := 0) (q := 8) rfl fl110_3 e1) rfl rfl rfl ?_
 refine ol_val (v := V0_0) (xr_load1 (v := V0_0) rfl ag25 rfl (b2.seg 8 rfl rfl)) rfl rfl rfl ?_
 refine ol_val (v := .int .i64 (List.length a0.Charts : Int)) (xr_lenR rfl Try.underlying25 rfl (R0_0.gr fB)) rfl rfl rfl ?_
 refine ol_val (v := sv e45) (xr_move rfl e3) rfl rfl rfl ?_
 obtain ⟨t60, k61, h⟩ := bs h
 refine ol_op (opv_call rfl cal118 (ac rfl (ac rfl (ac rfl an))) (rickyardref07_Seal.ok fu _ 7 (List.length a0.Charts : Int) e45 _ k61)) rfl rfl rfl ?_
 rintro _ w63 ⟨rfl, q62⟩
 have fB := fB.gr q62
 refine ol_val (v := sv t60) (xr_assign rfl rfl) rfl rfl rfl ?_
 refine ol_nil ?_
 refine cw_ret ?_
 repeat (first | with_reducible refine thn_r ?_ | with_reducible refine blk_r ?_)
 obtain rfl := Option.some.inj h
 refine fin_ret1 Try.results76 rfl ?_
 exact ⟨_, rfl, rfl, fB⟩
end Go.Proofs.Ytklhbaghbmndeaa
