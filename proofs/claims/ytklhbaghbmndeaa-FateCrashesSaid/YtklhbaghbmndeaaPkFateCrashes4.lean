/- FateCrashes: texts merged, part 4 of 6. The last part proves that the law FateCrashes holds for every input. -/
import Derived.Test.YtklhbaghbmndeaaPkFateCrashes3
set_option maxRecDepth 100000
set_option maxHeartbeats 4000000
set_option linter.unusedVariables false
set_option linter.unusedSimpArgs false
namespace Go.Proofs.Ytklhbaghbmndeaa
open Go Go.Xw
def rickyardref05_Device_Load.f (fu : Nat) (a0 : S_rickyardref05_Device) (a1 : Int) : Option (Int × Int) := ((rickyardref05_Device_error.f fu a0 a1 (List.length a0.Lasts : Int)).bind fun t1 => (if (!decide (t1 = 0)) = true then some (0, t1) else (if 0 ≤ a1 ∧ a1 < (List.length a0.Stored : Int) then some ((ix a0.Stored a1), 0) else none)))
theorem rickyardref05_Device_Load.ok (fu : Nat) (w : World) (a0 : S_rickyardref05_Device) (G_0 : Nat) (V0_0 : Value) (R0_0 : Rd (kI .u64) w V0_0 a0.Lasts) (V0_1 : Value) (R0_1 : Rd (kI .u64) w V0_1 a0.Stored) (V0_2 : Value) (R0_2 : Rd (kI .u64) w V0_2 a0.Sent) (V0_3 : Value) (R0_3 : Rd kB w V0_3 a0.Flushed) (V0_4 : Value) (R0_4 : Rd (kI .i64) w V0_4 a0.Plan) (b_0 : Blk w G_0 65 [Seg.cell V0_0 R0_0.one, Seg.cell V0_1 R0_1.one, Seg.cell V0_2 R0_2.one, Seg.cell V0_3 R0_3.one, Seg.cell V0_4 R0_4.one, (sI a0.Since), (sI a0.Left), (sI a0.Steps)]) (a1 : Int) (r : Int × Int) (h : rickyardref05_Device_Load.f fu a0 a1 = some r) :
  Calls Try.prog 93 (([(pt G_0 0), .int .i64 a1] : List Value).toArray) w (fun e w' => ∃ v, e = .returned v ∧ v = .tuple #[.int .u64 r.1, .int .i64 r.2] ∧ Gr w w') := by
 unfold rickyardref05_Device_Load.f at h
 have fB : Gr w w := Fr.refl _ _
 refine calls_cw Try.func93 rfl Try.ntmps93 rfl ?_
 refine cw_seq ?_
 refine cw_region ?_
 refine ol_val (v := .int .u64 0) (xr_assign rfl rfl) rfl rfl rfl ?_
 refine ol_val (v := .int .i64 0) (xr_assign rfl rfl) rfl rfl rfl ?_
 refine ol_nil ?_
 refine cw_seq ?_
 refine cw_region ?_
 refine ol_val (v := (pt G_0 0)) (xr_move rfl rfl) rfl rfl rfl ?_
 refine ol_val (v := .int .i64 a1) (xr_move rfl rfl) rfl rfl rfl ?_
 refine ol_val (v := (pt G_0 0)) (xr_move rfl rfl) rfl rfl rfl ?_
 refine ol_val (v := (pt G_0 0)) (xr_nilCheck rfl rfl) rfl rfl rfl ?_
 refine ol_val (v := (pt G_0 0)) (xr_fieldAddr (p := 0) (q := 0) rfl fl65_0 rfl) rfl rfl rfl ?_
 refine ol_val (v := V0_0) (xr_load1 (v := V0_0) rfl ag46 rfl (b_0.seg 0 rfl rfl)) rfl rfl rfl ?_
 refine ol_val (v := .int .i64 (List.length a0.Lasts : Int)) (xr_lenR rfl Try.underlying46 rfl (R0_0.gr fB)) rfl rfl rfl ?_
 obtain ⟨t1, k2, h⟩ := bs h
 refine ol_op (opv_call rfl cal124 (ac rfl (ac rfl (ac rfl an))) (rickyardref05_Device_error.ok fu _ a0 G_0 V0_0 (R0_0.gr fB) V0_1 (R0_1.gr fB) V0_2 (R0_2.gr fB) V0_3 (R0_3.gr fB) V0_4 (R0_4.gr fB) b_0 a1 (List.length a0.Lasts : Int) _ k2)) rfl rfl rfl ?_
 rintro _ w4 ⟨rfl, q3⟩
 have b_0 := b_0.gr q3
 have fB := fB.gr q3
 refine ol_val (v := .int .i64 t1) (xr_assign rfl rfl) rfl rfl rfl ?_
 refine ol_nil ?_
 refine cw_seq ?_
 refine cw_seq ?_
 refine cw_region ?_
 refine ol_val (v := .int .i64 t1) (xr_move rfl rfl) rfl rfl rfl ?_
 refine ol_val (v := .bool (!decide (t1 = 0))) (xr_neI rfl Try.underlying3 rfl rfl rfl) rfl rfl rfl ?_
 refine ol_nil ?_
 rcases is h with ⟨c5, h⟩ | ⟨c5, h⟩
 ·refine cw_condT rfl c5 ?_
  refine cw_seq ?_
  refine cw_region ?_
  refine ol_val (v := .int .i64 t1) (xr_move rfl rfl) rfl rfl rfl ?_
  refine ol_val (v := .int .u64 0) (xr_assign rfl rfl) rfl rfl rfl ?_
  refine ol_val (v := .int .i64 t1) (xr_assign rfl rfl) rfl rfl rfl ?_
  refine ol_nil ?_
  refine cw_ret ?_
  repeat (first | with_reducible refine thn_r ?_ | with_reducible refine blk_r ?_)
  obtain rfl := Option.some.inj h
  refine fin_ret2 Try.results93 rfl rfl ?_
  exact ⟨_, rfl, rfl, fB⟩
 refine cw_condF rfl c5 ?_
 refine cw_skip ?_
 refine cw_seq ?_
 refine cw_region ?_
 refine ol_val (v := (pt G_0 0)) (xr_move rfl rfl) rfl rfl rfl ?_
 refine ol_val (v := (pt G_0 0)) (xr_nilCheck rfl rfl) rfl rfl rfl ?_
 refine ol_val (v := (pt G_0 1)) (xr_fieldAddr (p := 0) (q := 1) rfl fl65_1 rfl) rfl rfl rfl ?_
 refine ol_val (v := V0_1) (xr_load1 (v := V0_1) rfl ag46 rfl (b_0.seg 1 rfl rfl)) rfl rfl rfl ?_
 refine ol_val (v := .int .i64 a1) (xr_move rfl rfl) rfl rfl rfl ?_
 obtain ⟨g6, h⟩ := gs h
 refine ol_val (v := (pt ((sb V0_1)) (so V0_1 + Int.toNat a1 * 1))) (xr_indexR (K := (kI .u64)) (v := V0_1) rfl Try.underlying46 sz22 rfl (R0_1.gr fB) rfl g6.1 g6.2) rfl rfl rfl ?_
 refine ol_val (v := .int .u64 (ix a0.Stored a1)) (xr_load1 (v := .int .u64 (ix a0.Stored a1)) rfl ag22 rfl ((R0_1.gr fB).elem g6.1 g6.2)) rfl rfl rfl ?_
 refine ol_val (v := .int .u64 (ix a0.Stored a1)) (xr_assign rfl rfl) rfl rfl rfl ?_
 refine ol_val (v := .int .i64 0) (xr_assign rfl rfl) rfl rfl rfl ?_
 refine ol_nil ?_
 refine cw_ret ?_
 repeat (first | with_reducible refine thn_r ?_ | with_reducible refine blk_r ?_)
 obtain rfl := Option.some.inj h
 refine fin_ret2 Try.results93 rfl rfl ?_
 exact ⟨_, rfl, rfl, fB⟩
def rickyardref05_Device_Flush.s1 (fu : Nat) (a0 : S_rickyardref05_Device) (a1 : Int) : (Int × (List Int) × (List Bool)) → Option (Sum ((List Int) × (List Bool)) (Int × (List Int) × (List Bool))) := fun s50 => (if (decide (s50.1 < (IntKind.i64.wrap ((IntKind.i64.wrap (8 * a1)) + 8)))) = true then (if 0 ≤ s50.1 ∧ s50.1 < (List.length a0.Stored : Int) then (if 0 ≤ s50.1 ∧ s50.1 < (List.length s50.2.1 : Int) then (if 0 ≤ s50.1 ∧ s50.1 < (List.length s50.2.2 : Int) then some (Sum.inr ((IntKind.i64.wrap (s50.1 + 1)), (List.set s50.2.1 (Int.toNat s50.1) (ix a0.Stored s50.1)), (List.set s50.2.2 (Int.toNat s50.1) true))) else none) else none) else none) else some (Sum.inl (s50.2.1, s50.2.2)))
def rickyardref05_Device_Flush.f (fu : Nat) (a0 : S_rickyardref05_Device) (a1 : Int) : Option (Int × S_rickyardref05_Device) := ((rickyardref05_Device_error.f fu a0 a1 (IntKind.i64.wrap (Int.tdiv (List.length a0.Lasts : Int) 8))).bind fun t19 => (((if (decide (t19 = 0)) = true then ((loopM (rickyardref05_Device_Flush.s1 fu a0 a1) fu ((IntKind.i64.wrap (8 * a1)), a0.Sent, a0.Flushed)).bind fun e51 => ((rickyardref05_Device_step.f fu (⟨a0.Lasts, a0.Stored, e51.1, e51.2, a0.Plan, a0.Since, a0.Left, a0.Steps⟩ : S_rickyardref05_Device)).bind fun t82 => some (t82.Lasts, t82.Stored, t82.Sent, t82.Flushed, t82.Plan, t82.Since, t82.Left, t82.Steps))) else some (a0.Lasts, a0.Stored, a0.Sent, a0.Flushed, a0.Plan, a0.Since, a0.Left, a0.Steps)) : Option ((List Int) × (List Int) × (List Int) × (List Bool) × (List Int) × Int × Int × Int)).bind fun x23 => some (t19, (⟨x23.1, x23.2.1, x23.2.2.1, x23.2.2.2.1, x23.2.2.2.2.1, x23.2.2.2.2.2.1, x23.2.2.2.2.2.2.1, x23.2.2.2.2.2.2.2⟩ : S_rickyardref05_Device))))
theorem rickyardref05_Device_Flush.ok (fu : Nat) (w : World) (a0 : S_rickyardref05_Device) (G_0 : Nat) (V0_0 : Value) (O0_0 : Own (kI .u64) 22 w 0 V0_0 a0.Lasts) (V0_1 : Value) (O0_1 : Own (kI .u64) 22 w 0 V0_1 a0.Stored) (V0_2 : Value) (O0_2 : Own (kI .u64) 22 w 0 V0_2 a0.Sent) (V0_3 : Value) (O0_3 : Own kB 4 w 0 V0_3 a0.Flushed) (V0_4 : Value) (O0_4 : Own (kI .i64) 3 w 0 V0_4 a0.Plan) (b_0 : Blk w G_0 65 [Seg.cell V0_0 O0_0.one, Seg.cell V0_1 O0_1.one, Seg.cell V0_2 O0_2.one, Seg.cell V0_3 O0_3.one, Seg.cell V0_4 O0_4.one, (sI a0.Since), (sI a0.Left), (sI a0.Steps)]) (a1 : Int) (A_R0_0_R0_1 : OffV V0_0 V0_1) (A_R0_0_R0_2 : OffV V0_0 V0_2) (A_R0_1_R0_2 : OffV V0_1 V0_2) (r : Int × S_rickyardref05_Device) (h : rickyardref05_Device_Flush.f fu a0 a1 = some r) :
  Calls Try.prog 94 (([(pt G_0 0), .int .i64 a1] : List Value).toArray) w (fun e w' => ∃ v, e = .returned v ∧ ∃ u1 : Value, ∃ u4 : Value, ∃ u7 : Value, ∃ u10 : Value, ∃ u13 : Value, ∃ o2 : Own (kI .u64) 22 w' 0 u1 r.2.Lasts, ∃ m3 : ∀ g, Value.ownBlock u1 = some g → w.heap.size ≤ g ∨ (g = G_0 ∨ some g = Value.ownBlock V0_0 ∨ some g = Value.ownBlock V0_1 ∨ some g = Value.ownBlock V0_2 ∨ some g = Value.ownBlock V0_3 ∨ some g = Value.ownBlock V0_4), ∃ o5 : Own (kI .u64) 22 w' 0 u4 r.2.Stored, ∃ m6 : ∀ g, Value.ownBlock u4 = some g → w.heap.size ≤ g ∨ (g = G_0 ∨ some g = Value.ownBlock V0_0 ∨ some g = Value.ownBlock V0_1 ∨ some g = Value.ownBlock V0_2 ∨ some g = Value.ownBlock V0_3 ∨ some g = Value.ownBlock V0_4), ∃ o8 : Own (kI .u64) 22 w' 0 u7 r.2.Sent, ∃ m9 : ∀ g, Value.ownBlock u7 = some g → w.heap.size ≤ g ∨ (g = G_0 ∨ some g = Value.ownBlock V0_0 ∨ some g = Value.ownBlock V0_1 ∨ some g = Value.ownBlock V0_2 ∨ some g = Value.ownBlock V0_3 ∨ some g = Value.ownBlock V0_4), ∃ o11 : Own kB 4 w' 0 u10 r.2.Flushed, ∃ m12 : ∀ g, Value.ownBlock u10 = some g → w.heap.size ≤ g ∨ (g = G_0 ∨ some g = Value.ownBlock V0_0 ∨ some g = Value.ownBlock V0_1 ∨ some g = Value.ownBlock V0_2 ∨ some g = Value.ownBlock V0_3 ∨ some g = Value.ownBlock V0_4), ∃ o14 : Own (kI .i64) 3 w' 0 u13 r.2.Plan, ∃ m15 : ∀ g, Value.ownBlock u13 = some g → w.heap.size ≤ g ∨ (g = G_0 ∨ some g = Value.ownBlock V0_0 ∨ some g = Value.ownBlock V0_1 ∨ some g = Value.ownBlock V0_2 ∨ some g = Value.ownBlock V0_3 ∨ some g = Value.ownBlock V0_4), ∃ a16 : OffV u1 u4, ∃ a17 : OffV u1 u7, ∃ a18 : OffV u4 u7, v = .int .i64 r.1 ∧ Blk w' G_0 65 [Seg.cell u1 o2.one, Seg.cell u4 o5.one, Seg.cell u7 o8.one, Seg.cell u10 o11.one, Seg.cell u13 o14.one, (sI r.2.Since), (sI r.2.Left), (sI r.2.Steps)] ∧ Fr (fun j => j = G_0 ∨ some j = Value.ownBlock V0_0 ∨ some j = Value.ownBlock V0_1 ∨ some j = Value.ownBlock V0_2 ∨ some j = Value.ownBlock V0_3 ∨ some j = Value.ownBlock V0_4) w w') := by
 unfold rickyardref05_Device_Flush.f at h
 have fB : Fr (fun j => j = G_0 ∨ some j = Value.ownBlock V0_0 ∨ some j = Value.ownBlock V0_1 ∨ some j = Value.ownBlock V0_2 ∨ some j = Value.ownBlock V0_3 ∨ some j = Value.ownBlock V0_4) w w := Fr.refl _ _
 have M0_0 : ∀ g, Value.ownBlock V0_0 = some g → w.heap.size ≤ g ∨ (g = G_0 ∨ some g = Value.ownBlock V0_0 ∨ some g = Value.ownBlock V0_1 ∨ some g = Value.ownBlock V0_2 ∨ some g = Value.ownBlock V0_3 ∨ some g = Value.ownBlock V0_4) := fun g hg => .inr (.inr (.inl hg.symm))
 have M0_1 : ∀ g, Value.ownBlock V0_1 = some g → w.heap.size ≤ g ∨ (g = G_0 ∨ some g = Value.ownBlock V0_0 ∨ some g = Value.ownBlock V0_1 ∨ some g = Value.ownBlock V0_2 ∨ some g = Value.ownBlock V0_3 ∨ some g = Value.ownBlock V0_4) := fun g hg => .inr (.inr (.inr (.inl hg.symm)))
 have M0_2 : ∀ g, Value.ownBlock V0_2 = some g → w.heap.size ≤ g ∨ (g = G_0 ∨ some g = Value.ownBlock V0_0 ∨ some g = Value.ownBlock V0_1 ∨ some g = Value.ownBlock V0_2 ∨ some g = Value.ownBlock V0_3 ∨ some g = Value.ownBlock V0_4) := fun g hg => .inr (.inr (.inr (.inr (.inl hg.symm))))
 have M0_3 : ∀ g, Value.ownBlock V0_3 = some g → w.heap.size ≤ g ∨ (g = G_0 ∨ some g = Value.ownBlock V0_0 ∨ some g = Value.ownBlock V0_1 ∨ some g = Value.ownBlock V0_2 ∨ some g = Value.ownBlock V0_3 ∨ some g = Value.ownBlock V0_4) := fun g hg => .inr (.inr (.inr (.inr (.inr (.inl hg.symm)))))
 have M0_4 : ∀ g, Value.ownBlock V0_4 = some g → w.heap.size ≤ g ∨ (g = G_0 ∨ some g = Value.ownBlock V0_0 ∨ some g = Value.ownBlock V0_1 ∨ some g = Value.ownBlock V0_2 ∨ some g = Value.ownBlock V0_3 ∨ some g = Value.ownBlock V0_4) := fun g hg => .inr (.inr (.inr (.inr (.inr (.inr hg.symm)))))
 refine calls_cw Try.func94 rfl Try.ntmps94 rfl ?_
 refine cw_seq ?_
 refine cw_region ?_
 refine ol_val (v := .int .i64 0) (xr_assign rfl rfl) rfl rfl rfl ?_
 refine ol_nil ?_
 refine cw_seq ?_
 refine cw_region ?_
 refine ol_val (v := (pt G_0 0)) (xr_move rfl rfl) rfl rfl rfl ?_
 refine ol_val (v := .int .i64 a1) (xr_move rfl rfl) rfl rfl rfl ?_
 refine ol_val (v := (pt G_0 0)) (xr_move rfl rfl) rfl rfl rfl ?_
 refine ol_val (v := (pt G_0 0)) (xr_nilCheck rfl rfl) rfl rfl rfl ?_
 refine ol_val (v := (pt G_0 0)) (xr_fieldAddr (p := 0) (q := 0) rfl fl65_0 rfl) rfl rfl rfl ?_
 refine ol_val (v := V0_0) (xr_load1 (v := V0_0) rfl ag46 rfl (b_0.seg 0 rfl rfl)) rfl rfl rfl ?_
 refine ol_val (v := .int .i64 (List.length a0.Lasts : Int)) (xr_lenR rfl Try.underlying46 rfl O0_0.rd) rfl rfl rfl ?_
 refine ol_val (v := .int .i64 (IntKind.i64.wrap (Int.tdiv (List.length a0.Lasts : Int) 8))) (xr_quo rfl rfl rfl (by decide)) rfl rfl rfl ?_
 obtain ⟨t19, k20, h⟩ := bs h
 refine ol_op (opv_call rfl cal124 (ac rfl (ac rfl (ac rfl an))) (rickyardref05_Device_error.ok fu _ a0 G_0 V0_0 (O0_0.rd) V0_1 (O0_1.rd) V0_2 (O0_2.rd) V0_3 (O0_3.rd) V0_4 (O0_4.rd) b_0 a1 (IntKind.i64.wrap (Int.tdiv (List.length a0.Lasts : Int) 8)) _ k20)) rfl rfl rfl ?_
 rintro _ w22 ⟨rfl, q21⟩
 have b_0 := b_0.gr q21
 have O0_0 := O0_0.gr q21
 have O0_1 := O0_1.gr q21
 have O0_2 := O0_2.gr q21
 have O0_3 := O0_3.gr q21
 have O0_4 := O0_4.gr q21
 have fB := fB.gr q21
 refine ol_val (v := .int .i64 t19) (xr_assign rfl rfl) rfl rfl rfl ?_
 refine ol_nil ?_
 refine cw_seq ?_
 refine cw_seq ?_
 refine cw_region ?_
 refine ol_val (v := .int .i64 t19) (xr_move rfl rfl) rfl rfl rfl ?_
 refine ol_val (v := .bool (decide (t19 = 0))) (xr_eqI rfl Try.underlying3 rfl rfl rfl) rfl rfl rfl ?_
 refine ol_nil ?_
 obtain ⟨x23, j24, h25⟩ := bs h
 refine cw_mid (fun ρ' w' => ∃ v26 : Value, ∃ v30 : Value, ∃ v34 : Value, ∃ v38 : Value, ∃ v42 : Value, ∃ o27 : Own (kI .u64) 22 w' 0 v26 x23.1, ∃ o31 : Own (kI .u64) 22 w' 0 v30 x23.2.1, ∃ o35 : Own (kI .u64) 22 w' 0 v34 x23.2.2.1, ∃ o39 : Own kB 4 w' 0 v38 x23.2.2.2.1, ∃ o43 : Own (kI .i64) 3 w' 0 v42 x23.2.2.2.2.1, ∃ m29 : ∀ g, Value.ownBlock v26 = some g → w.heap.size ≤ g ∨ (g = G_0 ∨ some g = Value.ownBlock V0_0 ∨ some g = Value.ownBlock V0_1 ∨ some g = Value.ownBlock V0_2 ∨ some g = Value.ownBlock V0_3 ∨ some g = Value.ownBlock V0_4), ∃ m33 : ∀ g, Value.ownBlock v30 = some g → w.heap.size ≤ g ∨ (g = G_0 ∨ some g = Value.ownBlock V0_0 ∨ some g = Value.ownBlock V0_1 ∨ some g = Value.ownBlock V0_2 ∨ some g = Value.ownBlock V0_3 ∨ some g = Value.ownBlock V0_4), ∃ m37 : ∀ g, Value.ownBlock v34 = some g → w.heap.size ≤ g ∨ (g = G_0 ∨ some g = Value.ownBlock V0_0 ∨ some g = Value.ownBlock V0_1 ∨ some g = Value.ownBlock V0_2 ∨ some g = Value.ownBlock V0_3 ∨ some g = Value.ownBlock V0_4), ∃ m41 : ∀ g, Value.ownBlock v38 = some g → w.heap.size ≤ g ∨ (g = G_0 ∨ some g = Value.ownBlock V0_0 ∨ some g = Value.ownBlock V0_1 ∨ some g = Value.ownBlock V0_2 ∨ some g = Value.ownBlock V0_3 ∨ some g = Value.ownBlock V0_4), ∃ m45 : ∀ g, Value.ownBlock v42 = some g → w.heap.size ≤ g ∨ (g = G_0 ∨ some g = Value.ownBlock V0_0 ∨ some g = Value.ownBlock V0_1 ∨ some g = Value.ownBlock V0_2 ∨ some g = Value.ownBlock V0_3 ∨ some g = Value.ownBlock V0_4), OffV v26 v30 ∧ OffV v26 v34 ∧ OffV v30 v34 ∧ ρ' 5 = .int .i64 t19 ∧ Blk w' G_0 65 [Seg.cell v26 o27.one, Seg.cell v30 o31.one, Seg.cell v34 o35.one, Seg.cell v38 o39.one, Seg.cell v42 o43.one, (sI x23.2.2.2.2.2.1), (sI x23.2.2.2.2.2.2.1), (sI x23.2.2.2.2.2.2.2)] ∧ Fr (fun j => j = G_0 ∨ some j = Value.ownBlock V0_0 ∨ some j = Value.ownBlock V0_1 ∨ some j = Value.ownBlock V0_2 ∨ some j = Value.ownBlock V0_3 ∨ some j = Value.ownBlock V0_4) w w') ?_ ?_
 ·have h := j24
  rcases is h with ⟨c49, h⟩ | ⟨c49, h⟩
  ·refine cw_condT rfl c49 ?_
   refine cw_seq ?_
   refine cw_seq ?_
   refine cw_region ?_
   refine ol_val (v := .int .i64 a1) (xr_move rfl rfl) rfl rfl rfl ?_
   refine ol_val (v := .int .i64 (IntKind.i64.wrap (8 * a1))) (xr_mul rfl rfl rfl) rfl rfl rfl ?_
   refine ol_val (v := .int .i64 (IntKind.i64.wrap (8 * a1))) (xr_assign rfl rfl) rfl rfl rfl ?_
   refine ol_nil ?_
   obtain ⟨e51, l52, h53⟩ := bs h
   refine cw_mid (fun ρ' w' => ∃ O0_0 : Own (kI .u64) 22 w' 0 V0_0 a0.Lasts, ∃ O0_1 : Own (kI .u64) 22 w' 0 V0_1 a0.Stored, ∃ O0_2 : Own (kI .u64) 22 w' 0 V0_2 e51.1, ∃ O0_3 : Own kB 4 w' 0 V0_3 e51.2, ∃ O0_4 : Own (kI .i64) 3 w' 0 V0_4 a0.Plan, ρ' 0 = (pt G_0 0) ∧ ρ' 5 = .int .i64 t19 ∧ Blk w' G_0 65 [Seg.cell V0_0 O0_0.one, Seg.cell V0_1 O0_1.one, Seg.cell V0_2 O0_2.one, Seg.cell V0_3 O0_3.one, Seg.cell V0_4 O0_4.one, (sI a0.Since), (sI a0.Left), (sI a0.Steps)] ∧ Fr (fun j => j = G_0 ∨ some j = Value.ownBlock V0_0 ∨ some j = Value.ownBlock V0_1 ∨ some j = Value.ownBlock V0_2 ∨ some j = Value.ownBlock V0_3 ∨ some j = Value.ownBlock V0_4) w w') ?_ ?_
   ·refine cw_block ?_
    refine cw_round (fun (s50 : Int × (List Int) × (List Bool)) ρ' w' => ∃ O0_0 : Own (kI .u64) 22 w' 0 V0_0 a0.Lasts, ∃ O0_1 : Own (kI .u64) 22 w' 0 V0_1 a0.Stored, ∃ O0_2 : Own (kI .u64) 22 w' 0 V0_2 s50.2.1, ∃ O0_3 : Own kB 4 w' 0 V0_3 s50.2.2, ∃ O0_4 : Own (kI .i64) 3 w' 0 V0_4 a0.Plan, ρ' 0 = (pt G_0 0) ∧ ρ' 1 = .int .i64 a1 ∧ ρ' 5 = .int .i64 t19 ∧ ρ' 6 = .int .i64 s50.1 ∧ Blk w' G_0 65 [Seg.cell V0_0 O0_0.one, Seg.cell V0_1 O0_1.one, Seg.cell V0_2 O0_2.one, Seg.cell V0_3 O0_3.one, Seg.cell V0_4 O0_4.one, (sI a0.Since), (sI a0.Left), (sI a0.Steps)] ∧ Fr (fun j => j = G_0 ∨ some j = Value.ownBlock V0_0 ∨ some j = Value.ownBlock V0_1 ∨ some j = Value.ownBlock V0_2 ∨ some j = Value.ownBlock V0_3 ∨ some j = Value.ownBlock V0_4) w w') l52 ?_ ?_
    ·skip
     exact ⟨O0_0, O0_1, O0_2, O0_3, O0_4, rfl, rfl, rfl, rfl, b_0, fB⟩
    rintro s50 x56 ρ54 w55 ⟨O0_0, O0_1, O0_2, O0_3, O0_4, e0, e1, e5, e6, b_0, fB⟩ h
    unfold rickyardref05_Device_Flush.s1 at h
    refine cw_seq ?_
    refine cw_seq ?_
    refine cw_region ?_
    refine ol_val (v := .int .i64 s50.1) (xr_move rfl e6) rfl rfl rfl ?_
    refine ol_val (v := .int .i64 a1) (xr_move rfl e1) rfl rfl rfl ?_
    refine ol_val (v := .int .i64 (IntKind.i64.wrap (8 * a1))) (xr_mul rfl rfl rfl) rfl rfl rfl ?_
    refine ol_val (v := .int .i64 (IntKind.i64.wrap ((IntKind.i64.wrap (8 * a1)) + 8))) (xr_add rfl rfl rfl) rfl rfl rfl ?_
    refine ol_val (v := .bool (decide (s50.1 < (IntKind.i64.wrap ((IntKind.i64.wrap (8 * a1)) + 8))))) (xr_lss rfl rfl rfl) rfl rfl rfl ?_
    refine ol_nil ?_
    rcases is h with ⟨c57, h⟩ | ⟨c57, h⟩
    ·refine cw_condT rfl c57 ?_
     refine cw_skip ?_
     refine cw_seq ?_
     refine cw_block ?_
     refine cw_seq ?_
     obtain ⟨g58, h⟩ := gs h
     refine cw_drawL 12 [fun vz wz => vz = ((pt G_0 0) : Value), fun vz wz => vz = ((pt G_0 0) : Value), fun vz wz => vz = ((pt G_0 2) : Value), fun vz wz => vz = (V0_2 : Value), fun vz wz => vz = (.int .i64 s50.1 : Value), fun vz wz => vz = ((pt G_0 0) : Value), fun vz wz => vz = ((pt G_0 0) : Value), fun vz wz => vz = ((pt G_0 1) : Value), fun vz wz => vz = (V0_1 : Value), fun vz wz => vz = (.int .i64 s50.1 : Value), fun vz wz => vz = ((pt ((sb V0_1)) (so V0_1 + Int.toNat s50.1 * 1)) : Value), fun vz wz => vz = (.int .u64 (ix a0.Stored s50.1) : Value)] mo rfl ⟨fun _ _ _ h _ => h, fun _ _ _ h _ => h, fun _ _ _ h _ => h, fun _ _ _ h _ => h, fun _ _ _ h _ => h, fun _ _ _ h _ => h, fun _ _ _ h _ => h, fun _ _ _ h _ => h, fun _ _ _ h _ => h, fun _ _ _ h _ => h, fun _ _ _ h _ => h, fun _ _ _ h _ => h, trivial⟩ ?_ ?_
     ·refine ⟨?_, ?_, ?_, ?_, ?_, ?_, ?_, ?_, ?_, ?_, ?_, ?_, trivial⟩
      ·intro ρz wz hz hk hd
       exact sk_val (v := (pt G_0 0)) (xr_move rfl ((hk 0 rfl).trans e0)) rfl rfl
      ·intro ρz wz hz hk hd
       exact sk_val (v := (pt G_0 0)) (xr_nilCheck rfl (hd 0 rfl 27 rfl)) rfl rfl
      ·intro ρz wz hz hk hd
       exact sk_val (v := (pt G_0 2)) (xr_fieldAddr (p := 0) (q := 2) rfl fl65_2 (hd 1 rfl 28 rfl)) rfl rfl
      ·intro ρz wz hz hk hd
       exact sk_val (v := V0_2) (xr_load1 (v := V0_2) rfl ag46 (hd 2 rfl 29 rfl) ((b_0.gr hz).seg 2 rfl rfl)) rfl rfl
      ·intro ρz wz hz hk hd
       exact sk_val (v := .int .i64 s50.1) (xr_move rfl ((hk 6 rfl).trans e6)) rfl rfl
      ·intro ρz wz hz hk hd
       exact sk_val (v := (pt G_0 0)) (xr_move rfl ((hk 0 rfl).trans e0)) rfl rfl
      ·intro ρz wz hz hk hd
       exact sk_val (v := (pt G_0 0)) (xr_nilCheck rfl (hd 5 rfl 32 rfl)) rfl rfl
      ·intro ρz wz hz hk hd
       exact sk_val (v := (pt G_0 1)) (xr_fieldAddr (p := 0) (q := 1) rfl fl65_1 (hd 6 rfl 33 rfl)) rfl rfl
      ·intro ρz wz hz hk hd
       exact sk_val (v := V0_1) (xr_load1 (v := V0_1) rfl ag46 (hd 7 rfl 34 rfl) ((b_0.gr hz).seg 1 rfl rfl)) rfl rfl
      ·intro ρz wz hz hk hd
       exact sk_val (v := .int .i64 s50.1) (xr_move rfl ((hk 6 rfl).trans e6)) rfl rfl
      ·intro ρz wz hz hk hd
       exact sk_val (xr_indexR (K := (kI .u64)) (v := V0_1) rfl Try.underlying46 sz22 (hd 8 rfl 35 rfl) (O0_1.gr hz).rd (hd 9 rfl 36 rfl) g58.1 g58.2) rfl rfl
      intro ρz wz hz hk hd
      exact sk_val (v := .int .u64 (ix a0.Stored s50.1)) (xr_load1 (v := .int .u64 (ix a0.Stored s50.1)) rfl ag22 (hd 10 rfl 37 rfl) ((O0_1.gr hz).rd.elem g58.1 g58.2)) rfl rfl
     intro ρ59 w60 q61 hk hd
     have e0 := (hk 0 rfl).trans e0
     have e1 := (hk 1 rfl).trans e1
     have e5 := (hk 5 rfl).trans e5
     have e6 := (hk 6 rfl).trans e6
     have e30 := hd 3 rfl 30 rfl
     have e31 := hd 4 rfl 31 rfl
     have e38 := hd 11 rfl 38 rfl
     have b_0 := b_0.gr q61
     have O0_0 := O0_0.gr q61
     have O0_1 := O0_1.gr q61
     have O0_2 := O0_2.gr q61
     have O0_3 := O0_3.gr q61
     have O0_4 := O0_4.gr q61
     have fB := fB.gr q61
     obtain ⟨g62, h⟩ := gs h
     refine ol_val (v := (pt ((sb V0_2)) (so V0_2 + Int.toNat s50.1 * 1))) (xr_indexR (K := (kI .u64)) (v := V0_2) rfl Try.underlying46 sz22 e30 O0_2.rd e31 g62.1 g62.2) rfl rfl rfl ?_
     have f64 := off_ty b_0 O0_2 (by decide)
     have f65 := A_R0_0_R0_2
     have f66 := A_R0_1_R0_2
     have f67 := OffV.ty O0_3 O0_2 (by decide)
     have f68 := OffV.ty O0_4 O0_2 (by decide)
     refine ol_op0 (opv_storeRow (z := (ix a0.Stored s50.1)) (xs := cellsOf [Seg.cell (.int .u64 (ix a0.Stored s50.1))]) rfl sz22 rfl e38 rfl (len_cellsOf _) (one_cellsOf _) O0_2 g62.1 g62.2 (Spl.whole ((Kd.len _ _).trans (Kd.len _ _).symm)) rfl) rfl rfl ?_
     rintro _ w70 ⟨O0_2, q63⟩
     have b_0 := b_0.wrO q63 f64
     have O0_0 := O0_0.wrV q63 f65
     have O0_1 := O0_1.wrV q63 f66
     have O0_3 := O0_3.wrV q63 f67
     have O0_4 := O0_4.wrV q63 f68
     have fB := fB.wrM q63 M0_2
     refine ol_nil ?_
     refine cw_region ?_
     refine ol_val (v := (pt G_0 0)) (xr_move rfl e0) rfl rfl rfl ?_
     refine ol_val (v := (pt G_0 0)) (xr_nilCheck rfl rfl) rfl rfl rfl ?_
     refine ol_val (v := (pt G_0 3)) (xr_fieldAddr (p := 0) (q := 3) rfl fl65_3 rfl) rfl rfl rfl ?_
     refine ol_val (v := V0_3) (xr_load1 (v := V0_3) rfl ag63 rfl (b_0.seg 3 rfl rfl)) rfl rfl rfl ?_
     refine ol_val (v := .int .i64 s50.1) (xr_move rfl e6) rfl rfl rfl ?_
     obtain ⟨g71, h⟩ := gs h
     refine ol_val (v := (pt ((sb V0_3)) (so V0_3 + Int.toNat s50.1 * 1))) (xr_indexR (K := kB) (v := V0_3) rfl Try.underlying63 sz4 rfl O0_3.rd rfl g71.1 g71.2) rfl rfl rfl ?_
     have f73 := off_ty b_0 O0_3 (by decide)
     have f74 := OffV.ty O0_0 O0_3 (by decide)
     have f75 := OffV.ty O0_1 O0_3 (by decide)
     have f76 := OffV.ty O0_2 O0_3 (by decide)
     have f77 := OffV.ty O0_4 O0_3 (by decide)
     refine ol_op0 (opv_storeRow (z := true) (xs := cellsOf [Seg.cell (.bool true)]) rfl sz4 rfl rfl rfl (len_cellsOf _) (one_cellsOf _) O0_3 g71.1 g71.2 (Spl.whole ((Kd.len _ _).trans (Kd.len _ _).symm)) rfl) rfl rfl ?_
     rintro _ w79 ⟨O0_3, q72⟩
     have b_0 := b_0.wrO q72 f73
     have O0_0 := O0_0.wrV q72 f74
     have O0_1 := O0_1.wrV q72 f75
     have O0_2 := O0_2.wrV q72 f76
     have O0_4 := O0_4.wrV q72 f77
     have fB := fB.wrM q72 M0_3
     refine ol_nil ?_
     refine blk_i ?_
     refine cw_region ?_
     refine ol_val (v := .int .i64 s50.1) (xr_move rfl e6) rfl rfl rfl ?_
     refine ol_val (v := .int .i64 (IntKind.i64.wrap (s50.1 + 1))) (xr_add rfl rfl rfl) rfl rfl rfl ?_
     refine ol_val (v := .int .i64 (IntKind.i64.wrap (s50.1 + 1))) (xr_assign rfl rfl) rfl rfl rfl ?_
     refine ol_nil ?_
     obtain rfl := Option.some.inj h
     refine lp_in ?_
     exact ⟨O0_0, O0_1, O0_2, O0_3, O0_4, e0, e1, e5, rfl, b_0, fB⟩
    refine cw_condF rfl c57 ?_
    refine cw_exit ?_
    repeat (first | with_reducible refine thn_e ?_ | with_reducible refine blk_e rfl ?_)
    obtain rfl := Option.some.inj h
    refine lp_exit ?_
    rintro rfl
    refine thn_x ?_
    exact ⟨O0_0, O0_1, O0_2, O0_3, O0_4, e0, e5, b_0, fB⟩
   rintro ρ80 w81 ⟨O0_0, O0_1, O0_2, O0_3, O0_4, e0, e5, b_0, fB⟩
   have h := h53
   refine cw_region ?_
   refine ol_val (v := (pt G_0 0)) (xr_move rfl e0) rfl rfl rfl ?_
   obtain ⟨t82, k83, h⟩ := bs h
   have c108 : ∀ k, (k = G_0 ∨ some k = Value.ownBlock V0_0 ∨ some k = Value.ownBlock V0_1 ∨ some k = Value.ownBlock V0_2 ∨ some k = Value.ownBlock V0_3 ∨ some k = Value.ownBlock V0_4) → (w.heap.size ≤ k ∨ (k = G_0 ∨ some k = Value.ownBlock V0_0 ∨ some k = Value.ownBlock V0_1 ∨ some k = Value.ownBlock V0_2 ∨ some k = Value.ownBlock V0_3 ∨ some k = Value.ownBlock V0_4)) := (cv_or (cv_eq (.inr (.inl rfl))) (cv_or (cv_own M0_0) (cv_or (cv_own M0_1) (cv_or (cv_own M0_2) (cv_or (cv_own M0_3) (cv_own M0_4))))))
   refine ol_op (opv_call rfl cal125 (ac rfl an) (rickyardref05_Device_step.ok fu _ (⟨a0.Lasts, a0.Stored, e51.1, e51.2, a0.Plan, a0.Since, a0.Left, a0.Steps⟩ : S_rickyardref05_Device) G_0 V0_0 (Own.base O0_0 (Nat.zero_le _)) V0_1 (Own.base O0_1 (Nat.zero_le _)) V0_2 (Own.base O0_2 (Nat.zero_le _)) V0_3 (Own.base O0_3 (Nat.zero_le _)) V0_4 (Own.base O0_4 (Nat.zero_le _)) b_0 A_R0_0_R0_1 A_R0_0_R0_2 A_R0_1_R0_2 _ k83)) rfl rfl rfl ?_
   rintro _ w109 ⟨u85, u89, u93, u97, u101, o86, m87, o90, m91, o94, m95, o98, m99, o102, m103, a105, a106, a107, rfl, b_0, q84⟩
   have m87 : ∀ g, Value.ownBlock u85 = some g → w.heap.size ≤ g ∨ (g = G_0 ∨ some g = Value.ownBlock V0_0 ∨ some g = Value.ownBlock V0_1 ∨ some g = Value.ownBlock V0_2 ∨ some g = Value.ownBlock V0_3 ∨ some g = Value.ownBlock V0_4) := fun g hg => (m87 g hg).elim (fun x => .inl (Nat.le_trans fB.size x)) (c108 g)
   have m91 : ∀ g, Value.ownBlock u89 = some g → w.heap.size ≤ g ∨ (g = G_0 ∨ some g = Value.ownBlock V0_0 ∨ some g = Value.ownBlock V0_1 ∨ some g = Value.ownBlock V0_2 ∨ some g = Value.ownBlock V0_3 ∨ some g = Value.ownBlock V0_4) := fun g hg => (m91 g hg).elim (fun x => .inl (Nat.le_trans fB.size x)) (c108 g)
   have m95 : ∀ g, Value.ownBlock u93 = some g → w.heap.size ≤ g ∨ (g = G_0 ∨ some g = Value.ownBlock V0_0 ∨ some g = Value.ownBlock V0_1 ∨ some g = Value.ownBlock V0_2 ∨ some g = Value.ownBlock V0_3 ∨ some g = Value.ownBlock V0_4) := fun g hg => (m95 g hg).elim (fun x => .inl (Nat.le_trans fB.size x)) (c108 g)
   have m99 : ∀ g, Value.ownBlock u97 = some g → w.heap.size ≤ g ∨ (g = G_0 ∨ some g = Value.ownBlock V0_0 ∨ some g = Value.ownBlock V0_1 ∨ some g = Value.ownBlock V0_2 ∨ some g = Value.ownBlock V0_3 ∨ some g = Value.ownBlock V0_4) := fun g hg => (m99 g hg).elim (fun x => .inl (Nat.le_trans fB.size x)) (c108 g)
   have m103 : ∀ g, Value.ownBlock u101 = some g → w.heap.size ≤ g ∨ (g = G_0 ∨ some g = Value.ownBlock V0_0 ∨ some g = Value.ownBlock V0_1 ∨ some g = Value.ownBlock V0_2 ∨ some g = Value.ownBlock V0_3 ∨ some g = Value.ownBlock V0_4) := fun g hg => (m103 g hg).elim (fun x => .inl (Nat.le_trans fB.size x)) (c108 g)
   have fB := fB.call q84 c108
   refine ol_nil ?_
   obtain rfl := Option.some.inj h
   refine thn_i ?_
   exact ⟨u85, u89, u93, u97, u101, o86, o90, o94, o98, o102, m87, m91, m95, m99, m103, a105, a106, a107, e5, b_0, fB⟩
  refine cw_condF rfl c49 ?_
  refine cw_skip ?_
  obtain rfl := Option.some.inj h
  refine thn_i ?_
  exact ⟨V0_0, V0_1, V0_2, V0_3, V0_4, O0_0, O0_1, O0_2, O0_3, O0_4, M0_0, M0_1, M0_2, M0_3, M0_4, A_R0_0_R0_1, A_R0_0_R0_2, A_R0_1_R0_2, rfl, b_0, fB⟩
 rintro ρ110 w111 ⟨v26, v30, v34, v38, v42, o27, o31, o35, o39, o43, m29, m33, m37, m41, m45, a46, a47, a48, e5, b_0, fB⟩
 have h := h25
 refine cw_seq ?_
 refine cw_region ?_
 refine ol_val (v := .int .i64 t19) (xr_move rfl e5) rfl rfl rfl ?_
 refine ol_val (v := .int .i64 t19) (xr_assign rfl rfl) rfl rfl rfl ?_
 refine ol_nil ?_
 refine cw_ret ?_
 repeat (first | with_reducible refine thn_r ?_ | with_reducible refine blk_r ?_)
 obtain rfl := Option.some.inj h
 refine fin_ret1 Try.results94 rfl ?_
 exact ⟨_, rfl, v26, v30, v34, v38, v42, o27, m29, o31, m33, o35, m37, o39, m41, o43, m45, a46, a47, a48, rfl, b_0, fB⟩
def rickyardref05_Device_Fence.s1 (fu : Nat) : (Int × (List Int) × (List Int) × (List Int) × (List Bool) × (List Int) × Int × Int × Int) → Option (Sum ((List Int) × (List Int) × (List Int) × (List Bool) × (List Int) × Int × Int × Int) (Int × (List Int) × (List Int) × (List Int) × (List Bool) × (List Int) × Int × Int × Int)) := fun s50 => (if (decide (s50.1 < (List.length s50.2.1 : Int))) = true then (if 0 ≤ s50.1 ∧ s50.1 < (List.length s50.2.2.2.2.1 : Int) then (((if (ix s50.2.2.2.2.1 s50.1) = true then (if 0 ≤ s50.1 ∧ s50.1 < (List.length s50.2.2.2.1 : Int) then ((rickyardref05_Device_last.f fu (⟨s50.2.1, s50.2.2.1, s50.2.2.2.1, s50.2.2.2.2.1, s50.2.2.2.2.2.1, s50.2.2.2.2.2.2.1, s50.2.2.2.2.2.2.2.1, s50.2.2.2.2.2.2.2.2⟩ : S_rickyardref05_Device) s50.1 (ix s50.2.2.2.1 s50.1)).bind fun t133 => some (t133.Lasts, t133.Stored, t133.Sent, t133.Flushed, t133.Plan, t133.Since, t133.Left, t133.Steps)) else none) else some (s50.2.1, s50.2.2.1, s50.2.2.2.1, s50.2.2.2.2.1, s50.2.2.2.2.2.1, s50.2.2.2.2.2.2.1, s50.2.2.2.2.2.2.2.1, s50.2.2.2.2.2.2.2.2)) : Option ((List Int) × (List Int) × (List Int) × (List Bool) × (List Int) × Int × Int × Int)).bind fun x105 => some (Sum.inr ((IntKind.i64.wrap (s50.1 + 1)), x105.1, x105.2.1, x105.2.2.1, x105.2.2.2.1, x105.2.2.2.2.1, x105.2.2.2.2.2.1, x105.2.2.2.2.2.2.1, x105.2.2.2.2.2.2.2))) else none) else some (Sum.inl (s50.2.1, s50.2.2.1, s50.2.2.2.1, s50.2.2.2.2.1, s50.2.2.2.2.2.1, s50.2.2.2.2.2.2.1, s50.2.2.2.2.2.2.2.1, s50.2.2.2.2.2.2.2.2)))
def rickyardref05_Device_Fence.f (fu : Nat) (a0 : S_rickyardref05_Device) : Option (Int × S_rickyardref05_Device) := ((rickyardref05_Device_error.f fu a0 0 1).bind fun t19 => (((if (decide (t19 = 0)) = true then ((loopM (rickyardref05_Device_Fence.s1 fu) fu (0, a0.Lasts, a0.Stored, a0.Sent, a0.Flushed, a0.Plan, a0.Since, a0.Left, a0.Steps)).bind fun e51 => ((rickyardref05_Device_step.f fu (⟨e51.1, e51.2.1, e51.2.2.1, e51.2.2.2.1, e51.2.2.2.2.1, e51.2.2.2.2.2.1, e51.2.2.2.2.2.2.1, e51.2.2.2.2.2.2.2⟩ : S_rickyardref05_Device)).bind fun t165 => some (t165.Lasts, t165.Stored, t165.Sent, t165.Flushed, t165.Plan, t165.Since, t165.Left, t165.Steps))) else some (a0.Lasts, a0.Stored, a0.Sent, a0.Flushed, a0.Plan, a0.Since, a0.Left, a0.Steps)) : Option ((List Int) × (List Int) × (List Int) × (List Bool) × (List Int) × Int × Int × Int)).bind fun x23 => some (t19, (⟨x23.1, x23.2.1, x23.2.2.1, x23.2.2.2.1, x23.2.2.2.2.1, x23.2.2.2.2.2.1, x23.2.2.2.2.2.2.1, x23.2.2.2.2.2.2.2⟩ : S_rickyardref05_Device))))
theorem rickyardref05_Device_Fence.ok (fu : Nat) (w : World) (a0 : S_rickyardref05_Device) (G_0 : Nat) (V0_0 : Value) (O0_0 : Own (kI .u64) 22 w 0 V0_0 a0.Lasts) (V0_1 : Value) (O0_1 : Own (kI .u64) 22 w 0 V0_1 a0.Stored) (V0_2 : Value) (O0_2 : Own (kI .u64) 22 w 0 V0_2 a0.Sent) (V0_3 : Value) (O0_3 : Own kB 4 w 0 V0_3 a0.Flushed) (V0_4 : Value) (O0_4 : Own (kI .i64) 3 w 0 V0_4 a0.Plan) (b_0 : Blk w G_0 65 [Seg.cell V0_0 O0_0.one, Seg.cell V0_1 O0_1.one, Seg.cell V0_2 O0_2.one, Seg.cell V0_3 O0_3.one, Seg.cell V0_4 O0_4.one, (sI a0.Since), (sI a0.Left), (sI a0.Steps)]) (A_R0_0_R0_1 : OffV V0_0 V0_1) (A_R0_0_R0_2 : OffV V0_0 V0_2) (A_R0_1_R0_2 : OffV V0_1 V0_2) (r : Int × S_rickyardref05_Device) (h : rickyardref05_Device_Fence.f fu a0 = some r) :
  Calls Try.prog 95 (([(pt G_0 0)] : List Value).toArray) w (fun e w' => ∃ v, e = .returned v ∧ ∃ u1 : Value, ∃ u4 : Value, ∃ u7 : Value, ∃ u10 : Value, ∃ u13 : Value, ∃ o2 : Own (kI .u64) 22 w' 0 u1 r.2.Lasts, ∃ m3 : ∀ g, Value.ownBlock u1 = some g → w.heap.size ≤ g ∨ (g = G_0 ∨ some g = Value.ownBlock V0_0 ∨ some g = Value.ownBlock V0_1 ∨ some g = Value.ownBlock V0_2 ∨ some g = Value.ownBlock V0_3 ∨ some g = Value.ownBlock V0_4), ∃ o5 : Own (kI .u64) 22 w' 0 u4 r.2.Stored, ∃ m6 : ∀ g, Value.ownBlock u4 = some g → w.heap.size ≤ g ∨ (g = G_0 ∨ some g = Value.ownBlock V0_0 ∨ some g = Value.ownBlock V0_1 ∨ some g = Value.ownBlock V0_2 ∨ some g = Value.ownBlock V0_3 ∨ some g = Value.ownBlock V0_4), ∃ o8 : Own (kI .u64) 22 w' 0 u7 r.2.Sent, ∃ m9 : ∀ g, Value.ownBlock u7 = some g → w.heap.size ≤ g ∨ (g = G_0 ∨ some g = Value.ownBlock V0_0 ∨ some g = Value.ownBlock V0_1 ∨ some g = Value.ownBlock V0_2 ∨ some g = Value.ownBlock V0_3 ∨ some g = Value.ownBlock V0_4), ∃ o11 : Own kB 4 w' 0 u10 r.2.Flushed, ∃ m12 : ∀ g, Value.ownBlock u10 = some g → w.heap.size ≤ g ∨ (g = G_0 ∨ some g = Value.ownBlock V0_0 ∨ some g = Value.ownBlock V0_1 ∨ some g = Value.ownBlock V0_2 ∨ some g = Value.ownBlock V0_3 ∨ some g = Value.ownBlock V0_4), ∃ o14 : Own (kI .i64) 3 w' 0 u13 r.2.Plan, ∃ m15 : ∀ g, Value.ownBlock u13 = some g → w.heap.size ≤ g ∨ (g = G_0 ∨ some g = Value.ownBlock V0_0 ∨ some g = Value.ownBlock V0_1 ∨ some g = Value.ownBlock V0_2 ∨ some g = Value.ownBlock V0_3 ∨ some g = Value.ownBlock V0_4), ∃ a16 : OffV u1 u4, ∃ a17 : OffV u1 u7, ∃ a18 : OffV u4 u7, v = .int .i64 r.1 ∧ Blk w' G_0 65 [Seg.cell u1 o2.one, Seg.cell u4 o5.one, Seg.cell u7 o8.one, Seg.cell u10 o11.one, Seg.cell u13 o14.one, (sI r.2.Since), (sI r.2.Left), (sI r.2.Steps)] ∧ Fr (fun j => j = G_0 ∨ some j = Value.ownBlock V0_0 ∨ some j = Value.ownBlock V0_1 ∨ some j = Value.ownBlock V0_2 ∨ some j = Value.ownBlock V0_3 ∨ some j = Value.ownBlock V0_4) w w') := by
 unfold rickyardref05_Device_Fence.f at h
 have fB : Fr (fun j => j = G_0 ∨ some j = Value.ownBlock V0_0 ∨ some j = Value.ownBlock V0_1 ∨ some j = Value.ownBlock V0_2 ∨ some j = Value.ownBlock V0_3 ∨ some j = Value.ownBlock V0_4) w w := Fr.refl _ _
 have M0_0 : ∀ g, Value.ownBlock V0_0 = some g → w.heap.size ≤ g ∨ (g = G_0 ∨ some g = Value.ownBlock V0_0 ∨ some g = Value.ownBlock V0_1 ∨ some g = Value.ownBlock V0_2 ∨ some g = Value.ownBlock V0_3 ∨ some g = Value.ownBlock V0_4) := fun g hg => .inr (.inr (.inl hg.symm))
 have M0_1 : ∀ g, Value.ownBlock V0_1 = some g → w.heap.size ≤ g ∨ (g = G_0 ∨ some g = Value.ownBlock V0_0 ∨ some g = Value.ownBlock V0_1 ∨ some g = Value.ownBlock V0_2 ∨ some g = Value.ownBlock V0_3 ∨ some g = Value.ownBlock V0_4) := fun g hg => .inr (.inr (.inr (.inl hg.symm)))
 have M0_2 : ∀ g, Value.ownBlock V0_2 = some g → w.heap.size ≤ g ∨ (g = G_0 ∨ some g = Value.ownBlock V0_0 ∨ some g = Value.ownBlock V0_1 ∨ some g = Value.ownBlock V0_2 ∨ some g = Value.ownBlock V0_3 ∨ some g = Value.ownBlock V0_4) := fun g hg => .inr (.inr (.inr (.inr (.inl hg.symm))))
 have M0_3 : ∀ g, Value.ownBlock V0_3 = some g → w.heap.size ≤ g ∨ (g = G_0 ∨ some g = Value.ownBlock V0_0 ∨ some g = Value.ownBlock V0_1 ∨ some g = Value.ownBlock V0_2 ∨ some g = Value.ownBlock V0_3 ∨ some g = Value.ownBlock V0_4) := fun g hg => .inr (.inr (.inr (.inr (.inr (.inl hg.symm)))))
 have M0_4 : ∀ g, Value.ownBlock V0_4 = some g → w.heap.size ≤ g ∨ (g = G_0 ∨ some g = Value.ownBlock V0_0 ∨ some g = Value.ownBlock V0_1 ∨ some g = Value.ownBlock V0_2 ∨ some g = Value.ownBlock V0_3 ∨ some g = Value.ownBlock V0_4) := fun g hg => .inr (.inr (.inr (.inr (.inr (.inr hg.symm)))))
 refine calls_cw Try.func95 rfl Try.ntmps95 rfl ?_
 refine cw_seq ?_
 refine cw_region ?_
 refine ol_val (v := .int .i64 0) (xr_assign rfl rfl) rfl rfl rfl ?_
 refine ol_nil ?_
 refine cw_seq ?_
 refine cw_region ?_
 refine ol_val (v := (pt G_0 0)) (xr_move rfl rfl) rfl rfl rfl ?_
 obtain ⟨t19, k20, h⟩ := bs h
 refine ol_op (opv_call rfl cal124 (ac rfl (ac rfl (ac rfl an))) (rickyardref05_Device_error.ok fu _ a0 G_0 V0_0 (O0_0.rd) V0_1 (O0_1.rd) V0_2 (O0_2.rd) V0_3 (O0_3.rd) V0_4 (O0_4.rd) b_0 0 1 _ k20)) rfl rfl rfl ?_
 rintro _ w22 ⟨rfl, q21⟩
 have b_0 := b_0.gr q21
 have O0_0 := O0_0.gr q21
 have O0_1 := O0_1.gr q21
 have O0_2 := O0_2.gr q21
 have O0_3 := O0_3.gr q21
 have O0_4 := O0_4.gr q21
 have fB := fB.gr q21
 refine ol_val (v := .int .i64 t19) (xr_assign rfl rfl) rfl rfl rfl ?_
 refine ol_nil ?_
 refine cw_seq ?_
 refine cw_seq ?_
 refine cw_region ?_
 refine ol_val (v := .int .i64 t19) (xr_move rfl rfl) rfl rfl rfl ?_
 refine ol_val (v := .bool (decide (t19 = 0))) (xr_eqI rfl Try.underlying3 rfl rfl rfl) rfl rfl rfl ?_
 refine ol_nil ?_
 obtain ⟨x23, j24, h25⟩ := bs h
 refine cw_mid (fun ρ' w' => ∃ v26 : Value, ∃ v30 : Value, ∃ v34 : Value, ∃ v38 : Value, ∃ v42 : Value, ∃ o27 : Own (kI .u64) 22 w' 0 v26 x23.1, ∃ o31 : Own (kI .u64) 22 w' 0 v30 x23.2.1, ∃ o35 : Own (kI .u64) 22 w' 0 v34 x23.2.2.1, ∃ o39 : Own kB 4 w' 0 v38 x23.2.2.2.1, ∃ o43 : Own (kI .i64) 3 w' 0 v42 x23.2.2.2.2.1, ∃ m29 : ∀ g, Value.ownBlock v26 = some g → w.heap.size ≤ g ∨ (g = G_0 ∨ some g = Value.ownBlock V0_0 ∨ some g = Value.ownBlock V0_1 ∨ some g = Value.ownBlock V0_2 ∨ some g = Value.ownBlock V0_3 ∨ some g = Value.ownBlock V0_4), ∃ m33 : ∀ g, Value.ownBlock v30 = some g → w.heap.size ≤ g ∨ (g = G_0 ∨ some g = Value.ownBlock V0_0 ∨ some g = Value.ownBlock V0_1 ∨ some g = Value.ownBlock V0_2 ∨ some g = Value.ownBlock V0_3 ∨ some g = Value.ownBlock V0_4), ∃ m37 : ∀ g, Value.ownBlock v34 = some g → w.heap.size ≤ g ∨ (g = G_0 ∨ some g = Value.ownBlock V0_0 ∨ some g = Value.ownBlock V0_1 ∨ some g = Value.ownBlock V0_2 ∨ some g = Value.ownBlock V0_3 ∨ some g = Value.ownBlock V0_4), ∃ m41 : ∀ g, Value.ownBlock v38 = some g → w.heap.size ≤ g ∨ (g = G_0 ∨ some g = Value.ownBlock V0_0 ∨ some g = Value.ownBlock V0_1 ∨ some g = Value.ownBlock V0_2 ∨ some g = Value.ownBlock V0_3 ∨ some g = Value.ownBlock V0_4), ∃ m45 : ∀ g, Value.ownBlock v42 = some g → w.heap.size ≤ g ∨ (g = G_0 ∨ some g = Value.ownBlock V0_0 ∨ some g = Value.ownBlock V0_1 ∨ some g = Value.ownBlock V0_2 ∨ some g = Value.ownBlock V0_3 ∨ some g = Value.ownBlock V0_4), OffV v26 v30 ∧ OffV v26 v34 ∧ OffV v30 v34 ∧ ρ' 3 = .int .i64 t19 ∧ Blk w' G_0 65 [Seg.cell v26 o27.one, Seg.cell v30 o31.one, Seg.cell v34 o35.one, Seg.cell v38 o39.one, Seg.cell v42 o43.one, (sI x23.2.2.2.2.2.1), (sI x23.2.2.2.2.2.2.1), (sI x23.2.2.2.2.2.2.2)] ∧ Fr (fun j => j = G_0 ∨ some j = Value.ownBlock V0_0 ∨ some j = Value.ownBlock V0_1 ∨ some j = Value.ownBlock V0_2 ∨ some j = Value.ownBlock V0_3 ∨ some j = Value.ownBlock V0_4) w w') ?_ ?_
 ·have h := j24
  rcases is h with ⟨c49, h⟩ | ⟨c49, h⟩
  ·refine cw_condT rfl c49 ?_
   refine cw_seq ?_
   refine cw_seq ?_
   refine cw_region ?_
   refine ol_val (v := .int .i64 0) (xr_assign rfl rfl) rfl rfl rfl ?_
   refine ol_nil ?_
   obtain ⟨e51, l52, h53⟩ := bs h
   refine cw_mid (fun ρ' w' => ∃ v54 : Value, ∃ v58 : Value, ∃ v62 : Value, ∃ v66 : Value, ∃ v70 : Value, ∃ o55 : Own (kI .u64) 22 w' 0 v54 e51.1, ∃ o59 : Own (kI .u64) 22 w' 0 v58 e51.2.1, ∃ o63 : Own (kI .u64) 22 w' 0 v62 e51.2.2.1, ∃ o67 : Own kB 4 w' 0 v66 e51.2.2.2.1, ∃ o71 : Own (kI .i64) 3 w' 0 v70 e51.2.2.2.2.1, ∃ m57 : ∀ g, Value.ownBlock v54 = some g → w.heap.size ≤ g ∨ (g = G_0 ∨ some g = Value.ownBlock V0_0 ∨ some g = Value.ownBlock V0_1 ∨ some g = Value.ownBlock V0_2 ∨ some g = Value.ownBlock V0_3 ∨ some g = Value.ownBlock V0_4), ∃ m61 : ∀ g, Value.ownBlock v58 = some g → w.heap.size ≤ g ∨ (g = G_0 ∨ some g = Value.ownBlock V0_0 ∨ some g = Value.ownBlock V0_1 ∨ some g = Value.ownBlock V0_2 ∨ some g = Value.ownBlock V0_3 ∨ some g = Value.ownBlock V0_4), ∃ m65 : ∀ g, Value.ownBlock v62 = some g → w.heap.size ≤ g ∨ (g = G_0 ∨ some g = Value.ownBlock V0_0 ∨ some g = Value.ownBlock V0_1 ∨ some g = Value.ownBlock V0_2 ∨ some g = Value.ownBlock V0_3 ∨ some g = Value.ownBlock V0_4), ∃ m69 : ∀ g, Value.ownBlock v66 = some g → w.heap.size ≤ g ∨ (g = G_0 ∨ some g = Value.ownBlock V0_0 ∨ some g = Value.ownBlock V0_1 ∨ some g = Value.ownBlock V0_2 ∨ some g = Value.ownBlock V0_3 ∨ some g = Value.ownBlock V0_4), ∃ m73 : ∀ g, Value.ownBlock v70 = some g → w.heap.size ≤ g ∨ (g = G_0 ∨ some g = Value.ownBlock V0_0 ∨ some g = Value.ownBlock V0_1 ∨ some g = Value.ownBlock V0_2 ∨ some g = Value.ownBlock V0_3 ∨ some g = Value.ownBlock V0_4), OffV v54 v58 ∧ OffV v54 v62 ∧ OffV v58 v62 ∧ ρ' 0 = (pt G_0 0) ∧ ρ' 3 = .int .i64 t19 ∧ Blk w' G_0 65 [Seg.cell v54 o55.one, Seg.cell v58 o59.one, Seg.cell v62 o63.one, Seg.cell v66 o67.one, Seg.cell v70 o71.one, (sI e51.2.2.2.2.2.1), (sI e51.2.2.2.2.2.2.1), (sI e51.2.2.2.2.2.2.2)] ∧ Fr (fun j => j = G_0 ∨ some j = Value.ownBlock V0_0 ∨ some j = Value.ownBlock V0_1 ∨ some j = Value.ownBlock V0_2 ∨ some j = Value.ownBlock V0_3 ∨ some j = Value.ownBlock V0_4) w w') ?_ ?_
   ·refine cw_block ?_
    refine cw_round (fun (s50 : Int × (List Int) × (List Int) × (List Int) × (List Bool) × (List Int) × Int × Int × Int) ρ' w' => ∃ v77 : Value, ∃ v81 : Value, ∃ v85 : Value, ∃ v89 : Value, ∃ v93 : Value, ∃ o78 : Own (kI .u64) 22 w' 0 v77 s50.2.1, ∃ o82 : Own (kI .u64) 22 w' 0 v81 s50.2.2.1, ∃ o86 : Own (kI .u64) 22 w' 0 v85 s50.2.2.2.1, ∃ o90 : Own kB 4 w' 0 v89 s50.2.2.2.2.1, ∃ o94 : Own (kI .i64) 3 w' 0 v93 s50.2.2.2.2.2.1, ∃ m80 : ∀ g, Value.ownBlock v77 = some g → w.heap.size ≤ g ∨ (g = G_0 ∨ some g = Value.ownBlock V0_0 ∨ some g = Value.ownBlock V0_1 ∨ some g = Value.ownBlock V0_2 ∨ some g = Value.ownBlock V0_3 ∨ some g = Value.ownBlock V0_4), ∃ m84 : ∀ g, Value.ownBlock v81 = some g → w.heap.size ≤ g ∨ (g = G_0 ∨ some g = Value.ownBlock V0_0 ∨ some g = Value.ownBlock V0_1 ∨ some g = Value.ownBlock V0_2 ∨ some g = Value.ownBlock V0_3 ∨ some g = Value.ownBlock V0_4), ∃ m88 : ∀ g, Value.ownBlock v85 = some g → w.heap.size ≤ g ∨ (g = G_0 ∨ some g = Value.ownBlock V0_0 ∨ some g = Value.ownBlock V0_1 ∨ some g = Value.ownBlock V0_2 ∨ some g = Value.ownBlock V0_3 ∨ some g = Value.ownBlock V0_4), ∃ m92 : ∀ g, Value.ownBlock v89 = some g → w.heap.size ≤ g ∨ (g = G_0 ∨ some g = Value.ownBlock V0_0 ∨ some g = Value.ownBlock V0_1 ∨ some g = Value.ownBlock V0_2 ∨ some g = Value.ownBlock V0_3 ∨ some g = Value.ownBlock V0_4), ∃ m96 : ∀ g, Value.ownBlock v93 = some g → w.heap.size ≤ g ∨ (g = G_0 ∨ some g = Value.ownBlock V0_0 ∨ some g = Value.ownBlock V0_1 ∨ some g = Value.ownBlock V0_2 ∨ some g = Value.ownBlock V0_3 ∨ some g = Value.ownBlock V0_4), OffV v77 v81 ∧ OffV v77 v85 ∧ OffV v81 v85 ∧ ρ' 0 = (pt G_0 0) ∧ ρ' 3 = .int .i64 t19 ∧ ρ' 4 = .int .i64 s50.1 ∧ Blk w' G_0 65 [Seg.cell v77 o78.one, Seg.cell v81 o82.one, Seg.cell v85 o86.one, Seg.cell v89 o90.one, Seg.cell v93 o94.one, (sI s50.2.2.2.2.2.2.1), (sI s50.2.2.2.2.2.2.2.1), (sI s50.2.2.2.2.2.2.2.2)] ∧ Fr (fun j => j = G_0 ∨ some j = Value.ownBlock V0_0 ∨ some j = Value.ownBlock V0_1 ∨ some j = Value.ownBlock V0_2 ∨ some j = Value.ownBlock V0_3 ∨ some j = Value.ownBlock V0_4) w w') l52 ?_ ?_
    ·skip
     exact ⟨V0_0, V0_1, V0_2, V0_3, V0_4, O0_0, O0_1, O0_2, O0_3, O0_4, M0_0, M0_1, M0_2, M0_3, M0_4, A_R0_0_R0_1, A_R0_0_R0_2, A_R0_1_R0_2, rfl, rfl, rfl, b_0, fB⟩
    rintro s50 x102 ρ100 w101 ⟨v77, v81, v85, v89, v93, o78, o82, o86, o90, o94, m80, m84, m88, m92, m96, a97, a98, a99, e0, e3, e4, b_0, fB⟩ h
    unfold rickyardref05_Device_Fence.s1 at h
    refine cw_seq ?_
    refine cw_seq ?_
    refine cw_region ?_
    refine ol_val (v := .int .i64 s50.1) (xr_move rfl e4) rfl rfl rfl ?_
    refine ol_val (v := (pt G_0 0)) (xr_move rfl e0) rfl rfl rfl ?_
    refine ol_val (v := (pt G_0 0)) (xr_nilCheck rfl rfl) rfl rfl rfl ?_
    refine ol_val (v := (pt G_0 0)) (xr_fieldAddr (p := 0) (q := 0) rfl fl65_0 rfl) rfl rfl rfl ?_
    refine ol_val (v := v77) (xr_load1 (v := v77) rfl ag46 rfl (b_0.seg 0 rfl rfl)) rfl rfl rfl ?_
    refine ol_val (v := .int .i64 (List.length s50.2.1 : Int)) (xr_lenR rfl Try.underlying46 rfl o78.rd) rfl rfl rfl ?_
    refine ol_val (v := .bool (decide (s50.1 < (List.length s50.2.1 : Int)))) (xr_lss rfl rfl rfl) rfl rfl rfl ?_
    refine ol_nil ?_
    rcases is h with ⟨c103, h⟩ | ⟨c103, h⟩
    ·refine cw_condT rfl c103 ?_
     refine cw_skip ?_
     refine cw_seq ?_
     refine cw_block ?_
     refine cw_seq ?_
     refine cw_region ?_
     refine ol_val (v := (pt G_0 0)) (xr_move rfl e0) rfl rfl rfl ?_
     refine ol_val (v := (pt G_0 0)) (xr_nilCheck rfl rfl) rfl rfl rfl ?_
     refine ol_val (v := (pt G_0 3)) (xr_fieldAddr (p := 0) (q := 3) rfl fl65_3 rfl) rfl rfl rfl ?_
     refine ol_val (v := v89) (xr_load1 (v := v89) rfl ag63 rfl (b_0.seg 3 rfl rfl)) rfl rfl rfl ?_
     refine ol_val (v := .int .i64 s50.1) (xr_move rfl e4) rfl rfl rfl ?_
     obtain ⟨g104, h⟩ := gs h
     refine ol_val (v := (pt ((sb v89)) (so v89 + Int.toNat s50.1 * 1))) (xr_indexR (K := kB) (v := v89) rfl Try.underlying63 sz4 rfl o90.rd rfl g104.1 g104.2) rfl rfl rfl ?_
     refine ol_val (v := .bool (ix s50.2.2.2.2.1 s50.1)) (xr_load1 (v := .bool (ix s50.2.2.2.2.1 s50.1)) rfl ag4 rfl (o90.rd.elem g104.1 g104.2)) rfl rfl rfl ?_
     refine ol_nil ?_
     obtain ⟨x105, j106, h107⟩ := bs h
     refine cw_mid (fun ρ' w' => ∃ v108 : Value, ∃ v112 : Value, ∃ v116 : Value, ∃ v120 : Value, ∃ v124 : Value, ∃ o109 : Own (kI .u64) 22 w' 0 v108 x105.1, ∃ o113 : Own (kI .u64) 22 w' 0 v112 x105.2.1, ∃ o117 : Own (kI .u64) 22 w' 0 v116 x105.2.2.1, ∃ o121 : Own kB 4 w' 0 v120 x105.2.2.2.1, ∃ o125 : Own (kI .i64) 3 w' 0 v124 x105.2.2.2.2.1, ∃ m111 : ∀ g, Value.ownBlock v108 = some g → w.heap.size ≤ g ∨ (g = G_0 ∨ some g = Value.ownBlock V0_0 ∨ some g = Value.ownBlock V0_1 ∨ some g = Value.ownBlock V0_2 ∨ some g = Value.ownBlock V0_3 ∨ some g = Value.ownBlock V0_4), ∃ m115 : ∀ g, Value.ownBlock v112 = some g → w.heap.size ≤ g ∨ (g = G_0 ∨ some g = Value.ownBlock V0_0 ∨ some g = Value.ownBlock V0_1 ∨ some g = Value.ownBlock V0_2 ∨ some g = Value.ownBlock V0_3 ∨ some g = Value.ownBlock V0_4), ∃ m119 : ∀ g, Value.ownBlock v116 = some g → w.heap.size ≤ g ∨ (g = G_0 ∨ some g = Value.ownBlock V0_0 ∨ some g = Value.ownBlock V0_1 ∨ some g = Value.ownBlock V0_2 ∨ some g = Value.ownBlock V0_3 ∨ some g = Value.ownBlock V0_4), ∃ m123 : ∀ g, Value.ownBlock v120 = some g → w.heap.size ≤ g ∨ (g = G_0 ∨ some g = Value.ownBlock V0_0 ∨ some g = Value.ownBlock V0_1 ∨ some g = Value.ownBlock V0_2 ∨ some g = Value.ownBlock V0_3 ∨ some g = Value.ownBlock V0_4), ∃ m127 : ∀ g, Value.ownBlock v124 = some g → w.heap.size ≤ g ∨ (g = G_0 ∨ some g = Value.ownBlock V0_0 ∨ some g = Value.ownBlock V0_1 ∨ some g = Value.ownBlock V0_2 ∨ some g = Value.ownBlock V0_3 ∨ some g = Value.ownBlock V0_4), OffV v108 v112 ∧ OffV v108 v116 ∧ OffV v112 v116 ∧ ρ' 0 = (pt G_0 0) ∧ ρ' 3 = .int .i64 t19 ∧ ρ' 4 = .int .i64 s50.1 ∧ Blk w' G_0 65 [Seg.cell v108 o109.one, Seg.cell v112 o113.one, Seg.cell v116 o117.one, Seg.cell v120 o121.one, Seg.cell v124 o125.one, (sI x105.2.2.2.2.2.1), (sI x105.2.2.2.2.2.2.1), (sI x105.2.2.2.2.2.2.2)] ∧ Fr (fun j => j = G_0 ∨ some j = Value.ownBlock V0_0 ∨ some j = Value.ownBlock V0_1 ∨ some j = Value.ownBlock V0_2 ∨ some j = Value.ownBlock V0_3 ∨ some j = Value.ownBlock V0_4) w w') ?_ ?_
     ·have h := j106
      rcases is h with ⟨c131, h⟩ | ⟨c131, h⟩
      ·refine cw_condT rfl c131 ?_
       refine cw_region ?_
       refine ol_val (v := (pt G_0 0)) (xr_move rfl e0) rfl rfl rfl ?_
       refine ol_val (v := .int .i64 s50.1) (xr_move rfl e4) rfl rfl rfl ?_
       refine ol_val (v := (pt G_0 0)) (xr_move rfl e0) rfl rfl rfl ?_
       refine ol_val (v := (pt G_0 0)) (xr_nilCheck rfl rfl) rfl rfl rfl ?_
       refine ol_val (v := (pt G_0 2)) (xr_fieldAddr (p := 0) (q := 2) rfl fl65_2 rfl) rfl rfl rfl ?_
       refine ol_val (v := v85) (xr_load1 (v := v85) rfl ag46 rfl (b_0.seg 2 rfl rfl)) rfl rfl rfl ?_
       refine ol_val (v := .int .i64 s50.1) (xr_move rfl e4) rfl rfl rfl ?_
       obtain ⟨g132, h⟩ := gs h
       refine ol_val (v := (pt ((sb v85)) (so v85 + Int.toNat s50.1 * 1))) (xr_indexR (K := (kI .u64)) (v := v85) rfl Try.underlying46 sz22 rfl o86.rd rfl g132.1 g132.2) rfl rfl rfl ?_
       refine ol_val (v := .int .u64 (ix s50.2.2.2.1 s50.1)) (xr_load1 (v := .int .u64 (ix s50.2.2.2.1 s50.1)) rfl ag22 rfl (o86.rd.elem g132.1 g132.2)) rfl rfl rfl ?_
       obtain ⟨t133, k134, h⟩ := bs h
       have c159 : ∀ k, (k = G_0 ∨ some k = Value.ownBlock v77 ∨ some k = Value.ownBlock v81 ∨ some k = Value.ownBlock v85 ∨ some k = Value.ownBlock v89 ∨ some k = Value.ownBlock v93) → (w.heap.size ≤ k ∨ (k = G_0 ∨ some k = Value.ownBlock V0_0 ∨ some k = Value.ownBlock V0_1 ∨ some k = Value.ownBlock V0_2 ∨ some k = Value.ownBlock V0_3 ∨ some k = Value.ownBlock V0_4)) := (cv_or (cv_eq (.inr (.inl rfl))) (cv_or (cv_own m80) (cv_or (cv_own m84) (cv_or (cv_own m88) (cv_or (cv_own m92) (cv_own m96))))))
       refine ol_op (opv_call rfl cal126 (ac rfl (ac rfl (ac rfl an))) (rickyardref05_Device_last.ok fu _ (⟨s50.2.1, s50.2.2.1, s50.2.2.2.1, s50.2.2.2.2.1, s50.2.2.2.2.2.1, s50.2.2.2.2.2.2.1, s50.2.2.2.2.2.2.2.1, s50.2.2.2.2.2.2.2.2⟩ : S_rickyardref05_Device) G_0 v77 (Own.base o78 (Nat.zero_le _)) v81 (Own.base o82 (Nat.zero_le _)) v85 (Own.base o86 (Nat.zero_le _)) v89 (Own.base o90 (Nat.zero_le _)) v93 (Own.base o94 (Nat.zero_le _)) b_0 s50.1 (ix s50.2.2.2.1 s50.1) a97 a98 a99 _ k134)) rfl rfl rfl ?_
       rintro _ w160 ⟨u136, u140, u144, u148, u152, o137, m138, o141, m142, o145, m146, o149, m150, o153, m154, a156, a157, a158, rfl, b_0, q135⟩
       have m138 : ∀ g, Value.ownBlock u136 = some g → w.heap.size ≤ g ∨ (g = G_0 ∨ some g = Value.ownBlock V0_0 ∨ some g = Value.ownBlock V0_1 ∨ some g = Value.ownBlock V0_2 ∨ some g = Value.ownBlock V0_3 ∨ some g = Value.ownBlock V0_4) := fun g hg => (m138 g hg).elim (fun x => .inl (Nat.le_trans fB.size x)) (c159 g)
       have m142 : ∀ g, Value.ownBlock u140 = some g → w.heap.size ≤ g ∨ (g = G_0 ∨ some g = Value.ownBlock V0_0 ∨ some g = Value.ownBlock V0_1 ∨ some g = Value.ownBlock V0_2 ∨ some g = Value.ownBlock V0_3 ∨ some g = Value.ownBlock V0_4) := fun g hg => (m142 g hg).elim (fun x => .inl (Nat.le_trans fB.size x)) (c159 g)
       have m146 : ∀ g, Value.ownBlock u144 = some g → w.heap.size ≤ g ∨ (g = G_0 ∨ some g = Value.ownBlock V0_0 ∨ some g = Value.ownBlock V0_1 ∨ some g = Value.ownBlock V0_2 ∨ some g = Value.ownBlock V0_3 ∨ some g = Value.ownBlock V0_4) := fun g hg => (m146 g hg).elim (fun x => .inl (Nat.le_trans fB.size x)) (c159 g)
       have m150 : ∀ g, Value.ownBlock u148 = some g → w.heap.size ≤ g ∨ (g = G_0 ∨ some g = Value.ownBlock V0_0 ∨ some g = Value.ownBlock V0_1 ∨ some g = Value.ownBlock V0_2 ∨ some g = Value.ownBlock V0_3 ∨ some g = Value.ownBlock V0_4) := fun g hg => (m150 g hg).elim (fun x => .inl (Nat.le_trans fB.size x)) (c159 g)
       have m154 : ∀ g, Value.ownBlock u152 = some g → w.heap.size ≤ g ∨ (g = G_0 ∨ some g = Value.ownBlock V0_0 ∨ some g = Value.ownBlock V0_1 ∨ some g = Value.ownBlock V0_2 ∨ some g = Value.ownBlock V0_3 ∨ some g = Value.ownBlock V0_4) := fun g hg => (m154 g hg).elim (fun x => .inl (Nat.le_trans fB.size x)) (c159 g)
       have fB := fB.call q135 c159
       refine ol_nil ?_
       obtain rfl := Option.some.inj h
       refine thn_i ?_
       exact ⟨u136, u140, u144, u148, u152, o137, o141, o145, o149, o153, m138, m142, m146, m150, m154, a156, a157, a158, e0, e3, e4, b_0, fB⟩
      refine cw_condF rfl c131 ?_
      refine cw_skip ?_
      obtain rfl := Option.some.inj h
      refine thn_i ?_
      exact ⟨v77, v81, v85, v89, v93, o78, o82, o86, o90, o94, m80, m84, m88, m92, m96, a97, a98, a99, e0, e3, e4, b_0, fB⟩
     rintro ρ161 w162 ⟨v108, v112, v116, v120, v124, o109, o113, o117, o121, o125, m111, m115, m119, m123, m127, a128, a129, a130, e0, e3, e4, b_0, fB⟩
     have h := h107
     refine blk_i ?_
     refine cw_region ?_
     refine ol_val (v := .int .i64 s50.1) (xr_move rfl e4) rfl rfl rfl ?_
     refine ol_val (v := .int .i64 (IntKind.i64.wrap (s50.1 + 1))) (xr_add rfl rfl rfl) rfl rfl rfl ?_
     refine ol_val (v := .int .i64 (IntKind.i64.wrap (s50.1 + 1))) (xr_assign rfl rfl) rfl rfl rfl ?_
     refine ol_nil ?_
     obtain rfl := Option.some.inj h
     refine lp_in ?_
     exact ⟨v108, v112, v116, v120, v124, o109, o113, o117, o121, o125, m111, m115, m119, m123, m127, a128, a129, a130, e0, e3, rfl, b_0, fB⟩
    refine cw_condF rfl c103 ?_
    refine cw_exit ?_
    repeat (first | with_reducible refine thn_e ?_ | with_reducible refine blk_e rfl ?_)
    obtain rfl := Option.some.inj h
    refine lp_exit ?_
    rintro rfl
    refine thn_x ?_
    exact ⟨v77, v81, v85, v89, v93, o78, o82, o86, o90, o94, m80, m84, m88, m92, m96, a97, a98, a99, e0, e3, b_0, fB⟩
   rintro ρ163 w164 ⟨v54, v58, v62, v66, v70, o55, o59, o63, o67, o71, m57, m61, m65, m69, m73, a74, a75, a76, e0, e3, b_0, fB⟩
   have h := h53
   refine cw_region ?_
   refine ol_val (v := (pt G_0 0)) (xr_move rfl e0) rfl rfl rfl ?_
   obtain ⟨t165, k166, h⟩ := bs h
   have c191 : ∀ k, (k = G_0 ∨ some k = Value.ownBlock v54 ∨ some k = Value.ownBlock v58 ∨ some k = Value.ownBlock v62 ∨ some k = Value.ownBlock v66 ∨ some k = Value.ownBlock v70) → (w.heap.size ≤ k ∨ (k = G_0 ∨ some k = Value.ownBlock V0_0 ∨ some k = Value.ownBlock V0_1 ∨ some k = Value.ownBlock V0_2 ∨ some k = Value.ownBlock V0_3 ∨ some k = Value.ownBlock V0_4)) := (cv_or (cv_eq (.inr (.inl rfl))) (cv_or (cv_own m57) (cv_or (cv_own m61) (cv_or (cv_own m65) (cv_or (cv_own m69) (cv_own m73))))))
   refine ol_op (opv_call rfl cal125 (ac rfl an) (rickyardref05_Device_step.ok fu _ (⟨e51.1, e51.2.1, e51.2.2.1, e51.2.2.2.1, e51.2.2.2.2.1, e51.2.2.2.2.2.1, e51.2.2.2.2.2.2.1, e51.2.2.2.2.2.2.2⟩ : S_rickyardref05_Device) G_0 v54 (Own.base o55 (Nat.zero_le _)) v58 (Own.base o59 (Nat.zero_le _)) v62 (Own.base o63 (Nat.zero_le _)) v66 (Own.base o67 (Nat.zero_le _)) v70 (Own.base o71 (Nat.zero_le _)) b_0 a74 a75 a76 _ k166)) rfl rfl rfl ?_
   rintro _ w192 ⟨u168, u172, u176, u180, u184, o169, m170, o173, m174, o177, m178, o181, m182, o185, m186, a188, a189, a190, rfl, b_0, q167⟩
   have m170 : ∀ g, Value.ownBlock u168 = some g → w.heap.size ≤ g ∨ (g = G_0 ∨ some g = Value.ownBlock V0_0 ∨ some g = Value.ownBlock V0_1 ∨ some g = Value.ownBlock V0_2 ∨ some g = Value.ownBlock V0_3 ∨ some g = Value.ownBlock V0_4) := fun g hg => (m170 g hg).elim (fun x => .inl (Nat.le_trans fB.size x)) (c191 g)
   have m174 : ∀ g, Value.ownBlock u172 = some g → w.heap.size ≤ g ∨ (g = G_0 ∨ some g = Value.ownBlock V0_0 ∨ some g = Value.ownBlock V0_1 ∨ some g = Value.ownBlock V0_2 ∨ some g = Value.ownBlock V0_3 ∨ some g = Value.ownBlock V0_4) := fun g hg => (m174 g hg).elim (fun x => .inl (Nat.le_trans fB.size x)) (c191 g)
   have m178 : ∀ g, Value.ownBlock u176 = some g → w.heap.size ≤ g ∨ (g = G_0 ∨ some g = Value.ownBlock V0_0 ∨ some g = Value.ownBlock V0_1 ∨ some g = Value.ownBlock V0_2 ∨ some g = Value.ownBlock V0_3 ∨ some g = Value.ownBlock V0_4) := fun g hg => (m178 g hg).elim (fun x => .inl (Nat.le_trans fB.size x)) (c191 g)
   have m182 : ∀ g, Value.ownBlock u180 = some g → w.heap.size ≤ g ∨ (g = G_0 ∨ some g = Value.ownBlock V0_0 ∨ some g = Value.ownBlock V0_1 ∨ some g = Value.ownBlock V0_2 ∨ some g = Value.ownBlock V0_3 ∨ some g = Value.ownBlock V0_4) := fun g hg => (m182 g hg).elim (fun x => .inl (Nat.le_trans fB.size x)) (c191 g)
   have m186 : ∀ g, Value.ownBlock u184 = some g → w.heap.size ≤ g ∨ (g = G_0 ∨ some g = Value.ownBlock V0_0 ∨ some g = Value.ownBlock V0_1 ∨ some g = Value.ownBlock V0_2 ∨ some g = Value.ownBlock V0_3 ∨ some g = Value.ownBlock V0_4) := fun g hg => (m186 g hg).elim (fun x => .inl (Nat.le_trans fB.size x)) (c191 g)
   have fB := fB.call q167 c191
   refine ol_nil ?_
   obtain rfl := Option.some.inj h
   refine thn_i ?_
   exact ⟨u168, u172, u176, u180, u184, o169, o173, o177, o181, o185, m170, m174, m178, m182, m186, a188, a189, a190, e3, b_0, fB⟩
  refine cw_condF rfl c49 ?_
  refine cw_skip ?_
  obtain rfl := Option.some.inj h
  refine thn_i ?_
  exact ⟨V0_0, V0_1, V0_2, V0_3, V0_4, O0_0, O0_1, O0_2, O0_3, O0_4, M0_0, M0_1, M0_2, M0_3, M0_4, A_R0_0_R0_1, A_R0_0_R0_2, A_R0_1_R0_2, rfl, b_0, fB⟩
 rintro ρ193 w194 ⟨v26, v30, v34, v38, v42, o27, o31, o35, o39, o43, m29, m33, m37, m41, m45, a46, a47, a48, e3, b_0, fB⟩
 have h := h25
 refine cw_seq ?_
 refine cw_region ?_
 refine ol_val (v := .int .i64 t19) (xr_move rfl e3) rfl rfl rfl ?_
 refine ol_val (v := .int .i64 t19) (xr_assign rfl rfl) rfl rfl rfl ?_
 refine ol_nil ?_
 refine cw_ret ?_
 repeat (first | with_reducible refine thn_r ?_ | with_reducible refine blk_r ?_)
 obtain rfl := Option.some.inj h
 refine fin_ret1 Try.results95 rfl ?_
 exact ⟨_, rfl, v26, v30, v34, v38, v42, o27, m29, o31, m33, o35, m37, o39, m41, o43, m45, a46, a47, a48, rfl, b_0, fB⟩
def rickyardref05_Device_Arm.f (fu : Nat) (a0 : S_rickyardref05_Device) (a1 : Int) : Option S_rickyardref05_Device := (((if (!decide (a0.Left = 0)) = true then some ((mxI a1 (-1))) else some (a0.Left)) : Option Int).bind fun x1 => some ((⟨a0.Lasts, a0.Stored, a0.Sent, a0.Flushed, a0.Plan, a0.Since, x1, a0.Steps⟩ : S_rickyardref05_Device)))
theorem rickyardref05_Device_Arm.ok (fu : Nat) (w : World) (a0 : S_rickyardref05_Device) (G_0 : Nat) (V0_0 : Value) (R0_0 : Rd (kI .u64) w V0_0 a0.Lasts) (N0_0 : OffR V0_0 a0.Lasts G_0) (V0_1 : Value) (R0_1 : Rd (kI .u64) w V0_1 a0.Stored) (N0_1 : OffR V0_1 a0.Stored G_0) (V0_2 : Value) (R0_2 : Rd (kI .u64) w V0_2 a0.Sent) (N0_2 : OffR V0_2 a0.Sent G_0) (V0_3 : Value) (R0_3 : Rd kB w V0_3 a0.Flushed) (N0_3 : OffR V0_3 a0.Flushed G_0) (V0_4 : Value) (R0_4 : Rd (kI .i64) w V0_4 a0.Plan) (N0_4 : OffR V0_4 a0.Plan G_0) (b_0 : Blk w G_0 65 [Seg.cell V0_0 R0_0.one, Seg.cell V0_1 R0_1.one, Seg.cell V0_2 R0_2.one, Seg.cell V0_3 R0_3.one, Seg.cell V0_4 R0_4.one, (sI a0.Since), (sI a0.Left), (sI a0.Steps)]) (a1 : Int) (r : S_rickyardref05_Device) (h : rickyardref05_Device_Arm.f fu a0 a1 = some r) :
  Calls Try.prog 96 (([(pt G_0 0), .int .i64 a1] : List Value).toArray) w (fun e w' => ∃ v, e = .returned v ∧ v = .tuple #[] ∧ Blk w' G_0 65 [Seg.cell V0_0 R0_0.one, Seg.cell V0_1 R0_1.one, Seg.cell V0_2 R0_2.one, Seg.cell V0_3 R0_3.one, Seg.cell V0_4 R0_4.one, (sI r.Since), (sI r.Left), (sI r.Steps)] ∧ Fr (fun j => j = G_0) w w') := by
 unfold rickyardref05_Device_Arm.f at h
 have fB : Fr (fun j => j = G_0) w w := Fr.refl _ _
 refine calls_cw Try.func96 rfl Try.ntmps96 rfl ?_
 refine cw_seq ?_
 refine cw_region ?_
 refine ol_val (v := (pt G_0 0)) (xr_move rfl rfl) rfl rfl rfl ?_
 refine ol_val (v := (pt G_0 0)) (xr_nilCheck rfl rfl) rfl rfl rfl ?_
 refine ol_val (v := (pt G_0 6)) (xr_fieldAddr (p := 0) (q := 6) rfl fl65_6 rfl) rfl rfl rfl ?_
 refine ol_val (v := .int .i64 a0.Left) (xr_load1 (v := .int .i64 a0.Left) rfl ag3 rfl (b_0.seg 6 rfl rfl)) rfl rfl rfl ?_
 refine ol_val (v := .bool (!decide (a0.Left = 0))) (xr_neI rfl Try.underlying3 rfl rfl rfl) rfl rfl rfl ?_
 refine ol_nil ?_
 obtain ⟨x1, j2, h3⟩ := bs h
 refine cw_mid (fun ρ' w' => ∃ R0_0 : Rd (kI .u64) w' V0_0 a0.Lasts, ∃ R0_1 : Rd (kI .u64) w' V0_1 a0.Stored, ∃ R0_2 : Rd (kI .u64) w' V0_2 a0.Sent, ∃ R0_3 : Rd kB w' V0_3 a0.Flushed, ∃ R0_4 : Rd (kI .i64) w' V0_4 a0.Plan, Blk w' G_0 65 [Seg.cell V0_0 R0_0.one, Seg.cell V0_1 R0_1.one, Seg.cell V0_2 R0_2.one, Seg.cell V0_3 R0_3.one, Seg.cell V0_4 R0_4.one, (sI a0.Since), (sI x1), (sI a0.Steps)] ∧ Fr (fun j => j = G_0) w w') ?_ ?_
 ·have h := j2
  rcases is h with ⟨c4, h⟩ | ⟨c4, h⟩
  ·refine cw_condT rfl c4 ?_
   refine cw_region ?_
   refine ol_val (v := (pt G_0 0)) (xr_move rfl rfl) rfl rfl rfl ?_
   refine ol_val (v := .int .i64 a1) (xr_move rfl rfl) rfl rfl rfl ?_
   refine ol_val (v := .int .i64 (mxI a1 (-1))) (xr_max2 rfl rfl rfl) rfl rfl rfl ?_
   refine ol_val (v := (pt G_0 0)) (xr_nilCheck rfl rfl) rfl rfl rfl ?_
   refine ol_val (v := (pt G_0 6)) (xr_fieldAddr (p := 0) (q := 6) rfl fl65_6 rfl) rfl rfl rfl ?_
   refine ol_op0 (opv_store (ss' := [Seg.cell V0_0 R0_0.one, Seg.cell V0_1 R0_1.one, Seg.cell V0_2 R0_2.one, Seg.cell V0_3 R0_3.one, Seg.cell V0_4 R0_4.one, (sI a0.Since), (sI (mxI a1 (-1))), (sI a0.Steps)]) (xs := cellsOf [(sI (mxI a1 (-1)))]) rfl sz3 rfl rfl rfl (len_cellsOf _) (one_cellsOf _) b_0 (Spl.segs _ 6 1 [(sI (mxI a1 (-1)))] rfl rfl)) rfl rfl ?_
   rintro _ w6 ⟨b_0, q5⟩
   have R0_0 := R0_0.wr q5 N0_0
   have R0_1 := R0_1.wr q5 N0_1
   have R0_2 := R0_2.wr q5 N0_2
   have R0_3 := R0_3.wr q5 N0_3
   have R0_4 := R0_4.wr q5 N0_4
   have fB := fB.wrS q5 rfl
   refine ol_nil ?_
   obtain rfl := Option.some.inj h
   refine thn_i ?_
   exact ⟨R0_0, R0_1, R0_2, R0_3, R0_4, b_0, fB⟩
  refine cw_condF rfl c4 ?_
  refine cw_skip ?_
  obtain rfl := Option.some.inj h
  refine thn_i ?_
  exact ⟨R0_0, R0_1, R0_2, R0_3, R0_4, b_0, fB⟩
 rintro ρ7 w8 ⟨R0_0, R0_1, R0_2, R0_3, R0_4, b_0, fB⟩
 have h := h3
 obtain rfl := Option.some.inj h
 refine fin_end0 Try.results96 ?_
 exact ⟨_, rfl, rfl, b_0, fB⟩
def rickyardref05_Device_Lay.f (fu : Nat) (a0 : S_rickyardref05_Device) (a1 : List Int) : Option S_rickyardref05_Device := (if List.length ([] : List Int) + List.length a1 ≤ LIM then some ((⟨a0.Lasts, a0.Stored, a0.Sent, a0.Flushed, (([] : List Int) ++ a1), 0, a0.Left, a0.Steps⟩ : S_rickyardref05_Device)) else none)
theorem rickyardref05_Device_Lay.ok (fu : Nat) (w : World) (a0 : S_rickyardref05_Device) (G_0 : Nat) (V0_0 : Value) (O0_0 : Own (kI .u64) 22 w 0 V0_0 a0.Lasts) (V0_1 : Value) (O0_1 : Own (kI .u64) 22 w 0 V0_1 a0.Stored) (V0_2 : Value) (O0_2 : Own (kI .u64) 22 w 0 V0_2 a0.Sent) (V0_3 : Value) (O0_3 : Own kB 4 w 0 V0_3 a0.Flushed) (V0_4 : Value) (O0_4 : Own (kI .i64) 3 w 0 V0_4 a0.Plan) (b_0 : Blk w G_0 65 [Seg.cell V0_0 O0_0.one, Seg.cell V0_1 O0_1.one, Seg.cell V0_2 O0_2.one, Seg.cell V0_3 O0_3.one, Seg.cell V0_4 O0_4.one, (sI a0.Since), (sI a0.Left), (sI a0.Steps)]) (a1 : List Int) (V1_0 : Value) (R1_0 : Rd (kI .i64) w V1_0 a1) (A_R0_0_R0_1 : OffV V0_0 V0_1) (A_R0_0_R0_2 : OffV V0_0 V0_2) (A_R0_1_R0_2 : OffV V0_1 V0_2) (NR1_0_P0 : OffR V1_0 a1 G_0) (NR1_0_R0_0 : OffRV V1_0 a1 V0_0) (NR1_0_R0_1 : OffRV V1_0 a1 V0_1) (NR1_0_R0_2 : OffRV V1_0 a1 V0_2) (NR1_0_R0_3 : OffRV V1_0 a1 V0_3) (NR1_0_R0_4 : OffRV V1_0 a1 V0_4) (r : S_rickyardref05_Device) (h : rickyardref05_Device_Lay.f fu a0 a1 = some r) :
  Calls Try.prog 97 (([(pt G_0 0), V1_0] : List Value).toArray) w (fun e w' => ∃ v, e = .returned v ∧ ∃ u1 : Value, ∃ u4 : Value, ∃ u7 : Value, ∃ u10 : Value, ∃ u13 : Value, ∃ o2 : Own (kI .u64) 22 w' 0 u1 r.Lasts, ∃ m3 : ∀ g, Value.ownBlock u1 = some g → w.heap.size ≤ g ∨ (g = G_0 ∨ some g = Value.ownBlock V0_0 ∨ some g = Value.ownBlock V0_1 ∨ some g = Value.ownBlock V0_2 ∨ some g = Value.ownBlock V0_3 ∨ some g = Value.ownBlock V0_4), ∃ o5 : Own (kI .u64) 22 w' 0 u4 r.Stored, ∃ m6 : ∀ g, Value.ownBlock u4 = some g → w.heap.size ≤ g ∨ (g = G_0 ∨ some g = Value.ownBlock V0_0 ∨ some g = Value.ownBlock V0_1 ∨ some g = Value.ownBlock V0_2 ∨ some g = Value.ownBlock V0_3 ∨ some g = Value.ownBlock V0_4), ∃ o8 : Own (kI .u64) 22 w' 0 u7 r.Sent, ∃ m9 : ∀ g, Value.ownBlock u7 = some g → w.heap.size ≤ g ∨ (g = G_0 ∨ some g = Value.ownBlock V0_0 ∨ some g = Value.ownBlock V0_1 ∨ some g = Value.ownBlock V0_2 ∨ some g = Value.ownBlock V0_3 ∨ some g = Value.ownBlock V0_4), ∃ o11 : Own kB 4 w' 0 u10 r.Flushed, ∃ m12 : ∀ g, Value.ownBlock u10 = some g → w.heap.size ≤ g ∨ (g = G_0 ∨ some g = Value.ownBlock V0_0 ∨ some g = Value.ownBlock V0_1 ∨ some g = Value.ownBlock V0_2 ∨ some g = Value.ownBlock V0_3 ∨ some g = Value.ownBlock V0_4), ∃ o14 : Own (kI .i64) 3 w' 0 u13 r.Plan, ∃ m15 : ∀ g, Value.ownBlock u13 = some g → w.heap.size ≤ g ∨ (g = G_0 ∨ some g = Value.ownBlock V0_0 ∨ some g = Value.ownBlock V0_1 ∨ some g = Value.ownBlock V0_2 ∨ some g = Value.ownBlock V0_3 ∨ some g = Value.ownBlock V0_4), ∃ a16 : OffV u1 u4, ∃ a17 : OffV u1 u7, ∃ a18 : OffV u4 u7, v = .tuple #[] ∧ Blk w' G_0 65 [Seg.cell u1 o2.one, Seg.cell u4 o5.one, Seg.cell u7 o8.one, Seg.cell u10 o11.one, Seg.cell u13 o14.one, (sI r.Since), (sI r.Left), (sI r.Steps)] ∧ Fr (fun j => j = G_0 ∨ some j = Value.ownBlock V0_0 ∨ some j = Value.ownBlock V0_1 ∨ some j = Value.ownBlock V0_2 ∨ some j = Value.ownBlock V0_3 ∨ some j = Value.ownBlock V0_4) w w') := by
 unfold rickyardref05_Device_Lay.f at h
 have fB : Fr (fun j => j = G_0 ∨ some j = Value.ownBlock V0_0 ∨ some j = Value.ownBlock V0_1 ∨ some j = Value.ownBlock V0_2 ∨ some j = Value.ownBlock V0_3 ∨ some j = Value.ownBlock V0_4) w w := Fr.refl _ _
 have M0_0 : ∀ g, Value.ownBlock V0_0 = some g → w.heap.size ≤ g ∨ (g = G_0 ∨ some g = Value.ownBlock V0_0 ∨ some g = Value.ownBlock V0_1 ∨ some g = Value.ownBlock V0_2 ∨ some g = Value.ownBlock V0_3 ∨ some g = Value.ownBlock V0_4) := fun g hg => .inr (.inr (.inl hg.symm))
 have M0_1 : ∀ g, Value.ownBlock V0_1 = some g → w.heap.size ≤ g ∨ (g = G_0 ∨ some g = Value.ownBlock V0_0 ∨ some g = Value.ownBlock V0_1 ∨ some g = Value.ownBlock V0_2 ∨ some g = Value.ownBlock V0_3 ∨ some g = Value.ownBlock V0_4) := fun g hg => .inr (.inr (.inr (.inl hg.symm)))
 have M0_2 : ∀ g, Value.ownBlock V0_2 = some g → w.heap.size ≤ g ∨ (g = G_0 ∨ some g = Value.ownBlock V0_0 ∨ some g = Value.ownBlock V0_1 ∨ some g = Value.ownBlock V0_2 ∨ some g = Value.ownBlock V0_3 ∨ some g = Value.ownBlock V0_4) := fun g hg => .inr (.inr (.inr (.inr (.inl hg.symm))))
 have M0_3 : ∀ g, Value.ownBlock V0_3 = some g → w.heap.size ≤ g ∨ (g = G_0 ∨ some g = Value.ownBlock V0_0 ∨ some g = Value.ownBlock V0_1 ∨ some g = Value.ownBlock V0_2 ∨ some g = Value.ownBlock V0_3 ∨ some g = Value.ownBlock V0_4) := fun g hg => .inr (.inr (.inr (.inr (.inr (.inl hg.symm)))))
 have M0_4 : ∀ g, Value.ownBlock V0_4 = some g → w.heap.size ≤ g ∨ (g = G_0 ∨ some g = Value.ownBlock V0_0 ∨ some g = Value.ownBlock V0_1 ∨ some g = Value.ownBlock V0_2 ∨ some g = Value.ownBlock V0_3 ∨ some g = Value.ownBlock V0_4) := fun g hg => .inr (.inr (.inr (.inr (.inr (.inr hg.symm)))))
 refine calls_cw Try.func97 rfl Try.ntmps97 rfl ?_
 refine cw_seq ?_
 refine cw_region ?_
 refine ol_val (v := (pt G_0 0)) (xr_move rfl rfl) rfl rfl rfl ?_
 refine ol_op (opv_buildSlice (K := (kI .i64)) (xs := ([] : List Int)) (vals := []) rfl Try.underlying25 el3 rfl rfl trivial rfl rfl rfl fB.size) rfl rfl rfl ?_
 rintro v19 w24 ⟨o21, q20, z22⟩
 have a25 := OffV.new O0_4 z22
 have a26 := OffRV.new R1_0 z22 rfl
 have b_0 := b_0.gr q20
 have O0_0 := O0_0.gr q20
 have O0_1 := O0_1.gr q20
 have O0_2 := O0_2.gr q20
 have O0_3 := O0_3.gr q20
 have O0_4 := O0_4.gr q20
 have R1_0 := R1_0.gr q20
 have fB := fB.gr q20
 refine ol_val (v := V1_0) (xr_move rfl rfl) rfl rfl rfl ?_
 obtain ⟨g31, h⟩ := gs h
 have f33 := off_ty b_0 o21 (by decide)
 have f34 := OffV.ty O0_0 o21 (by decide)
 have f35 := OffV.ty O0_1 o21 (by decide)
 have f36 := OffV.ty O0_2 o21 (by decide)
 have f37 := OffV.ty O0_3 o21 (by decide)
 have f38 := a25
 have f39 := o21.geO
 refine ol_op (opv_append (K := (kI .i64)) rfl Try.underlying25 el3 rfl rfl rfl rfl rfl o21 R1_0 g31 fB.size) rfl rfl rfl ?_
 rintro v27 w40 ⟨o28, q29, n30⟩
 have a41 := OffV.app O0_4 f38 n30
 have b_0 := b_0.wrO q29 f33
 have O0_0 := O0_0.wrV q29 f34
 have O0_1 := O0_1.wrV q29 f35
 have O0_2 := O0_2.wrV q29 f36
 have O0_3 := O0_3.wrV q29 f37
 have O0_4 := O0_4.wrV q29 f38
 have fB := fB.wrO q29 f39
 refine ol_val (v := (pt G_0 0)) (xr_nilCheck rfl rfl) rfl rfl rfl ?_
 refine ol_val (v := (pt G_0 4)) (xr_fieldAddr (p := 0) (q := 4) rfl fl65_4 rfl) rfl rfl rfl ?_
 have f43 := off_ty b_0 O0_0 (by decide)
 have f44 := off_ty b_0 O0_1 (by decide)
 have f45 := off_ty b_0 O0_2 (by decide)
 have f46 := off_ty b_0 O0_3 (by decide)
 have f47 := off_ty b_0 o28 (by decide)
 refine ol_op0 (opv_store (ss' := [Seg.cell V0_0 O0_0.one, Seg.cell V0_1 O0_1.one, Seg.cell V0_2 O0_2.one, Seg.cell V0_3 O0_3.one, Seg.cell v27 o28.one, (sI a0.Since), (sI a0.Left), (sI a0.Steps)]) (xs := cellsOf [Seg.cell v27 o28.one]) rfl sz25 rfl rfl (cells_one o28.one) (len_cellsOf _) (one_cellsOf _) b_0 (Spl.segs _ 4 1 [Seg.cell v27 o28.one] rfl rfl)) rfl rfl ?_
 rintro _ w48 ⟨b_0, q42⟩
 have O0_0 := O0_0.wr q42 f43
 have O0_1 := O0_1.wr q42 f44
 have O0_2 := O0_2.wr q42 f45
 have O0_3 := O0_3.wr q42 f46
 have o28 := o28.wr q42 f47
 have fB := fB.wrS q42 (.inl rfl)
 refine ol_nil ?_
 refine cw_region ?_
 refine ol_val (v := (pt G_0 0)) (xr_move rfl rfl) rfl rfl rfl ?_
 refine ol_val (v := (pt G_0 0)) (xr_nilCheck rfl rfl) rfl rfl rfl ?_
 refine ol_val (v := (pt G_0 5)) (xr_fieldAddr (p := 0) (q := 5) rfl fl65_5 rfl) rfl rfl rfl ?_
 have f50 := off_ty b_0 O0_0 (by decide)
 have f51 := off_ty b_0 O0_1 (by decide)
 have f52 := off_ty b_0 O0_2 (by decide)
 have f53 := off_ty b_0 O0_3 (by decide)
 have f54 := off_ty b_0 o28 (by decide)
 refine ol_op0 (opv_store (ss' := [Seg.cell V0_0 O0_0.one, Seg.cell V0_1 O0_1.one, Seg.cell V0_2 O0_2.one, Seg.cell V0_3 O0_3.one, Seg.cell v27 o28.one, (sI 0), (sI a0.Left), (sI a0.Steps)]) (xs := cellsOf [(sI 0)]) rfl sz3 rfl rfl rfl (len_cellsOf _) (one_cellsOf _) b_0 (Spl.segs _ 5 1 [(sI 0)] rfl rfl)) rfl rfl ?_
 rintro _ w55 ⟨b_0, q49⟩
 have O0_0 := O0_0.wr q49 f50
 have O0_1 := O0_1.wr q49 f51
 have O0_2 := O0_2.wr q49 f52
 have O0_3 := O0_3.wr q49 f53
 have o28 := o28.wr q49 f54
 have fB := fB.wrS q49 (.inl rfl)
 refine ol_nil ?_
 obtain rfl := Option.some.inj h
 refine fin_end0 Try.results97 ?_
 exact ⟨_, rfl, V0_0, V0_1, V0_2, V0_3, v27, O0_0, M0_0, O0_1, M0_1, O0_2, M0_2, O0_3, M0_3, (Own.base o28 (Nat.zero_le _)), (ms_geO o28), A_R0_0_R0_1, A_R0_0_R0_2, A_R0_1_R0_2, rfl, b_0, fB⟩
def rickyardref05_Value.f (fu : Nat) (a0 : S_api_Fate) (a1 : Int) : Option Int := ((rickyardref01_Rest.f fu a1 3).bind fun t7 => (if (decide (t7 = 2)) = true then some (a0.Stored) else (if (if (decide (t7 = 1)) = true then a0.Flushed else false) = true then some (a0.Sent) else some (a0.Lasts))))
theorem rickyardref05_Value.ok (fu : Nat) (w : World) (a0 : S_api_Fate) (a1 : Int) (r : Int) (h : rickyardref05_Value.f fu a0 a1 = some r) :
  Calls Try.prog 42 (([aggV [(sI a0.At), Seg.cell (.int .u64 a0.Lasts), Seg.cell (.bool a0.Flushed), Seg.cell (.int .u64 a0.Sent), Seg.cell (.int .u64 a0.Stored)], .int .i64 a1] : List Value).toArray) w (fun e w' => ∃ v, e = .returned v ∧ v = .int .u64 r ∧ Gr w w') := by
 unfold rickyardref05_Value.f at h
 have fB : Gr w w := Fr.refl _ _
 refine calls_cw Try.func42 rfl Try.ntmps42 rfl ?_
 refine cw_seq ?_
 refine cw_region ?_
 refine ol_op (opv_box (ss := [(sI a0.At), Seg.cell (.int .u64 a0.Lasts), Seg.cell (.bool a0.Flushed), Seg.cell (.int .u64 a0.Sent), Seg.cell (.int .u64 a0.Stored)]) rfl rfl rfl) rfl rfl rfl ?_
 rintro _ w6 ⟨G1, rfl, b2, q3, z4⟩
 have z4 := Nat.le_trans fB.size z4
 have fB := fB.gr q3
 refine ol_val (v := .int .u64 0) (xr_assign rfl rfl) rfl rfl rfl ?_
 refine ol_nil ?_
 refine cw_seq ?_
 refine cw_region ?_
 refine ol_val (v := .int .i64 a1) (xr_move rfl rfl) rfl rfl rfl ?_
 obtain ⟨t7, k8, h⟩ := bs h
 refine ol_op (opv_call rfl cal27 (ac rfl (ac rfl an)) (rickyardref01_Rest.ok fu _ a1 3 _ k8)) rfl rfl rfl ?_
 rintro _ w10 ⟨rfl, q9⟩
 have b2 := b2.gr q9
 have fB := fB.gr q9
 refine ol_val (v := .int .i64 t7) (xr_assign rfl rfl) rfl rfl rfl ?_
 refine ol_nil ?_
 refine cw_seq ?_
 refine cw_seq ?_
 refine cw_region ?_
 refine ol_val (v := .int .i64 t7) (xr_move rfl rfl) rfl rfl rfl ?_
 refine ol_val (v := .bool (decide (t7 = 2))) (xr_eqI rfl Try.underlying3 rfl rfl rfl) rfl rfl rfl ?_
 refine ol_nil ?_
 rcases is h with ⟨c11, h⟩ | ⟨c11, h⟩
 ·refine cw_condT rfl c11 ?_
  refine cw_seq ?_
  refine cw_region ?_
  refine ol_val (v := (pt G1 4)) (xr_fieldAddr (p := 0) (q := 4) rfl fl55_4 rfl) rfl rfl rfl ?_
  refine ol_val (v := .int .u64 a0.Stored) (xr_load1 (v := .int .u64 a0.Stored) rfl ag22 rfl (b2.seg 4 rfl rfl)) rfl rfl rfl ?_
  refine ol_val (v := .int .u64 a0.Stored) (xr_assign rfl rfl) rfl rfl rfl ?_
  refine ol_nil ?_
  refine cw_ret ?_
  repeat (first | with_reducible refine thn_r ?_ | with_reducible refine blk_r ?_)
  obtain rfl := Option.some.inj h
  refine fin_ret1 Try.results42 rfl ?_
  exact ⟨_, rfl, rfl, fB⟩
 refine cw_condF rfl c11 ?_
 refine cw_skip ?_
 refine cw_seq ?_
 refine cw_seq ?_
 refine cw_mid (fun ρ' w' => ρ' 2 = (pt G1 0) ∧ ρ' 17 = .bool (if (decide (t7 = 1)) = true then a0.Flushed else false) ∧ w10 = w') ?_ ?_
 ·skip
  refine cw_region ?_
  refine ol_val (v := .int .i64 t7) (xr_move rfl rfl) rfl rfl rfl ?_
  refine ol_val (v := .bool (decide (t7 = 1))) (xr_eqI rfl Try.underlying3 rfl rfl rfl) rfl rfl rfl ?_
  refine ol_val (v := .bool (decide (t7 = 1))) (xr_move rfl rfl) rfl rfl rfl ?_
  rcases bt (decide (t7 = 1)) with c12 | c12
  ·skip
   refine ol_gval (v := (pt G1 2)) (xr_fieldAddr (p := 0) (q := 2) rfl fl55_2 rfl) rfl rfl rfl rfl rfl c12 ?_
   refine ol_gval (v := .bool a0.Flushed) (xr_load1 (v := .bool a0.Flushed) rfl ag4 rfl (b2.seg 2 rfl rfl)) rfl rfl rfl rfl rfl c12 ?_
   refine ol_val (v := .bool a0.Flushed) (xr_pickT rfl rfl c12 rfl) rfl rfl rfl ?_
   refine ol_nil ?_
   refine thn_i ?_
   exact ⟨rfl, (rfl).trans (congrArg (fun z => (.bool z : Value)) (show a0.Flushed = (if (decide (t7 = 1)) = true then a0.Flushed else false) from by rw [ite_t c12])), rfl⟩
  refine ol_gskip rfl rfl rfl rfl rfl c12 ?_
  refine ol_gskip rfl rfl rfl rfl rfl c12 ?_
  refine ol_val (v := .bool false) (xr_pickF rfl rfl c12 rfl) rfl rfl rfl ?_
  refine ol_nil ?_
  refine thn_i ?_
  exact ⟨rfl, (rfl).trans (congrArg (fun z => (.bool z : Value)) (show false = (if (decide (t7 = 1)) = true then a0.Flushed else false) from by rw [ite_f c12])), rfl⟩
 rintro ρ13 _ ⟨e2, e17, rfl⟩
 rcases is h with ⟨c14, h⟩ | ⟨c14, h⟩
 ·refine cw_condT e17 c14 ?_
  refine cw_seq ?_
  refine cw_region ?_
  refine ol_val (v := (pt G1 3)) (xr_fieldAddr (p := 0) (q := 3) rfl fl55_3 e2) rfl rfl rfl ?_
  refine ol_val (v := .int .u64 a0.Sent) (xr_load1 (v := .int .u64 a0.Sent) rfl ag22 rfl (b2.seg 3 rfl rfl)) rfl rfl rfl ?_
  refine ol_val (v := .int .u64 a0.Sent) (xr_assign rfl rfl) rfl rfl rfl ?_
  refine ol_nil ?_
  refine cw_ret ?_
  repeat (first | with_reducible refine thn_r ?_ | with_reducible refine blk_r ?_)
  obtain rfl := Option.some.inj h
  refine fin_ret1 Try.results42 rfl ?_
  exact ⟨_, rfl, rfl, fB⟩
 refine cw_condF e17 c14 ?_
 refine cw_skip ?_
 refine cw_seq ?_
 refine cw_region ?_
 refine ol_val (v := (pt G1 1)) (xr_fieldAddr (p := 0) (q := 1) rfl fl55_1 e2) rfl rfl rfl ?_
 refine ol_val (v := .int .u64 a0.Lasts) (xr_load1 (v := .int .u64 a0.Lasts) rfl ag22 rfl (b2.seg 1 rfl rfl)) rfl rfl rfl ?_
 refine ol_val (v := .int .u64 a0.Lasts) (xr_assign rfl rfl) rfl rfl rfl ?_
 refine ol_nil ?_
 refine cw_ret ?_
 repeat (first | with_reducible refine thn_r ?_ | with_reducible refine blk_r ?_)
 obtain rfl := Option.some.inj h
 refine fin_ret1 Try.results42 rfl ?_
 exact ⟨_, rfl, rfl, fB⟩
def rickyardref05_Device_Fates.s0 (fu : Nat) (a0 : S_rickyardref05_Device) : ((List S_api_Fate) × Int) → Option (Sum (List S_api_Fate) ((List S_api_Fate) × Int)) := fun s4 => (if (decide (s4.2 < (List.length a0.Lasts : Int))) = true then (((if 0 ≤ s4.2 ∧ s4.2 < (List.length a0.Flushed : Int) then (if (ix a0.Flushed s4.2) = true then some (true) else (if 0 ≤ s4.2 ∧ s4.2 < (List.length a0.Stored : Int) then (if 0 ≤ s4.2 ∧ s4.2 < (List.length a0.Lasts : Int) then some ((!decide ((ix a0.Stored s4.2) = (ix a0.Lasts s4.2)))) else none) else none)) else none) : Option Bool).bind fun x18 => (((if x18 = true then (if 0 ≤ s4.2 ∧ s4.2 < (List.length a0.Lasts : Int) then (if 0 ≤ s4.2 ∧ s4.2 < (List.length a0.Flushed : Int) then (if 0 ≤ s4.2 ∧ s4.2 < (List.length a0.Sent : Int) then (if 0 ≤ s4.2 ∧ s4.2 < (List.length a0.Stored : Int) then (if List.length s4.1 + List.length [(⟨s4.2, (ix a0.Lasts s4.2), (ix a0.Flushed s4.2), (ix a0.Sent s4.2), (ix a0.Stored s4.2)⟩ : S_api_Fate)] ≤ LIM then some ((s4.1 ++ [(⟨s4.2, (ix a0.Lasts s4.2), (ix a0.Flushed s4.2), (ix a0.Sent s4.2), (ix a0.Stored s4.2)⟩ : S_api_Fate)])) else none) else none) else none) else none) else none) else some (s4.1)) : Option (List S_api_Fate)).bind fun x38 => some (Sum.inr (x38, (IntKind.i64.wrap (s4.2 + 1)))))) else some (Sum.inl (s4.1)))
def rickyardref05_Device_Fates.f (fu : Nat) (a0 : S_rickyardref05_Device) : Option (List S_api_Fate) := ((loopM (rickyardref05_Device_Fates.s0 fu a0) fu ([], 0)).bind fun e5 => some (e5))
theorem rickyardref05_Device_Fates.ok (fu : Nat) (w : World) (a0 : S_rickyardref05_Device) (G_0 : Nat) (V0_0 : Value) (R0_0 : Rd (kI .u64) w V0_0 a0.Lasts) (V0_1 : Value) (R0_1 : Rd (kI .u64) w V0_1 a0.Stored) (V0_2 : Value) (R0_2 : Rd (kI .u64) w V0_2 a0.Sent) (V0_3 : Value) (R0_3 : Rd kB w V0_3 a0.Flushed) (V0_4 : Value) (R0_4 : Rd (kI .i64) w V0_4 a0.Plan) (b_0 : Blk w G_0 65 [Seg.cell V0_0 R0_0.one, Seg.cell V0_1 R0_1.one, Seg.cell V0_2 R0_2.one, Seg.cell V0_3 R0_3.one, Seg.cell V0_4 R0_4.one, (sI a0.Since), (sI a0.Left), (sI a0.Steps)]) (r : (List S_api_Fate)) (h : rickyardref05_Device_Fates.f fu a0 = some r) :
  Calls Try.prog 47 (([(pt G_0 0)] : List Value).toArray) w (fun e w' => ∃ v, e = .returned v ∧ ∃ u1 : Value, ∃ o2 : Own k_api_Fate 55 w' w.heap.size u1 r, v = u1 ∧ Gr w w') := by
 unfold rickyardref05_Device_Fates.f at h
 have fB : Gr w w := Fr.refl _ _
 refine calls_cw Try.func47 rfl Try.ntmps47 rfl ?_
 refine cw_seq ?_
 refine cw_region ?_
 refine ol_val (v := .slice none 0 0) (xr_assign rfl rfl) rfl rfl rfl ?_
 refine ol_nil ?_
 refine cw_seq ?_
 refine cw_region ?_
 refine ol_val (v := .slice none 0 0) (xr_assign rfl rfl) rfl rfl rfl ?_
 refine ol_nil ?_
 refine cw_seq ?_
 refine cw_seq ?_
 refine cw_region ?_
 refine ol_val (v := .int .i64 0) (xr_assign rfl rfl) rfl rfl rfl ?_
 refine ol_nil ?_
 obtain ⟨e5, l6, h7⟩ := bs h
 refine cw_mid (fun ρ' w' => ∃ v8 : Value, ∃ o9 : Own k_api_Fate 55 w' w.heap.size v8 e5, ρ' 3 = v8 ∧ Blk w' G_0 65 [Seg.cell V0_0 R0_0.one, Seg.cell V0_1 R0_1.one, Seg.cell V0_2 R0_2.one, Seg.cell V0_3 R0_3.one, Seg.cell V0_4 R0_4.one, (sI a0.Since), (sI a0.Left), (sI a0.Steps)] ∧ Gr w w') ?_ ?_
 ·refine cw_block ?_
  refine cw_round (fun (s4 : (List S_api_Fate) × Int) ρ' w' => ∃ v11 : Value, ∃ o12 : Own k_api_Fate 55 w' w.heap.size v11 s4.1, ρ' 0 = (pt G_0 0) ∧ ρ' 3 = v11 ∧ ρ' 4 = .int .i64 s4.2 ∧ Blk w' G_0 65 [Seg.cell V0_0 R0_0.one, Seg.cell V0_1 R0_1.one, Seg.cell V0_2 R0_2.one, Seg.cell V0_3 R0_3.one, Seg.cell V0_4 R0_4.one, (sI a0.Since), (sI a0.Left), (sI a0.Steps)] ∧ Gr w w') l6 ?_ ?_
  ·skip
   exact ⟨(.slice none 0 0), Own.nil _ _ _ _, rfl, rfl, rfl, b_0, fB⟩
  rintro s4 x16 ρ14 w15 ⟨v11, o12, e0, e3, e4, b_0, fB⟩ h
  unfold rickyardref05_Device_Fates.s0 at h
  refine cw_seq ?_
  refine cw_seq ?_
  refine cw_region ?_
  refine ol_val (v := .int .i64 s4.2) (xr_move rfl e4) rfl rfl rfl ?_
  refine ol_val (v := (pt G_0 0)) (xr_move rfl e0) rfl rfl rfl ?_
  refine ol_val (v := (pt G_0 0)) (xr_nilCheck rfl rfl) rfl rfl rfl ?_
  refine ol_val (v := (pt G_0 0)) (xr_fieldAddr (p := 0) (q := 0) rfl fl65_0 rfl) rfl rfl rfl ?_
  refine ol_val (v := V0_0) (xr_load1 (v := V0_0) rfl ag46 rfl (b_0.seg 0 rfl rfl)) rfl rfl rfl ?_
  refine ol_val (v := .int .i64 (List.length a0.Lasts : Int)) (xr_lenR rfl Try.underlying46 rfl (R0_0.gr fB)) rfl rfl rfl ?_
  refine ol_val (v := .bool (decide (s4.2 < (List.length a0.Lasts : Int)))) (xr_lss rfl rfl rfl) rfl rfl rfl ?_
  refine ol_nil ?_
  rcases is h with ⟨c17, h⟩ | ⟨c17, h⟩
  ·refine cw_condT rfl c17 ?_
   refine cw_skip ?_
   refine cw_seq ?_
   refine cw_block ?_
   refine cw_seq ?_
   obtain ⟨x18, j19, h⟩ := bs h
   refine cw_mid (fun ρ' w' => ρ' 0 = (pt G_0 0) ∧ ρ' 3 = v11 ∧ ρ' 4 = .int .i64 s4.2 ∧ ρ' 37 = .bool x18 ∧ Gr w15 w') ?_ ?_
   ·skip
    refine rd_region mo ?_
    intro w20 q21
    have b_0 := b_0.gr q21
    have o12 := o12.gr q21
    have fB := fB.gr q21
    refine rd_drawL 0 5 [fun vz wz => vz = ((pt G_0 0) : Value), fun vz wz => vz = ((pt G_0 0) : Value), fun vz wz => vz = ((pt G_0 3) : Value), fun vz wz => vz = (V0_3 : Value), fun vz wz => vz = (.int .i64 s4.2 : Value)] rfl ⟨fun _ _ _ h _ => h, fun _ _ _ h _ => h, fun _ _ _ h _ => h, fun _ _ _ h _ => h, fun _ _ _ h _ => h, trivial⟩ ?_ ?_
    ·refine ⟨?_, ?_, ?_, ?_, ?_, trivial⟩
     ·intro ρz wz hz hk hd
      exact sk_val (v := (pt G_0 0)) (xr_move rfl ((hk 0 rfl).trans e0)) rfl rfl
     ·intro ρz wz hz hk hd
      exact sk_val (v := (pt G_0 0)) (xr_nilCheck rfl (hd 0 rfl rfl 14 rfl)) rfl rfl
     ·intro ρz wz hz hk hd
      exact sk_val (v := (pt G_0 3)) (xr_fieldAddr (p := 0) (q := 3) rfl fl65_3 (hd 1 rfl rfl 15 rfl)) rfl rfl
     ·intro ρz wz hz hk hd
      exact sk_val (v := V0_3) (xr_load1 (v := V0_3) rfl ag63 (hd 2 rfl rfl 16 rfl) ((b_0.gr hz).seg 3 rfl rfl)) rfl rfl
     intro ρz wz hz hk hd
     exact sk_val (v := .int .i64 s4.2) (xr_move rfl ((hk 4 rfl).trans e4)) rfl rfl
    intro ρ22 w23 q24 hk hd
    have e0 := (hk 0 rfl).trans e0
    have e3 := (hk 3 rfl).trans e3
    have e4 := (hk 4 rfl).trans e4
    have e17 := hd 3 rfl rfl 17 rfl
    have e18 := hd 4 rfl rfl 18 rfl
    have b_0 := b_0.gr q24
    have o12 := o12.gr q24
    have fB := fB.gr q24
    refine rd_seq (m := 5) (n := 8) rfl ?_
    obtain ⟨g25, j19⟩ := gs j19
    refine ol_val (v := (pt ((sb V0_3)) (so V0_3 + Int.toNat s4.2 * 1))) (xr_indexR (K := kB) (v := V0_3) rfl Try.underlying63 sz4 e17 (R0_3.gr fB) e18 g25.1 g25.2) rfl rfl rfl ?_
    refine ol_val (v := .bool (ix a0.Flushed s4.2)) (xr_load1 (v := .bool (ix a0.Flushed s4.2)) rfl ag4 rfl ((R0_3.gr fB).elem g25.1 g25.2)) rfl rfl rfl ?_
    refine ol_val (v := .bool (ix a0.Flushed s4.2)) (xr_move rfl rfl) rfl rfl rfl ?_
    refine ol_nilK ?_
    rcases is j19 with ⟨c26, j19⟩ | ⟨c26, j19⟩
    ·skip
     refine rd_drawL 8 22 [fun vz _ => vz = undef, fun vz _ => vz = undef, fun vz _ => vz = undef, fun vz _ => vz = undef, fun vz _ => vz = undef, fun vz _ => vz = undef, fun vz _ => vz = undef, fun vz _ => vz = undef, fun vz _ => vz = undef, fun vz _ => vz = undef, fun vz _ => vz = undef, fun vz _ => vz = undef, fun vz _ => vz = undef, fun vz _ => vz = undef] rfl ⟨fun _ _ _ h _ => h, fun _ _ _ h _ => h, fun _ _ _ h _ => h, fun _ _ _ h _ => h, fun _ _ _ h _ => h, fun _ _ _ h _ => h, fun _ _ _ h _ => h, fun _ _ _ h _ => h, fun _ _ _ h _ => h, fun _ _ _ h _ => h, fun _ _ _ h _ => h, fun _ _ _ h _ => h, fun _ _ _ h _ => h, fun _ _ _ h _ => h, trivial⟩ ?_ ?_
     ·refine ⟨?_, ?_, ?_, ?_, ?_, ?_, ?_, ?_, ?_, ?_, ?_, ?_, ?_, ?_, trivial⟩
      ·intro ρz wz hz hk hd
       exact sk_skip rfl rfl ((hk 21 rfl).trans rfl) c26 rfl
      ·intro ρz wz hz hk hd
       exact sk_skip rfl rfl ((hk 21 rfl).trans rfl) c26 rfl
      ·intro ρz wz hz hk hd
       exact sk_skip rfl rfl ((hk 21 rfl).trans rfl) c26 rfl
      ·intro ρz wz hz hk hd
       exact sk_skip rfl rfl ((hk 21 rfl).trans rfl) c26 rfl
      ·intro ρz wz hz hk hd
       exact sk_skip rfl rfl ((hk 21 rfl).trans rfl) c26 rfl
      ·intro ρz wz hz hk hd
       exact sk_skip rfl rfl ((hk 21 rfl).trans rfl) c26 rfl
      ·intro ρz wz hz hk hd
       exact sk_skip rfl rfl ((hk 21 rfl).trans rfl) c26 rfl
      ·intro ρz wz hz hk hd
       exact sk_skip rfl rfl ((hk 21 rfl).trans rfl) c26 rfl
      ·intro ρz wz hz hk hd
       exact sk_skip rfl rfl ((hk 21 rfl).trans rfl) c26 rfl
      ·intro ρz wz hz hk hd
       exact sk_skip rfl rfl ((hk 21 rfl).trans rfl) c26 rfl
      ·intro ρz wz hz hk hd
       exact sk_skip rfl rfl ((hk 21 rfl).trans rfl) c26 rfl
      ·intro ρz wz hz hk hd
       exact sk_skip rfl rfl ((hk 21 rfl).trans rfl) c26 rfl
      ·intro ρz wz hz hk hd
       exact sk_skip rfl rfl ((hk 21 rfl).trans rfl) c26 rfl
      intro ρz wz hz hk hd
      exact sk_skip rfl rfl ((hk 21 rfl).trans rfl) c26 rfl
     intro ρ27 w28 q29 hk hd
     have e0 := (hk 0 rfl).trans e0
     have e3 := (hk 3 rfl).trans e3
     have e4 := (hk 4 rfl).trans e4
     have e21 := (hk 21 rfl).trans rfl
     have e22 := hd 8 rfl rfl 22 rfl
     have e23 := hd 9 rfl rfl 23 rfl
     have e24 := hd 10 rfl rfl 24 rfl
     have e25 := hd 11 rfl rfl 25 rfl
     have e26 := hd 12 rfl rfl 26 rfl
     have e27 := hd 13 rfl rfl 27 rfl
     have e28 := hd 14 rfl rfl 28 rfl
     have e29 := hd 15 rfl rfl 29 rfl
     have e30 := hd 16 rfl rfl 30 rfl
     have e31 := hd 17 rfl rfl 31 rfl
     have e32 := hd 18 rfl rfl 32 rfl
     have e33 := hd 19 rfl rfl 33 rfl
     have e34 := hd 20 rfl rfl 34 rfl
     have e35 := hd 21 rfl rfl 35 rfl
     have b_0 := b_0.gr q29
     have o12 := o12.gr q29
     have fB := fB.gr q29
     refine rd_seq (m := 22) (n := 24) rfl ?_
     refine ol_gskip rfl rfl rfl rfl e21 c26 ?_
     refine ol_val (v := .bool true) (xr_pickT rfl e21 c26 rfl) rfl rfl rfl ?_
     refine ol_nilK ?_
     refine rd_end rfl ?_
     obtain rfl := Option.some.inj j19
     refine thn_i ?_
     exact ⟨e0, e3, e4, rfl, ((q21.gr q24).gr q29)⟩
    obtain ⟨g30, j19⟩ := gs j19
    obtain ⟨g31, j19⟩ := gs j19
    refine rd_drawL 8 22 [fun vz wz => vz = ((pt G_0 0) : Value), fun vz wz => vz = ((pt G_0 0) : Value), fun vz wz => vz = ((pt G_0 1) : Value), fun vz wz => vz = (V0_1 : Value), fun vz wz => vz = (.int .i64 s4.2 : Value), fun vz wz => vz = ((pt ((sb V0_1)) (so V0_1 + Int.toNat s4.2 * 1)) : Value), fun vz wz => vz = (.int .u64 (ix a0.Stored s4.2) : Value), fun vz wz => vz = ((pt G_0 0) : Value), fun vz wz => vz = ((pt G_0 0) : Value), fun vz wz => vz = ((pt G_0 0) : Value), fun vz wz => vz = (V0_0 : Value), fun vz wz => vz = (.int .i64 s4.2 : Value), fun vz wz => vz = ((pt ((sb V0_0)) (so V0_0 + Int.toNat s4.2 * 1)) : Value), fun vz wz => vz = (.int .u64 (ix a0.Lasts s4.2) : Value)] rfl ⟨fun _ _ _ h _ => h, fun _ _ _ h _ => h, fun _ _ _ h _ => h, fun _ _ _ h _ => h, fun _ _ _ h _ => h, fun _ _ _ h _ => h, fun _ _ _ h _ => h, fun _ _ _ h _ => h, fun _ _ _ h _ => h, fun _ _ _ h _ => h, fun _ _ _ h _ => h, fun _ _ _ h _ => h, fun _ _ _ h _ => h, fun _ _ _ h _ => h, trivial⟩ ?_ ?_
    ·refine ⟨?_, ?_, ?_, ?_, ?_, ?_, ?_, ?_, ?_, ?_, ?_, ?_, ?_, ?_, trivial⟩
     ·intro ρz wz hz hk hd
      exact sk_gval (v := (pt G_0 0)) (xr_move rfl ((hk 0 rfl).trans e0)) rfl rfl ((hk 21 rfl).trans rfl) c26 rfl
     ·intro ρz wz hz hk hd
      exact sk_gval (v := (pt G_0 0)) (xr_nilCheck rfl (hd 8 rfl rfl 22 rfl)) rfl rfl ((hk 21 rfl).trans rfl) c26 rfl
     ·intro ρz wz hz hk hd
      exact sk_gval (v := (pt G_0 1)) (xr_fieldAddr (p := 0) (q := 1) rfl fl65_1 (hd 9 rfl rfl 23 rfl)) rfl rfl ((hk 21 rfl).trans rfl) c26 rfl
     ·intro ρz wz hz hk hd
      exact sk_gval (v := V0_1) (xr_load1 (v := V0_1) rfl ag46 (hd 10 rfl rfl 24 rfl) ((b_0.gr hz).seg 1 rfl rfl)) rfl rfl ((hk 21 rfl).trans rfl) c26 rfl
     ·intro ρz wz hz hk hd
      exact sk_gval (v := .int .i64 s4.2) (xr_move rfl ((hk 4 rfl).trans e4)) rfl rfl ((hk 21 rfl).trans rfl) c26 rfl
     ·intro ρz wz hz hk hd
      exact sk_gval (xr_indexR (K := (kI .u64)) (v := V0_1) rfl Try.underlying46 sz22 (hd 11 rfl rfl 25 rfl) (R0_1.gr (fB.gr hz)) (hd 12 rfl rfl 26 rfl) g30.1 g30.2) rfl rfl ((hk 21 rfl).trans rfl) c26 rfl
     ·intro ρz wz hz hk hd
      exact sk_gval (v := .int .u64 (ix a0.Stored s4.2)) (xr_load1 (v := .int .u64 (ix a0.Stored s4.2)) rfl ag22 (hd 13 rfl rfl 27 rfl) ((R0_1.gr (fB.gr hz)).elem g30.1 g30.2)) rfl rfl ((hk 21 rfl).trans rfl) c26 rfl
     ·intro ρz wz hz hk hd
      exact sk_gval (v := (pt G_0 0)) (xr_move rfl ((hk 0 rfl).trans e0)) rfl rfl ((hk 21 rfl).trans rfl) c26 rfl
     ·intro ρz wz hz hk hd
      exact sk_gval (v := (pt G_0 0)) (xr_nilCheck rfl (hd 15 rfl rfl 29 rfl)) rfl rfl ((hk 21 rfl).trans rfl) c26 rfl
     ·intro ρz wz hz hk hd
      exact sk_gval (v := (pt G_0 0)) (xr_fieldAddr (p := 0) (q := 0) rfl fl65_0 (hd 16 rfl rfl 30 rfl)) rfl rfl ((hk 21 rfl).trans rfl) c26 rfl
     ·intro ρz wz hz hk hd
      exact sk_gval (v := V0_0) (xr_load1 (v := V0_0) rfl ag46 (hd 17 rfl rfl 31 rfl) ((b_0.gr hz).seg 0 rfl rfl)) rfl rfl ((hk 21 rfl).trans rfl) c26 rfl
     ·intro ρz wz hz hk hd
      exact sk_gval (v := .int .i64 s4.2) (xr_move rfl ((hk 4 rfl).trans e4)) rfl rfl ((hk 21 rfl).trans rfl) c26 rfl
     ·intro ρz wz hz hk hd
      exact sk_gval (xr_indexR (K := (kI .u64)) (v := V0_0) rfl Try.underlying46 sz22 (hd 18 rfl rfl 32 rfl) (R0_0.gr (fB.gr hz)) (hd 19 rfl rfl 33 rfl) g31.1 g31.2) rfl rfl ((hk 21 rfl).trans rfl) c26 rfl
     intro ρz wz hz hk hd
     exact sk_gval (v := .int .u64 (ix a0.Lasts s4.2)) (xr_load1 (v := .int .u64 (ix a0.Lasts s4.2)) rfl ag22 (hd 20 rfl rfl 34 rfl) ((R0_0.gr (fB.gr hz)).elem g31.1 g31.2)) rfl rfl ((hk 21 rfl).trans rfl) c26 rfl
    intro ρ32 w33 q34 hk hd
    have e0 := (hk 0 rfl).trans e0
    have e3 := (hk 3 rfl).trans e3
    have e4 := (hk 4 rfl).trans e4
    have e21 := (hk 21 rfl).trans rfl
    have e22 := hd 8 rfl rfl 22 rfl
    have e23 := hd 9 rfl rfl 23 rfl
    have e24 := hd 10 rfl rfl 24 rfl
    have e25 := hd 11 rfl rfl 25 rfl
    have e26 := hd 12 rfl rfl 26 rfl
    have e27 := hd 13 rfl rfl 27 rfl
    have e28 := hd 14 rfl rfl 28 rfl
    have e29 := hd 15 rfl rfl 29 rfl
    have e30 := hd 16 rfl rfl 30 rfl
    have e31 := hd 17 rfl rfl 31 rfl
    have e32 := hd 18 rfl rfl 32 rfl
    have e33 := hd 19 rfl rfl 33 rfl
    have e34 := hd 20 rfl rfl 34 rfl
    have e35 := hd 21 rfl rfl 35 rfl
    have b_0 := b_0.gr q34
    have o12 := o12.gr q34
    have fB := fB.gr q34
    refine rd_seq (m := 22) (n := 24) rfl ?_
    refine ol_gval (v := .bool (!decide ((ix a0.Stored s4.2) = (ix a0.Lasts s4.2)))) (xr_neI rfl Try.underlying22 rfl e28 e35) rfl rfl rfl rfl e21 c26 ?_
    refine ol_val (v := .bool (!decide ((ix a0.Stored s4.2) = (ix a0.Lasts s4.2)))) (xr_pickF rfl e21 c26 rfl) rfl rfl rfl ?_
    refine ol_nilK ?_
    refine rd_end rfl ?_
    obtain rfl := Option.some.inj j19
    refine thn_i ?_
    exact ⟨e0, e3, e4, rfl, ((q21.gr q24).gr q34)⟩
   rintro ρ35 w36 ⟨e0, e3, e4, e37, q37⟩
   have b_0 := b_0.gr q37
   have o12 := o12.gr q37
   have fB := fB.gr q37
   obtain ⟨x38, j39, h40⟩ := bs h
   refine cw_mid (fun ρ' w' => ∃ v41 : Value, ∃ o42 : Own k_api_Fate 55 w' w.heap.size v41 x38, ρ' 0 = (pt G_0 0) ∧ ρ' 3 = v41 ∧ ρ' 4 = .int .i64 s4.2 ∧ Blk w' G_0 65 [Seg.cell V0_0 R0_0.one, Seg.cell V0_1 R0_1.one, Seg.cell V0_2 R0_2.one, Seg.cell V0_3 R0_3.one, Seg.cell V0_4 R0_4.one, (sI a0.Since), (sI a0.Left), (sI a0.Steps)] ∧ Gr w w') ?_ ?_
   ·have h := j39
    rcases is h with ⟨c44, h⟩ | ⟨c44, h⟩
    ·refine cw_condT e37 c44 ?_
     obtain ⟨g45, h⟩ := gs h
     obtain ⟨g46, h⟩ := gs h
     obtain ⟨g47, h⟩ := gs h
     obtain ⟨g48, h⟩ := gs h
     refine cw_drawL 32 [fun vz wz => vz = (v11 : Value), fun vz wz => vz = (.int .i64 s4.2 : Value), fun vz wz => vz = ((pt G_0 0) : Value), fun vz wz => vz = ((pt G_0 0) : Value), fun vz wz => vz = ((pt G_0 0) : Value), fun vz wz => vz = (V0_0 : Value), fun vz wz => vz = (.int .i64 s4.2 : Value), fun vz wz => vz = ((pt ((sb V0_0)) (so V0_0 + Int.toNat s4.2 * 1)) : Value), fun vz wz => vz = (.int .u64 (ix a0.Lasts s4.2) : Value), fun vz wz => vz = ((pt G_0 0) : Value), fun vz wz => vz = ((pt G_0 0) : Value), fun vz wz => vz = ((pt G_0 3) : Value), fun vz wz => vz = (V0_3 : Value), fun vz wz => vz = (.int .i64 s4.2 : Value), fun vz wz => vz = ((pt ((sb V0_3)) (so V0_3 + Int.toNat s4.2 * 1)) : Value), fun vz wz => vz = (.bool (ix a0.Flushed s4.2) : Value), fun vz wz => vz = ((pt G_0 0) : Value), fun vz wz => vz = ((pt G_0 0) : Value), fun vz wz => vz = ((pt G_0 2) : Value), fun vz wz => vz = (V0_2 : Value), fun vz wz => vz = (.int .i64 s4.2 : Value), fun vz wz => vz = ((pt ((sb V0_2)) (so V0_2 + Int.toNat s4.2 * 1)) : Value), fun vz wz => vz = (.int .u64 (ix a0.Sent s4.2) : Value), fun vz wz => vz = ((pt G_0 0) : Value), fun vz wz => vz = ((pt G_0 0) : Value), fun vz wz => vz = ((pt G_0 1) : Value), fun vz wz => vz = (V0_1 : Value), fun vz wz => vz = (.int .i64 s4.2 : Value), fun vz wz => vz = ((pt ((sb V0_1)) (so V0_1 + Int.toNat s4.2 * 1)) : Value), fun vz wz => vz = (.int .u64 (ix a0.Stored s4.2) : Value), fun vz wz => vz = (aggV [(sI s4.2), Seg.cell (.int .u64 (ix a0.Lasts s4.2)), Seg.cell (.bool (ix a0.Flushed s4.2)), Seg.cell (.int .u64 (ix a0.Sent s4.2)), Seg.cell (.int .u64 (ix a0.Stored s4.2))] : Value), fun vz wz => ∃ v49 : Value, ∃ o51 : Own k_api_Fate 55 wz w.heap.size v49 [(⟨s4.2, (ix a0.Lasts s4.2), (ix a0.Flushed s4.2), (ix a0.Sent s4.2), (ix a0.Stored s4.2)⟩ : S_api_Fate)], vz = (v49 : Value)] mo rfl ⟨fun _ _ _ h _ => h, fun _ _ _ h _ => h, fun _ _ _ h _ => h, fun _ _ _ h _ => h, fun _ _ _ h _ => h, fun _ _ _ h _ => h, fun _ _ _ h _ => h, fun _ _ _ h _ => h, fun _ _ _ h _ => h, fun _ _ _ h _ => h, fun _ _ _ h _ => h, fun _ _ _ h _ => h, fun _ _ _ h _ => h, fun _ _ _ h _ => h, fun _ _ _ h _ => h, fun _ _ _ h _ => h, fun _ _ _ h _ => h, fun _ _ _ h _ => h, fun _ _ _ h _ => h, fun _ _ _ h _ => h, fun _ _ _ h _ => h, fun _ _ _ h _ => h, fun _ _ _ h _ => h, fun _ _ _ h _ => h, fun _ _ _ h _ => h, fun _ _ _ h _ => h, fun _ _ _ h _ => h, fun _ _ _ h _ => h, fun _ _ _ h _ => h, fun _ _ _ h _ => h, fun _ _ _ h _ => h, fun _ _ _ ⟨v49, o51, h⟩ q => ⟨v49, o51.gr q, h⟩, trivial⟩ ?_ ?_
     ·refine ⟨?_, ?_, ?_, ?_, ?_, ?_, ?_, ?_, ?_, ?_, ?_, ?_, ?_, ?_, ?_, ?_, ?_, ?_, ?_, ?_, ?_, ?_, ?_, ?_, ?_, ?_, ?_, ?_, ?_, ?_, ?_, ?_, trivial⟩
      ·intro ρz wz hz hk hd
       exact sk_val (v := v11) (xr_move rfl ((hk 3 rfl).trans e3)) rfl rfl
      ·intro ρz wz hz hk hd
       exact sk_val (v := .int .i64 s4.2) (xr_move rfl ((hk 4 rfl).trans e4)) rfl rfl
      ·intro ρz wz hz hk hd
       exact sk_val (v := (pt G_0 0)) (xr_move rfl ((hk 0 rfl).trans e0)) rfl rfl
      ·intro ρz wz hz hk hd
       exact sk_val (v := (pt G_0 0)) (xr_nilCheck rfl (hd 2 rfl 40 rfl)) rfl rfl
      ·intro ρz wz hz hk hd
       exact sk_val (v := (pt G_0 0)) (xr_fieldAddr (p := 0) (q := 0) rfl fl65_0 (hd 3 rfl 41 rfl)) rfl rfl
      ·intro ρz wz hz hk hd
       exact sk_val (v := V0_0) (xr_load1 (v := V0_0) rfl ag46 (hd 4 rfl 42 rfl) ((b_0.gr hz).seg 0 rfl rfl)) rfl rfl
      ·intro ρz wz hz hk hd
       exact sk_val (v := .int .i64 s4.2) (xr_move rfl ((hk 4 rfl).trans e4)) rfl rfl
      ·intro ρz wz hz hk hd
       exact sk_val (xr_indexR (K := (kI .u64)) (v := V0_0) rfl Try.underlying46 sz22 (hd 5 rfl 43 rfl) (R0_0.gr (fB.gr hz)) (hd 6 rfl 44 rfl) g45.1 g45.2) rfl rfl
      ·intro ρz wz hz hk hd
       exact sk_val (v := .int .u64 (ix a0.Lasts s4.2)) (xr_load1 (v := .int .u64 (ix a0.Lasts s4.2)) rfl ag22 (hd 7 rfl 45 rfl) ((R0_0.gr (fB.gr hz)).elem g45.1 g45.2)) rfl rfl
      ·intro ρz wz hz hk hd
       exact sk_val (v := (pt G_0 0)) (xr_move rfl ((hk 0 rfl).trans e0)) rfl rfl
      ·intro ρz wz hz hk hd
       exact sk_val (v := (pt G_0 0)) (xr_nilCheck rfl (hd 9 rfl 47 rfl)) rfl rfl
      ·intro ρz wz hz hk hd
       exact sk_val (v := (pt G_0 3)) (xr_fieldAddr (p := 0) (q := 3) rfl fl65_3 (hd 10 rfl 48 rfl)) rfl rfl
      ·intro ρz wz hz hk hd
       exact sk_val (v := V0_3) (xr_load1 (v := V0_3) rfl ag63 (hd 11 rfl 49 rfl) ((b_0.gr hz).seg 3 rfl rfl)) rfl rfl
      ·intro ρz wz hz hk hd
       exact sk_val (v := .int .i64 s4.2) (xr_move rfl ((hk 4 rfl).trans e4)) rfl rfl
      ·intro ρz wz hz hk hd
       exact sk_val (xr_indexR (K := kB) (v := V0_3) rfl Try.underlying63 sz4 (hd 12 rfl 50 rfl) (R0_3.gr (fB.gr hz)) (hd 13 rfl 51 rfl) g46.1 g46.2) rfl rfl
      ·intro ρz wz hz hk hd
       exact sk_val (v := .bool (ix a0.Flushed s4.2)) (xr_load1 (v := .bool (ix a0.Flushed s4.2)) rfl ag4 (hd 14 rfl 52 rfl) ((R0_3.gr (fB.gr hz)).elem g46.1 g46.2)) rfl rfl
      ·intro ρz wz hz hk hd
       exact sk_val (v := (pt G_0 0)) (xr_move rfl ((hk 0 rfl).trans e0)) rfl rfl
      ·intro ρz wz hz hk hd
       exact sk_val (v := (pt G_0 0)) (xr_nilCheck rfl (hd 16 rfl 54 rfl)) rfl rfl
      ·intro ρz wz hz hk hd
       exact sk_val (v := (pt G_0 2)) (xr_fieldAddr (p := 0) (q := 2) rfl fl65_2 (hd 17 rfl 55 rfl)) rfl rfl
      ·intro ρz wz hz hk hd
       exact sk_val (v := V0_2) (xr_load1 (v := V0_2) rfl ag46 (hd 18 rfl 56 rfl) ((b_0.gr hz).seg 2 rfl rfl)) rfl rfl
      ·intro ρz wz hz hk hd
       exact sk_val (v := .int .i64 s4.2) (xr_move rfl ((hk 4 rfl).trans e4)) rfl rfl
      ·intro ρz wz hz hk hd
       exact sk_val (xr_indexR (K := (kI .u64)) (v := V0_2) rfl Try.underlying46 sz22 (hd 19 rfl 57 rfl) (R0_2.gr (fB.gr hz)) (hd 20 rfl 58 rfl) g47.1 g47.2) rfl rfl
      ·intro ρz wz hz hk hd
       exact sk_val (v := .int .u64 (ix a0.Sent s4.2)) (xr_load1 (v := .int .u64 (ix a0.Sent s4.2)) rfl ag22 (hd 21 rfl 59 rfl) ((R0_2.gr (fB.gr hz)).elem g47.1 g47.2)) rfl rfl
      ·intro ρz wz hz hk hd
       exact sk_val (v := (pt G_0 0)) (xr_move rfl ((hk 0 rfl).trans e0)) rfl rfl
      ·intro ρz wz hz hk hd
       exact sk_val (v := (pt G_0 0)) (xr_nilCheck rfl (hd 23 rfl 61 rfl)) rfl rfl
      ·intro ρz wz hz hk hd
       exact sk_val (v := (pt G_0 1)) (xr_fieldAddr (p := 0) (q := 1) rfl fl65_1 (hd 24 rfl 62 rfl)) rfl rfl
      ·intro ρz wz hz hk hd
       exact sk_val (v := V0_1) (xr_load1 (v := V0_1) rfl ag46 (hd 25 rfl 63 rfl) ((b_0.gr hz).seg 1 rfl rfl)) rfl rfl
      ·intro ρz wz hz hk hd
       exact sk_val (v := .int .i64 s4.2) (xr_move rfl ((hk 4 rfl).trans e4)) rfl rfl
      ·intro ρz wz hz hk hd
       exact sk_val (xr_indexR (K := (kI .u64)) (v := V0_1) rfl Try.underlying46 sz22 (hd 26 rfl 64 rfl) (R0_1.gr (fB.gr hz)) (hd 27 rfl 65 rfl) g48.1 g48.2) rfl rfl
      ·intro ρz wz hz hk hd
       exact sk_val (v := .int .u64 (ix a0.Stored s4.2)) (xr_load1 (v := .int .u64 (ix a0.Stored s4.2)) rfl ag22 (hd 28 rfl 66 rfl) ((R0_1.gr (fB.gr hz)).elem g48.1 g48.2)) rfl rfl
      ·intro ρz wz hz hk hd
       exact sk_val (xr_build (vals := [(0, .int .i64 s4.2), (1, .int .u64 (ix a0.Lasts s4.2)), (2, .bool (ix a0.Flushed s4.2)), (3, .int .u64 (ix a0.Sent s4.2)), (4, .int .u64 (ix a0.Stored s4.2))]) rfl ⟨rfl, (hd 1 rfl 39 rfl), ⟨rfl, (hd 8 rfl 46 rfl), ⟨rfl, (hd 15 rfl 53 rfl), ⟨rfl, (hd 22 rfl 60 rfl), ⟨rfl, (hd 29 rfl 67 rfl), trivial⟩⟩⟩⟩⟩ (bl55_0_1_2_3_4 s4.2 (ix a0.Lasts s4.2) (ix a0.Flushed s4.2) (ix a0.Sent s4.2) (ix a0.Stored s4.2) _)) rfl rfl
      intro ρz wz hz hk hd
      refine sk_op (opv_buildRec (K := k_api_Fate) (z := (⟨s4.2, (ix a0.Lasts s4.2), (ix a0.Flushed s4.2), (ix a0.Sent s4.2), (ix a0.Stored s4.2)⟩ : S_api_Fate)) rfl Try.underlying52 el55 rfl rfl (hd 30 rfl 68 rfl) rfl (Nat.le_trans fB.size hz.size)) rfl ?_
      rintro v49 wy ⟨o51, q50, z52⟩
      exact ⟨⟨v49, o51, rfl⟩, q50⟩
     intro ρ54 w55 q56 hk hd
     have e0 := (hk 0 rfl).trans e0
     have e4 := (hk 4 rfl).trans e4
     have e38 := hd 0 rfl 38 rfl
     obtain ⟨v57, o58, e69⟩ := hd 31 rfl 69 rfl
     have b_0 := b_0.gr q56
     have o12 := o12.gr q56
     have fB := fB.gr q56
     obtain ⟨g64, h⟩ := gs h
     have f66 := off_ty b_0 o12 (by decide)
     have f67 := o12.geO
     refine ol_op (opv_append (K := k_api_Fate) rfl Try.underlying52 el55 rfl rfl rfl e38 e69 o12 o58.rd g64 fB.size) rfl rfl rfl ?_
     rintro v60 w68 ⟨o61, q62, n63⟩
     have b_0 := b_0.wrO q62 f66
     have fB := fB.wrO q62 f67
     refine ol_val (v := v60) (xr_assign rfl rfl) rfl rfl rfl ?_
     refine ol_nil ?_
     obtain rfl := Option.some.inj h
     refine thn_i ?_
     exact ⟨v60, o61, e0, rfl, e4, b_0, fB⟩
    refine cw_condF e37 c44 ?_
    refine cw_skip ?_
    obtain rfl := Option.some.inj h
    refine thn_i ?_
    exact ⟨v11, o12, e0, e3, e4, b_0, fB⟩
   rintro ρ69 w70 ⟨v41, o42, e0, e3, e4, b_0, fB⟩
   have h := h40
   refine blk_i ?_
   refine cw_region ?_
   refine ol_val (v := .int .i64 s4.2) (xr_move rfl e4) rfl rfl rfl ?_
   refine ol_val (v := .int .i64 (IntKind.i64.wrap (s4.2 + 1))) (xr_add rfl rfl rfl) rfl rfl rfl ?_
   refine ol_val (v := .int .i64 (IntKind.i64.wrap (s4.2 + 1))) (xr_assign rfl rfl) rfl rfl rfl ?_
   refine ol_nil ?_
   obtain rfl := Option.some.inj h
   refine lp_in ?_
   exact ⟨v41, o42, e0, e3, rfl, b_0, fB⟩
  refine cw_condF rfl c17 ?_
  refine cw_exit ?_
  repeat (first | with_reducible refine thn_e ?_ | with_reducible refine blk_e rfl ?_)
  obtain rfl := Option.some.inj h
  refine lp_exit ?_
  rintro rfl
  refine thn_x ?_
  exact ⟨v11, o12, e3, b_0, fB⟩
 rintro ρ71 w72 ⟨v8, o9, e3, b_0, fB⟩
 have h := h7
 refine cw_seq ?_
 refine cw_region ?_
 refine ol_val (v := v8) (xr_move rfl e3) rfl rfl rfl ?_
 refine ol_val (v := v8) (xr_assign rfl rfl) rfl rfl rfl ?_
 refine ol_nil ?_
 refine cw_ret ?_
 repeat (first | with_reducible refine thn_r ?_ | with_reducible refine blk_r ?_)
 obtain rfl := Option.some.inj h
 refine fin_ret1 Try.results47 rfl ?_
 exact ⟨_, rfl, v8, o9, rfl, fB⟩
def rickyardref05_Device_Crash.s0 (fu : Nat) (a1 : List Int) (t19 : (List S_api_Fate)) : (Int × (List Int) × (List Int) × (List Int) × (List Bool) × (List Int) × Int × Int × Int) → Option (Sum ((List Int) × (List Int) × (List Int) × (List Bool) × (List Int) × Int × Int × Int) (Int × (List Int) × (List Int) × (List Int) × (List Bool) × (List Int) × Int × Int × Int)) := fun s27 => (if (decide (s27.1 < (List.length t19 : Int))) = true then (((if (decide (s27.1 < (List.length a1 : Int))) = true then (if 0 ≤ s27.1 ∧ s27.1 < (List.length a1 : Int) then some ((ix a1 s27.1)) else none) else some (0)) : Option Int).bind fun x86 => (if 0 ≤ s27.1 ∧ s27.1 < (List.length t19 : Int) then (if 0 ≤ s27.1 ∧ s27.1 < (List.length t19 : Int) then ((rickyardref05_Value.f fu (ix t19 s27.1) x86).bind fun t95 => ((rickyardref05_Device_last.f fu (⟨s27.2.1, s27.2.2.1, s27.2.2.2.1, s27.2.2.2.2.1, s27.2.2.2.2.2.1, s27.2.2.2.2.2.2.1, s27.2.2.2.2.2.2.2.1, s27.2.2.2.2.2.2.2.2⟩ : S_rickyardref05_Device) ((ix t19 s27.1).At) t95).bind fun t101 => some (Sum.inr ((IntKind.i64.wrap (s27.1 + 1)), t101.Lasts, t101.Stored, t101.Sent, t101.Flushed, t101.Plan, t101.Since, t101.Left, t101.Steps)))) else none) else none)) else some (Sum.inl (s27.2.1, s27.2.2.1, s27.2.2.2.1, s27.2.2.2.2.1, s27.2.2.2.2.2.1, s27.2.2.2.2.2.2.1, s27.2.2.2.2.2.2.2.1, s27.2.2.2.2.2.2.2.2)))
def rickyardref05_Device_Crash.s1 (fu : Nat) (e28 : (List Int) × (List Int) × (List Int) × (List Bool) × (List Int) × Int × Int × Int) : (Int × (List Int)) → Option (Sum (List Int) (Int × (List Int))) := fun s138 => (if (decide (s138.1 < (List.length e28.1 : Int))) = true then (if 0 ≤ s138.1 ∧ s138.1 < (List.length e28.1 : Int) then (if 0 ≤ s138.1 ∧ s138.1 < (List.length s138.2 : Int) then some (Sum.inr ((IntKind.i64.wrap (s138.1 + 1)), (List.set s138.2 (Int.toNat s138.1) (ix e28.1 s138.1)))) else none) else none) else some (Sum.inl (s138.2)))
def rickyardref05_Device_Crash.f (fu : Nat) (a0 : S_rickyardref05_Device) (a1 : List Int) : Option S_rickyardref05_Device := ((rickyardref05_Device_Fates.f fu a0).bind fun t19 => ((loopM (rickyardref05_Device_Crash.s0 fu a1 t19) fu (0, a0.Lasts, a0.Stored, a0.Sent, a0.Flushed, a0.Plan, a0.Since, a0.Left, a0.Steps)).bind fun e28 => ((loopM (rickyardref05_Device_Crash.s1 fu e28) fu (0, e28.2.1)).bind fun e139 => some ((⟨e28.1, e139, e28.2.2.1, e28.2.2.2.1, [], 0, (-1), e28.2.2.2.2.2.2.2⟩ : S_rickyardref05_Device)))))
theorem rickyardref05_Device_Crash.ok (fu : Nat) (w : World) (a0 : S_rickyardref05_Device) (G_0 : Nat) (V0_0 : Value) (O0_0 : Own (kI .u64) 22 w 0 V0_0 a0.Lasts) (V0_1 : Value) (O0_1 : Own (kI .u64) 22 w 0 V0_1 a0.Stored) (V0_2 : Value) (O0_2 : Own (kI .u64) 22 w 0 V0_2 a0.Sent) (V0_3 : Value) (O0_3 : Own kB 4 w 0 V0_3 a0.Flushed) (V0_4 : Value) (O0_4 : Own (kI .i64) 3 w 0 V0_4 a0.Plan) (b_0 : Blk w G_0 65 [Seg.cell V0_0 O0_0.one, Seg.cell V0_1 O0_1.one, Seg.cell V0_2 O0_2.one, Seg.cell V0_3 O0_3.one, Seg.cell V0_4 O0_4.one, (sI a0.Since), (sI a0.Left), (sI a0.Steps)]) (a1 : List Int) (V1_0 : Value) (R1_0 : Rd (kI .i64) w V1_0 a1) (A_R0_0_R0_1 : OffV V0_0 V0_1) (A_R0_0_R0_2 : OffV V0_0 V0_2) (A_R0_1_R0_2 : OffV V0_1 V0_2) (NR1_0_P0 : OffR V1_0 a1 G_0) (NR1_0_R0_0 : OffRV V1_0 a1 V0_0) (NR1_0_R0_1 : OffRV V1_0 a1 V0_1) (NR1_0_R0_2 : OffRV V1_0 a1 V0_2) (NR1_0_R0_3 : OffRV V1_0 a1 V0_3) (NR1_0_R0_4 : OffRV V1_0 a1 V0_4) (r : S_rickyardref05_Device) (h : rickyardref05_Device_Crash.f fu a0 a1 = some r) :
  Calls Try.prog 98 (([(pt G_0 0), V1_0] : List Value).toArray) w (fun e w' => ∃ v, e = .returned v ∧ ∃ u1 : Value, ∃ u4 : Value, ∃ u7 : Value, ∃ u10 : Value, ∃ u13 : Value, ∃ o2 : Own (kI .u64) 22 w' 0 u1 r.Lasts, ∃ m3 : ∀ g, Value.ownBlock u1 = some g → w.heap.size ≤ g ∨ (g = G_0 ∨ some g = Value.ownBlock V0_0 ∨ some g = Value.ownBlock V0_1 ∨ some g = Value.ownBlock V0_2 ∨ some g = Value.ownBlock V0_3 ∨ some g = Value.ownBlock V0_4), ∃ o5 : Own (kI .u64) 22 w' 0 u4 r.Stored, ∃ m6 : ∀ g, Value.ownBlock u4 = some g → w.heap.size ≤ g ∨ (g = G_0 ∨ some g = Value.ownBlock V0_0 ∨ some g = Value.ownBlock V0_1 ∨ some g = Value.ownBlock V0_2 ∨ some g = Value.ownBlock V0_3 ∨ some g = Value.ownBlock V0_4), ∃ o8 : Own (kI .u64) 22 w' 0 u7 r.Sent, ∃ m9 : ∀ g, Value.ownBlock u7 = some g → w.heap.size ≤ g ∨ (g = G_0 ∨ some g = Value.ownBlock V0_0 ∨ some g = Value.ownBlock V0_1 ∨ some g = Value.ownBlock V0_2 ∨ some g = Value.ownBlock V0_3 ∨ some g = Value.ownBlock V0_4), ∃ o11 : Own kB 4 w' 0 u10 r.Flushed, ∃ m12 : ∀ g, Value.ownBlock u10 = some g → w.heap.size ≤ g ∨ (g = G_0 ∨ some g = Value.ownBlock V0_0 ∨ some g = Value.ownBlock V0_1 ∨ some g = Value.ownBlock V0_2 ∨ some g = Value.ownBlock V0_3 ∨ some g = Value.ownBlock V0_4), ∃ o14 : Own (kI .i64) 3 w' 0 u13 r.Plan, ∃ m15 : ∀ g, Value.ownBlock u13 = some g → w.heap.size ≤ g ∨ (g = G_0 ∨ some g = Value.ownBlock V0_0 ∨ some g = Value.ownBlock V0_1 ∨ some g = Value.ownBlock V0_2 ∨ some g = Value.ownBlock V0_3 ∨ some g = Value.ownBlock V0_4), ∃ a16 : OffV u1 u4, ∃ a17 : OffV u1 u7, ∃ a18 : OffV u4 u7, v = .tuple #[] ∧ Blk w' G_0 65 [Seg.cell u1 o2.one, Seg.cell u4 o5.one, Seg.cell u7 o8.one, Seg.cell u10 o11.one, Seg.cell u13 o14.one, (sI r.Since), (sI r.Left), (sI r.Steps)] ∧ Fr (fun j => j = G_0 ∨ some j = Value.ownBlock V0_0 ∨ some j = Value.ownBlock V0_1 ∨ some j = Value.ownBlock V0_2 ∨ some j = Value.ownBlock V0_3 ∨ some j = Value.ownBlock V0_4) w w') := by
 unfold rickyardref05_Device_Crash.f at h
 have fB : Fr (fun j => j = G_0 ∨ some j = Value.ownBlock V0_0 ∨ some j = Value.ownBlock V0_1 ∨ some j = Value.ownBlock V0_2 ∨ some j = Value.ownBlock V0_3 ∨ some j = Value.ownBlock V0_4) w w := Fr.refl _ _
 have M0_0 : ∀ g, Value.ownBlock V0_0 = some g → w.heap.size ≤ g ∨ (g = G_0 ∨ some g = Value.ownBlock V0_0 ∨ some g = Value.ownBlock V0_1 ∨ some g = Value.ownBlock V0_2 ∨ some g = Value.ownBlock V0_3 ∨ some g = Value.ownBlock V0_4) := fun g hg => .inr (.inr (.inl hg.symm))
 have M0_1 : ∀ g, Value.ownBlock V0_1 = some g → w.heap.size ≤ g ∨ (g = G_0 ∨ some g = Value.ownBlock V0_0 ∨ some g = Value.ownBlock V0_1 ∨ some g = Value.ownBlock V0_2 ∨ some g = Value.ownBlock V0_3 ∨ some g = Value.ownBlock V0_4) := fun g hg => .inr (.inr (.inr (.inl hg.symm)))
 have M0_2 : ∀ g, Value.ownBlock V0_2 = some g → w.heap.size ≤ g ∨ (g = G_0 ∨ some g = Value.ownBlock V0_0 ∨ some g = Value.ownBlock V0_1 ∨ some g = Value.ownBlock V0_2 ∨ some g = Value.ownBlock V0_3 ∨ some g = Value.ownBlock V0_4) := fun g hg => .inr (.inr (.inr (.inr (.inl hg.symm))))
 have M0_3 : ∀ g, Value.ownBlock V0_3 = some g → w.heap.size ≤ g ∨ (g = G_0 ∨ some g = Value.ownBlock V0_0 ∨ some g = Value.ownBlock V0_1 ∨ some g = Value.ownBlock V0_2 ∨ some g = Value.ownBlock V0_3 ∨ some g = Value.ownBlock V0_4) := fun g hg => .inr (.inr (.inr (.inr (.inr (.inl hg.symm)))))
 have M0_4 : ∀ g, Value.ownBlock V0_4 = some g → w.heap.size ≤ g ∨ (g = G_0 ∨ some g = Value.ownBlock V0_0 ∨ some g = Value.ownBlock V0_1 ∨ some g = Value.ownBlock V0_2 ∨ some g = Value.ownBlock V0_3 ∨ some g = Value.ownBlock V0_4) := fun g hg => .inr (.inr (.inr (.inr (.inr (.inr hg.symm)))))
 refine calls_cw Try.func98 rfl Try.ntmps98 rfl ?_
 refine cw_seq ?_
 refine cw_region ?_
 refine ol_val (v := (pt G_0 0)) (xr_move rfl rfl) rfl rfl rfl ?_
 obtain ⟨t19, k20, h⟩ := bs h
 refine ol_op (opv_call rfl cal47 (ac rfl an) (rickyardref05_Device_Fates.ok fu _ a0 G_0 V0_0 (O0_0.rd) V0_1 (O0_1.rd) V0_2 (O0_2.rd) V0_3 (O0_3.rd) V0_4 (O0_4.rd) b_0 _ k20)) rfl rfl rfl ?_
 rintro u21 w25 ⟨_, o22, rfl, q24⟩
 have a26 := OffRV.call R1_0 o22 rfl
 have o22 := Own.base o22 fB.size
 have b_0 := b_0.gr q24
 have O0_0 := O0_0.gr q24
 have O0_1 := O0_1.gr q24
 have O0_2 := O0_2.gr q24
 have O0_3 := O0_3.gr q24
 have O0_4 := O0_4.gr q24
 have R1_0 := R1_0.gr q24
 have fB := fB.gr q24
 refine ol_val (v := u21) (xr_assign rfl rfl) rfl rfl rfl ?_
 refine ol_nil ?_
 refine cw_seq ?_
 refine cw_seq ?_
 refine cw_region ?_
 refine ol_val (v := .int .i64 0) (xr_assign rfl rfl) rfl rfl rfl ?_
 refine ol_nil ?_
 obtain ⟨e28, l29, h30⟩ := bs h
 refine cw_mid (fun ρ' w' => ∃ v31 : Value, ∃ v35 : Value, ∃ v39 : Value, ∃ v43 : Value, ∃ v47 : Value, ∃ o32 : Own (kI .u64) 22 w' 0 v31 e28.1, ∃ o36 : Own (kI .u64) 22 w' 0 v35 e28.2.1, ∃ o40 : Own (kI .u64) 22 w' 0 v39 e28.2.2.1, ∃ o44 : Own kB 4 w' 0 v43 e28.2.2.2.1, ∃ o48 : Own (kI .i64) 3 w' 0 v47 e28.2.2.2.2.1, ∃ m34 : ∀ g, Value.ownBlock v31 = some g → w.heap.size ≤ g ∨ (g = G_0 ∨ some g = Value.ownBlock V0_0 ∨ some g = Value.ownBlock V0_1 ∨ some g = Value.ownBlock V0_2 ∨ some g = Value.ownBlock V0_3 ∨ some g = Value.ownBlock V0_4), ∃ m38 : ∀ g, Value.ownBlock v35 = some g → w.heap.size ≤ g ∨ (g = G_0 ∨ some g = Value.ownBlock V0_0 ∨ some g = Value.ownBlock V0_1 ∨ some g = Value.ownBlock V0_2 ∨ some g = Value.ownBlock V0_3 ∨ some g = Value.ownBlock V0_4), ∃ m42 : ∀ g, Value.ownBlock v39 = some g → w.heap.size ≤ g ∨ (g = G_0 ∨ some g = Value.ownBlock V0_0 ∨ some g = Value.ownBlock V0_1 ∨ some g = Value.ownBlock V0_2 ∨ some g = Value.ownBlock V0_3 ∨ some g = Value.ownBlock V0_4), ∃ m46 : ∀ g, Value.ownBlock v43 = some g → w.heap.size ≤ g ∨ (g = G_0 ∨ some g = Value.ownBlock V0_0 ∨ some g = Value.ownBlock V0_1 ∨ some g = Value.ownBlock V0_2 ∨ some g = Value.ownBlock V0_3 ∨ some g = Value.ownBlock V0_4), ∃ m50 : ∀ g, Value.ownBlock v47 = some g → w.heap.size ≤ g ∨ (g = G_0 ∨ some g = Value.ownBlock V0_0 ∨ some g = Value.ownBlock V0_1 ∨ some g = Value.ownBlock V0_2 ∨ some g = Value.ownBlock V0_3 ∨ some g = Value.ownBlock V0_4), OffV v31 v35 ∧ OffV v31 v39 ∧ OffV v35 v39 ∧ ρ' 0 = (pt G_0 0) ∧ Blk w' G_0 65 [Seg.cell v31 o32.one, Seg.cell v35 o36.one, Seg.cell v39 o40.one, Seg.cell v43 o44.one, Seg.cell v47 o48.one, (sI e28.2.2.2.2.2.1), (sI e28.2.2.2.2.2.2.1), (sI e28.2.2.2.2.2.2.2)] ∧ Fr (fun j => j = G_0 ∨ some j = Value.ownBlock V0_0 ∨ some j = Value.ownBlock V0_1 ∨ some j = Value.ownBlock V0_2 ∨ some j = Value.ownBlock V0_3 ∨ some j = Value.ownBlock V0_4) w w') ?_ ?_
 ·refine cw_block ?_
  refine cw_round (fun (s27 : Int × (List Int) × (List Int) × (List Int) × (List Bool) × (List Int) × Int × Int × Int) ρ' w' => ∃ v54 : Value, ∃ v58 : Value, ∃ v62 : Value, ∃ v66 : Value, ∃ v70 : Value, ∃ o22 : Own k_api_Fate 55 w' w.heap.size u21 t19, ∃ o55 : Own (kI .u64) 22 w' 0 v54 s27.2.1, ∃ o59 : Own (kI .u64) 22 w' 0 v58 s27.2.2.1, ∃ o63 : Own (kI .u64) 22 w' 0 v62 s27.2.2.2.1, ∃ o67 : Own kB 4 w' 0 v66 s27.2.2.2.2.1, ∃ o71 : Own (kI .i64) 3 w' 0 v70 s27.2.2.2.2.2.1, ∃ m57 : ∀ g, Value.ownBlock v54 = some g → w.heap.size ≤ g ∨ (g = G_0 ∨ some g = Value.ownBlock V0_0 ∨ some g = Value.ownBlock V0_1 ∨ some g = Value.ownBlock V0_2 ∨ some g = Value.ownBlock V0_3 ∨ some g = Value.ownBlock V0_4), ∃ m61 : ∀ g, Value.ownBlock v58 = some g → w.heap.size ≤ g ∨ (g = G_0 ∨ some g = Value.ownBlock V0_0 ∨ some g = Value.ownBlock V0_1 ∨ some g = Value.ownBlock V0_2 ∨ some g = Value.ownBlock V0_3 ∨ some g = Value.ownBlock V0_4), ∃ m65 : ∀ g, Value.ownBlock v62 = some g → w.heap.size ≤ g ∨ (g = G_0 ∨ some g = Value.ownBlock V0_0 ∨ some g = Value.ownBlock V0_1 ∨ some g = Value.ownBlock V0_2 ∨ some g = Value.ownBlock V0_3 ∨ some g = Value.ownBlock V0_4), ∃ m69 : ∀ g, Value.ownBlock v66 = some g → w.heap.size ≤ g ∨ (g = G_0 ∨ some g = Value.ownBlock V0_0 ∨ some g = Value.ownBlock V0_1 ∨ some g = Value.ownBlock V0_2 ∨ some g = Value.ownBlock V0_3 ∨ some g = Value.ownBlock V0_4), ∃ m73 : ∀ g, Value.ownBlock v70 = some g → w.heap.size ≤ g ∨ (g = G_0 ∨ some g = Value.ownBlock V0_0 ∨ some g = Value.ownBlock V0_1 ∨ some g = Value.ownBlock V0_2 ∨ some g = Value.ownBlock V0_3 ∨ some g = Value.ownBlock V0_4), ∃ R1_0 : Rd (kI .i64) w' V1_0 a1, OffV v54 v58 ∧ OffV v54 v62 ∧ OffV v58 v62 ∧ OffRV V1_0 a1 v54 ∧ OffRV V1_0 a1 v58 ∧ OffRV V1_0 a1 v62 ∧ OffRV V1_0 a1 v66 ∧ OffRV V1_0 a1 v70 ∧ ρ' 0 = (pt G_0 0) ∧ ρ' 1 = V1_0 ∧ ρ' 4 = u21 ∧ ρ' 5 = .int .i64 s27.1 ∧ Blk w' G_0 65 [Seg.cell v54 o55.one, Seg.cell v58 o59.one, Seg.cell v62 o63.one, Seg.cell v66 o67.one, Seg.cell v70 o71.one, (sI s27.2.2.2.2.2.2.1), (sI s27.2.2.2.2.2.2.2.1), (sI s27.2.2.2.2.2.2.2.2)] ∧ Fr (fun j => j = G_0 ∨ some j = Value.ownBlock V0_0 ∨ some j = Value.ownBlock V0_1 ∨ some j = Value.ownBlock V0_2 ∨ some j = Value.ownBlock V0_3 ∨ some j = Value.ownBlock V0_4) w w') l29 ?_ ?_
  ·skip
   exact ⟨V0_0, V0_1, V0_2, V0_3, V0_4, o22, O0_0, O0_1, O0_2, O0_3, O0_4, M0_0, M0_1, M0_2, M0_3, M0_4, R1_0, A_R0_0_R0_1, A_R0_0_R0_2, A_R0_1_R0_2, NR1_0_R0_0, NR1_0_R0_1, NR1_0_R0_2, NR1_0_R0_3, NR1_0_R0_4, rfl, rfl, rfl, rfl, b_0, fB⟩
  rintro s27 x84 ρ82 w83 ⟨v54, v58, v62, v66, v70, o22, o55, o59, o63, o67, o71, m57, m61, m65, m69, m73, R1_0, a74, a75, a76, a77, a78, a79, a80, a81, e0, e1, e4, e5, b_0, fB⟩ h
  unfold rickyardref05_Device_Crash.s0 at h
  refine cw_seq ?_
  refine cw_seq ?_
  refine cw_region ?_
  refine ol_val (v := .int .i64 s27.1) (xr_move rfl e5) rfl rfl rfl ?_
  refine ol_val (v := u21) (xr_move rfl e4) rfl rfl rfl ?_
  refine ol_val (v := .int .i64 (List.length t19 : Int)) (xr_lenR rfl Try.underlying52 rfl o22.rd) rfl rfl rfl ?_
  refine ol_val (v := .bool (decide (s27.1 < (List.length t19 : Int)))) (xr_lss rfl rfl rfl) rfl rfl rfl ?_
  refine ol_nil ?_
  rcases is h with ⟨c85, h⟩ | ⟨c85, h⟩
  ·refine cw_condT rfl c85 ?_
   refine cw_skip ?_
   refine cw_seq ?_
   refine cw_block ?_
   refine cw_seq ?_
   refine cw_region ?_
   refine ol_val (v := .int .i64 0) (xr_assign rfl rfl) rfl rfl rfl ?_
   refine ol_nil ?_
   refine cw_seq ?_
   refine cw_seq ?_
   refine cw_region ?_
   refine ol_val (v := .int .i64 s27.1) (xr_move rfl e5) rfl rfl rfl ?_
   refine ol_val (v := V1_0) (xr_move rfl e1) rfl rfl rfl ?_
   refine ol_val (v := .int .i64 (List.length a1 : Int)) (xr_lenR rfl Try.underlying25 rfl R1_0) rfl rfl rfl ?_
   refine ol_val (v := .bool (decide (s27.1 < (List.length a1 : Int)))) (xr_lss rfl rfl rfl) rfl rfl rfl ?_
   refine ol_nil ?_
   obtain ⟨x86, j87, h88⟩ := bs h
   refine cw_mid (fun ρ' w' => ∃ o22 : Own k_api_Fate 55 w' w.heap.size u21 t19, ∃ o55 : Own (kI .u64) 22 w' 0 v54 s27.2.1, ∃ o59 : Own (kI .u64) 22 w' 0 v58 s27.2.2.1, ∃ o63 : Own (kI .u64) 22 w' 0 v62 s27.2.2.2.1, ∃ o67 : Own kB 4 w' 0 v66 s27.2.2.2.2.1, ∃ o71 : Own (kI .i64) 3 w' 0 v70 s27.2.2.2.2.2.1, ∃ m57 : ∀ g, Value.ownBlock v54 = some g → w.heap.size ≤ g ∨ (g = G_0 ∨ some g = Value.ownBlock V0_0 ∨ some g = Value.ownBlock V0_1 ∨ some g = Value.ownBlock V0_2 ∨ some g = Value.ownBlock V0_3 ∨ some g = Value.ownBlock V0_4), ∃ m61 : ∀ g, Value.ownBlock v58 = some g → w.heap.size ≤ g ∨ (g = G_0 ∨ some g = Value.ownBlock V0_0 ∨ some g = Value.ownBlock V0_1 ∨ some g = Value.ownBlock V0_2 ∨ some g = Value.ownBlock V0_3 ∨ some g = Value.ownBlock V0_4), ∃ m65 : ∀ g, Value.ownBlock v62 = some g → w.heap.size ≤ g ∨ (g = G_0 ∨ some g = Value.ownBlock V0_0 ∨ some g = Value.ownBlock V0_1 ∨ some g = Value.ownBlock V0_2 ∨ some g = Value.ownBlock V0_3 ∨ some g = Value.ownBlock V0_4), ∃ m69 : ∀ g, Value.ownBlock v66 = some g → w.heap.size ≤ g ∨ (g = G_0 ∨ some g = Value.ownBlock V0_0 ∨ some g = Value.ownBlock V0_1 ∨ some g = Value.ownBlock V0_2 ∨ some g = Value.ownBlock V0_3 ∨ some g = Value.ownBlock V0_4), ∃ m73 : ∀ g, Value.ownBlock v70 = some g → w.heap.size ≤ g ∨ (g = G_0 ∨ some g = Value.ownBlock V0_0 ∨ some g = Value.ownBlock V0_1 ∨ some g = Value.ownBlock V0_2 ∨ some g = Value.ownBlock V0_3 ∨ some g = Value.ownBlock V0_4), ∃ R1_0 : Rd (kI .i64) w' V1_0 a1, ρ' 0 = (pt G_0 0) ∧ ρ' 1 = V1_0 ∧ ρ' 4 = u21 ∧ ρ' 5 = .int .i64 s27.1 ∧ ρ' 6 = .int .i64 x86 ∧ Blk w' G_0 65 [Seg.cell v54 o55.one, Seg.cell v58 o59.one, Seg.cell v62 o63.one, Seg.cell v66 o67.one, Seg.cell v70 o71.one, (sI s27.2.2.2.2.2.2.1), (sI s27.2.2.2.2.2.2.2.1), (sI s27.2.2.2.2.2.2.2.2)] ∧ Fr (fun j => j = G_0 ∨ some j = Value.ownBlock V0_0 ∨ some j = Value.ownBlock V0_1 ∨ some j = Value.ownBlock V0_2 ∨ some j = Value.ownBlock V0_3 ∨ some j = Value.ownBlock V0_4) w w') ?_ ?_
   ·have h := j87
    rcases is h with ⟨c89, h⟩ | ⟨c89, h⟩
    ·refine cw_condT rfl c89 ?_
     refine cw_region ?_
     refine ol_val (v := V1_0) (xr_move rfl e1) rfl rfl rfl ?_
     refine ol_val (v := .int .i64 s27.1) (xr_move rfl e5) rfl rfl rfl ?_
     obtain ⟨g90, h⟩ := gs h
     refine ol_val (v := (pt ((sb V1_0)) (so V1_0 + Int.toNat s27.1 * 1))) (xr_indexR (K := (kI .i64)) (v := V1_0) rfl Try.underlying25 sz3 rfl R1_0 rfl g90.1 g90.2) rfl rfl rfl ?_
     refine ol_val (v := .int .i64 (ix a1 s27.1)) (xr_load1 (v := .int .i64 (ix a1 s27.1)) rfl ag3 rfl (R1_0.elem g90.1 g90.2)) rfl rfl rfl ?_
     refine ol_val (v := .int .i64 (ix a1 s27.1)) (xr_assign rfl rfl) rfl rfl rfl ?_
     refine ol_nil ?_
     obtain rfl := Option.some.inj h
     refine thn_i ?_
     exact ⟨o22, o55, o59, o63, o67, o71, m57, m61, m65, m69, m73, R1_0, e0, e1, e4, e5, rfl, b_0, fB⟩
    refine cw_condF rfl c89 ?_
    refine cw_skip ?_
    obtain rfl := Option.some.inj h
    refine thn_i ?_
    exact ⟨o22, o55, o59, o63, o67, o71, m57, m61, m65, m69, m73, R1_0, e0, e1, e4, e5, rfl, b_0, fB⟩
   rintro ρ91 w92 ⟨o22, o55, o59, o63, o67, o71, m57, m61, m65, m69, m73, R1_0, e0, e1, e4, e5, e6, b_0, fB⟩
   have h := h88
   obtain ⟨g93, h⟩ := gs h
   obtain ⟨g94, h⟩ := gs h
   obtain ⟨t95, k96, h⟩ := bs h
   refine cw_drawL 12 [fun vz wz => vz = ((pt G_0 0) : Value), fun vz wz => vz = (u21 : Value), fun vz wz => vz = (.int .i64 s27.1 : Value), fun vz wz => vz = ((pt ((sb u21)) (so u21 + Int.toNat s27.1 * 5)) : Value), fun vz wz => vz = ((pt ((sb u21)) (so u21 + Int.toNat s27.1 * 5 + 0)) : Value), fun vz wz => vz = (.int .i64 ((ix t19 s27.1).At) : Value), fun vz wz => vz = (u21 : Value), fun vz wz => vz = (.int .i64 s27.1 : Value), fun vz wz => vz = ((pt ((sb u21)) (so u21 + Int.toNat s27.1 * 5)) : Value), fun vz wz => vz = (aggV [(sI ((ix t19 s27.1).At)), Seg.cell (.int .u64 ((ix t19 s27.1).Lasts)), Seg.cell (.bool ((ix t19 s27.1).Flushed)), Seg.cell (.int .u64 ((ix t19 s27.1).Sent)), Seg.cell (.int .u64 ((ix t19 s27.1).Stored))] : Value), fun vz wz => vz = (.int .i64 x86 : Value), fun vz wz => vz = (.int .u64 t95 : Value)] mo rfl ⟨fun _ _ _ h _ => h, fun _ _ _ h _ => h, fun _ _ _ h _ => h, fun _ _ _ h _ => h, fun _ _ _ h _ => h, fun _ _ _ h _ => h, fun _ _ _ h _ => h, fun _ _ _ h _ => h, fun _ _ _ h _ => h, fun _ _ _ h _ => h, fun _ _ _ h _ => h, fun _ _ _ h _ => h, trivial⟩ ?_ ?_
   ·refine ⟨?_, ?_, ?_, ?_, ?_, ?_, ?_, ?_, ?_, ?_, ?_, ?_, trivial⟩
    ·intro ρz wz hz hk hd
     exact sk_val (v := (pt G_0 0)) (xr_move rfl ((hk 0 rfl).trans e0)) rfl rfl
    ·intro ρz wz hz hk hd
     exact sk_val (v := u21) (xr_move rfl ((hk 4 rfl).trans e4)) rfl rfl
    ·intro ρz wz hz hk hd
     exact sk_val (v := .int .i64 s27.1) (xr_move rfl ((hk 5 rfl).trans e5)) rfl rfl
    ·intro ρz wz hz hk hd
     exact sk_val (xr_indexR (K := k_api_Fate) (v := u21) rfl Try.underlying52 sz55 (hd 1 rfl 25 rfl) (o22.gr hz).rd (hd 2 rfl 26 rfl) g93.1 g93.2) rfl rfl
    ·intro ρz wz hz hk hd
     exact sk_val (xr_fieldAddr (p := so u21 + Int.toNat s27.1 * 5) (q := 0) rfl fl55_0 (hd 3 rfl 27 rfl)) rfl rfl
    ·intro ρz wz hz hk hd
     exact sk_val (v := .int .i64 ((ix t19 s27.1).At)) (xr_load1 (v := .int .i64 ((ix t19 s27.1).At)) rfl ag3 (hd 4 rfl 28 rfl) (At.segs (ss := segs_api_Fate (ix t19 s27.1)) ((o22.gr hz).rd.elem g93.1 g93.2) 0 1 rfl)) rfl rfl
    ·intro ρz wz hz hk hd
     exact sk_val (v := u21) (xr_move rfl ((hk 4 rfl).trans e4)) rfl rfl
    ·intro ρz wz hz hk hd
     exact sk_val (v := .int .i64 s27.1) (xr_move rfl ((hk 5 rfl).trans e5)) rfl rfl
    ·intro ρz wz hz hk hd
     exact sk_val (xr_indexR (K := k_api_Fate) (v := u21) rfl Try.underlying52 sz55 (hd 6 rfl 30 rfl) (o22.gr hz).rd (hd 7 rfl 31 rfl) g94.1 g94.2) rfl rfl
    ·intro ρz wz hz hk hd
     exact sk_val (xr_loadS (ss := [(sI ((ix t19 s27.1).At)), Seg.cell (.int .u64 ((ix t19 s27.1).Lasts)), Seg.cell (.bool ((ix t19 s27.1).Flushed)), Seg.cell (.int .u64 ((ix t19 s27.1).Sent)), Seg.cell (.int .u64 ((ix t19 s27.1).Stored))]) rfl ag55 sz55 rfl (hd 8 rfl 32 rfl) ((o22.gr hz).rd.elem g94.1 g94.2)) rfl rfl
    ·intro ρz wz hz hk hd
     exact sk_val (v := .int .i64 x86) (xr_move rfl ((hk 6 rfl).trans e6)) rfl rfl
    intro ρz wz hz hk hd
    refine sk_op (opv_call rfl cal42 (ac (hd 9 rfl 33 rfl) (ac (hd 10 rfl 34 rfl) an)) (rickyardref05_Value.ok fu _ (ix t19 s27.1) x86 _ k96)) rfl ?_
    rintro _ wy ⟨rfl, q97⟩
    exact ⟨rfl, q97⟩
   intro ρ98 w99 q100 hk hd
   have e0 := (hk 0 rfl).trans e0
   have e1 := (hk 1 rfl).trans e1
   have e4 := (hk 4 rfl).trans e4
   have e5 := (hk 5 rfl).trans e5
   have e24 := hd 0 rfl 24 rfl
   have e29 := hd 5 rfl 29 rfl
   have e35 := hd 11 rfl 35 rfl
   have b_0 := b_0.gr q100
   have o22 := o22.gr q100
   have o55 := o55.gr q100
   have o59 := o59.gr q100
   have o63 := o63.gr q100
   have o67 := o67.gr q100
   have o71 := o71.gr q100
   have R1_0 := R1_0.gr q100
   have fB := fB.gr q100
   obtain ⟨t101, k102, h⟩ := bs h
   have f127 := (vo_or (vo_eq (off_ty b_0 o22 (by decide))) (vo_or (vo_own (OffV.ty o22 o55 (by decide))) (vo_or (vo_own (OffV.ty o22 o59 (by decide))) (vo_or (vo_own (OffV.ty o22 o63 (by decide))) (vo_or (vo_own (OffV.ty o22 o67 (by decide))) (vo_own (OffV.ty o22 o71 (by decide))))))))
   have f128 := (ro_or (ro_eq NR1_0_P0) (ro_or (ro_own a77) (ro_or (ro_own a78) (ro_or (ro_own a79) (ro_or (ro_own a80) (ro_own a81))))))
   have c129 : ∀ k, (k = G_0 ∨ some k = Value.ownBlock v54 ∨ some k = Value.ownBlock v58 ∨ some k = Value.ownBlock v62 ∨ some k = Value.ownBlock v66 ∨ some k = Value.ownBlock v70) → (w.heap.size ≤ k ∨ (k = G_0 ∨ some k = Value.ownBlock V0_0 ∨ some k = Value.ownBlock V0_1 ∨ some k = Value.ownBlock V0_2 ∨ some k = Value.ownBlock V0_3 ∨ some k = Value.ownBlock V0_4)) := (cv_or (cv_eq (.inr (.inl rfl))) (cv_or (cv_own m57) (cv_or (cv_own m61) (cv_or (cv_own m65) (cv_or (cv_own m69) (cv_own m73))))))
   refine ol_op (opv_call rfl cal126 (ac e24 (ac e29 (ac e35 an))) (rickyardref05_Device_last.ok fu _ (⟨s27.2.1, s27.2.2.1, s27.2.2.2.1, s27.2.2.2.2.1, s27.2.2.2.2.2.1, s27.2.2.2.2.2.2.1, s27.2.2.2.2.2.2.2.1, s27.2.2.2.2.2.2.2.2⟩ : S_rickyardref05_Device) G_0 v54 (Own.base o55 (Nat.zero_le _)) v58 (Own.base o59 (Nat.zero_le _)) v62 (Own.base o63 (Nat.zero_le _)) v66 (Own.base o67 (Nat.zero_le _)) v70 (Own.base o71 (Nat.zero_le _)) b_0 ((ix t19 s27.1).At) t95 a74 a75 a76 _ k102)) rfl rfl rfl ?_
   rintro _ w130 ⟨u104, u108, u112, u116, u120, o105, m106, o109, m110, o113, m114, o117, m118, o121, m122, a124, a125, a126, rfl, b_0, q103⟩
   have a131 := orv_new R1_0 rfl f128 m106
   have a132 := orv_new R1_0 rfl f128 m110
   have a133 := orv_new R1_0 rfl f128 m114
   have a134 := orv_new R1_0 rfl f128 m118
   have a135 := orv_new R1_0 rfl f128 m122
   have m106 : ∀ g, Value.ownBlock u104 = some g → w.heap.size ≤ g ∨ (g = G_0 ∨ some g = Value.ownBlock V0_0 ∨ some g = Value.ownBlock V0_1 ∨ some g = Value.ownBlock V0_2 ∨ some g = Value.ownBlock V0_3 ∨ some g = Value.ownBlock V0_4) := fun g hg => (m106 g hg).elim (fun x => .inl (Nat.le_trans fB.size x)) (c129 g)
   have m110 : ∀ g, Value.ownBlock u108 = some g → w.heap.size ≤ g ∨ (g = G_0 ∨ some g = Value.ownBlock V0_0 ∨ some g = Value.ownBlock V0_1 ∨ some g = Value.ownBlock V0_2 ∨ some g = Value.ownBlock V0_3 ∨ some g = Value.ownBlock V0_4) := fun g hg => (m110 g hg).elim (fun x => .inl (Nat.le_trans fB.size x)) (c129 g)
   have m114 : ∀ g, Value.ownBlock u112 = some g → w.heap.size ≤ g ∨ (g = G_0 ∨ some g = Value.ownBlock V0_0 ∨ some g = Value.ownBlock V0_1 ∨ some g = Value.ownBlock V0_2 ∨ some g = Value.ownBlock V0_3 ∨ some g = Value.ownBlock V0_4) := fun g hg => (m114 g hg).elim (fun x => .inl (Nat.le_trans fB.size x)) (c129 g)
   have m118 : ∀ g, Value.ownBlock u116 = some g → w.heap.size ≤ g ∨ (g = G_0 ∨ some g = Value.ownBlock V0_0 ∨ some g = Value.ownBlock V0_1 ∨ some g = Value.ownBlock V0_2 ∨ some g = Value.ownBlock V0_3 ∨ some g = Value.ownBlock V0_4) := fun g hg => (m118 g hg).elim (fun x => .inl (Nat.le_trans fB.size x)) (c129 g)
   have m122 : ∀ g, Value.ownBlock u120 = some g → w.heap.size ≤ g ∨ (g = G_0 ∨ some g = Value.ownBlock V0_0 ∨ some g = Value.ownBlock V0_1 ∨ some g = Value.ownBlock V0_2 ∨ some g = Value.ownBlock V0_3 ∨ some g = Value.ownBlock V0_4) := fun g hg => (m122 g hg).elim (fun x => .inl (Nat.le_trans fB.size x)) (c129 g)
   have o22 := o22.fr q103 f127
   have R1_0 := R1_0.fr q103 f128
   have fB := fB.call q103 c129
   refine ol_nil ?_
   refine blk_i ?_
   refine cw_region ?_
   refine ol_val (v := .int .i64 s27.1) (xr_move rfl e5) rfl rfl rfl ?_
   refine ol_val (v := .int .i64 (IntKind.i64.wrap (s27.1 + 1))) (xr_add rfl rfl rfl) rfl rfl rfl ?_
   refine ol_val (v := .int .i64 (IntKind.i64.wrap (s27.1 + 1))) (xr_assign rfl rfl) rfl rfl rfl ?_
   refine ol_nil ?_
   obtain rfl := Option.some.inj h
   refine lp_in ?_
   exact ⟨u104, u108, u112, u116, u120, o22, o105, o109, o113, o117, o121, m106, m110, m114, m118, m122, R1_0, a124, a125, a126, a131, a132, a133, a134, a135, e0, e1, e4, rfl, b_0, fB⟩
  refine cw_condF rfl c85 ?_
  refine cw_exit ?_
  repeat (first | with_reducible refine thn_e ?_ | with_reducible refine blk_e rfl ?_)
  obtain rfl := Option.some.inj h
  refine lp_exit ?_
  rintro rfl
  refine thn_x ?_
  exact ⟨v54, v58, v62, v66, v70, o55, o59, o63, o67, o71, m57, m61, m65, m69, m73, a74, a75, a76, e0, b_0, fB⟩
 rintro ρ136 w137 ⟨v31, v35, v39, v43, v47, o32, o36, o40, o44, o48, m34, m38, m42, m46, m50, a51, a52, a53, e0, b_0, fB⟩
 have h := h30
 refine cw_seq ?_
 refine cw_seq ?_
 refine cw_region ?_
 refine ol_val (v := .int .i64 0) (xr_assign rfl rfl) rfl rfl rfl ?_
 refine ol_nil ?_
 obtain ⟨e139, l140, h141⟩ := bs h
 refine cw_mid (fun ρ' w' => ∃ o32 : Own (kI .u64) 22 w' 0 v31 e28.1, ∃ o36 : Own (kI .u64) 22 w' 0 v35 e139, ∃ o40 : Own (kI .u64) 22 w' 0 v39 e28.2.2.1, ∃ o44 : Own kB 4 w' 0 v43 e28.2.2.2.1, ∃ o48 : Own (kI .i64) 3 w' 0 v47 e28.2.2.2.2.1, ∃ m34 : ∀ g, Value.ownBlock v31 = some g → w.heap.size ≤ g ∨ (g = G_0 ∨ some g = Value.ownBlock V0_0 ∨ some g = Value.ownBlock V0_1 ∨ some g = Value.ownBlock V0_2 ∨ some g = Value.ownBlock V0_3 ∨ some g = Value.ownBlock V0_4), ∃ m38 : ∀ g, Value.ownBlock v35 = some g → w.heap.size ≤ g ∨ (g = G_0 ∨ some g = Value.ownBlock V0_0 ∨ some g = Value.ownBlock V0_1 ∨ some g = Value.ownBlock V0_2 ∨ some g = Value.ownBlock V0_3 ∨ some g = Value.ownBlock V0_4), ∃ m42 : ∀ g, Value.ownBlock v39 = some g → w.heap.size ≤ g ∨ (g = G_0 ∨ some g = Value.ownBlock V0_0 ∨ some g = Value.ownBlock V0_1 ∨ some g = Value.ownBlock V0_2 ∨ some g = Value.ownBlock V0_3 ∨ some g = Value.ownBlock V0_4), ∃ m46 : ∀ g, Value.ownBlock v43 = some g → w.heap.size ≤ g ∨ (g = G_0 ∨ some g = Value.ownBlock V0_0 ∨ some g = Value.ownBlock V0_1 ∨ some g = Value.ownBlock V0_2 ∨ some g = Value.ownBlock V0_3 ∨ some g = Value.ownBlock V0_4), ∃ m50 : ∀ g, Value.ownBlock v47 = some g → w.heap.size ≤ g ∨ (g = G_0 ∨ some g = Value.ownBlock V0_0 ∨ some g = Value.ownBlock V0_1 ∨ some g = Value.ownBlock V0_2 ∨ some g = Value.ownBlock V0_3 ∨ some g = Value.ownBlock V0_4), ρ' 0 = (pt G_0 0) ∧ Blk w' G_0 65 [Seg.cell v31 o32.one, Seg.cell v35 o36.one, Seg.cell v39 o40.one, Seg.cell v43 o44.one, Seg.cell v47 o48.one, (sI e28.2.2.2.2.2.1), (sI e28.2.2.2.2.2.2.1), (sI e28.2.2.2.2.2.2.2)] ∧ Fr (fun j => j = G_0 ∨ some j = Value.ownBlock V0_0 ∨ some j = Value.ownBlock V0_1 ∨ some j = Value.ownBlock V0_2 ∨ some j = Value.ownBlock V0_3 ∨ some j = Value.ownBlock V0_4) w w') ?_ ?_
 ·refine cw_block ?_
  refine cw_round (fun (s138 : Int × (List Int)) ρ' w' => ∃ o32 : Own (kI .u64) 22 w' 0 v31 e28.1, ∃ o36 : Own (kI .u64) 22 w' 0 v35 s138.2, ∃ o40 : Own (kI .u64) 22 w' 0 v39 e28.2.2.1, ∃ o44 : Own kB 4 w' 0 v43 e28.2.2.2.1, ∃ o48 : Own (kI .i64) 3 w' 0 v47 e28.2.2.2.2.1, ∃ m34 : ∀ g, Value.ownBlock v31 = some g → w.heap.size ≤ g ∨ (g = G_0 ∨ some g = Value.ownBlock V0_0 ∨ some g = Value.ownBlock V0_1 ∨ some g = Value.ownBlock V0_2 ∨ some g = Value.ownBlock V0_3 ∨ some g = Value.ownBlock V0_4), ∃ m38 : ∀ g, Value.ownBlock v35 = some g → w.heap.size ≤ g ∨ (g = G_0 ∨ some g = Value.ownBlock V0_0 ∨ some g = Value.ownBlock V0_1 ∨ some g = Value.ownBlock V0_2 ∨ some g = Value.ownBlock V0_3 ∨ some g = Value.ownBlock V0_4), ∃ m42 : ∀ g, Value.ownBlock v39 = some g → w.heap.size ≤ g ∨ (g = G_0 ∨ some g = Value.ownBlock V0_0 ∨ some g = Value.ownBlock V0_1 ∨ some g = Value.ownBlock V0_2 ∨ some g = Value.ownBlock V0_3 ∨ some g = Value.ownBlock V0_4), ∃ m46 : ∀ g, Value.ownBlock v43 = some g → w.heap.size ≤ g ∨ (g = G_0 ∨ some g = Value.ownBlock V0_0 ∨ some g = Value.ownBlock V0_1 ∨ some g = Value.ownBlock V0_2 ∨ some g = Value.ownBlock V0_3 ∨ some g = Value.ownBlock V0_4), ∃ m50 : ∀ g, Value.ownBlock v47 = some g → w.heap.size ≤ g ∨ (g = G_0 ∨ some g = Value.ownBlock V0_0 ∨ some g = Value.ownBlock V0_1 ∨ some g = Value.ownBlock V0_2 ∨ some g = Value.ownBlock V0_3 ∨ some g = Value.ownBlock V0_4), ρ' 0 = (pt G_0 0) ∧ ρ' 7 = .int .i64 s138.1 ∧ Blk w' G_0 65 [Seg.cell v31 o32.one, Seg.cell v35 o36.one, Seg.cell v39 o40.one, Seg.cell v43 o44.one, Seg.cell v47 o48.one, (sI e28.2.2.2.2.2.1), (sI e28.2.2.2.2.2.2.1), (sI e28.2.2.2.2.2.2.2)] ∧ Fr (fun j => j = G_0 ∨ some j = Value.ownBlock V0_0 ∨ some j = Value.ownBlock V0_1 ∨ some j = Value.ownBlock V0_2 ∨ some j = Value.ownBlock V0_3 ∨ some j = Value.ownBlock V0_4) w w') l140 ?_ ?_
  ·skip
   exact ⟨o32, o36, o40, o44, o48, m34, m38, m42, m46, m50, e0, rfl, b_0, fB⟩
  rintro s138 x144 ρ142 w143 ⟨o32, o36, o40, o44, o48, m34, m38, m42, m46, m50, e0, e7, b_0, fB⟩ h
  unfold rickyardref05_Device_Crash.s1 at h
  refine cw_seq ?_
  refine cw_seq ?_
  refine cw_region ?_
  refine ol_val (v := .int .i64 s138.1) (xr_move rfl e7) rfl rfl rfl ?_
  refine ol_val (v := (pt G_0 0)) (xr_move rfl e0) rfl rfl rfl ?_
  refine ol_val (v := (pt G_0 0)) (xr_nilCheck rfl rfl) rfl rfl rfl ?_
  refine ol_val (v := (pt G_0 0)) (xr_fieldAddr (p := 0) (q := 0) rfl fl65_0 rfl) rfl rfl rfl ?_
  refine ol_val (v := v31) (xr_load1 (v := v31) rfl ag46 rfl (b_0.seg 0 rfl rfl)) rfl rfl rfl ?_
  refine ol_val (v := .int .i64 (List.length e28.1 : Int)) (xr_lenR rfl Try.underlying46 rfl o32.rd) rfl rfl rfl ?_
  refine ol_val (v := .bool (decide (s138.1 < (List.length e28.1 : Int)))) (xr_lss rfl rfl rfl) rfl rfl rfl ?_
  refine ol_nil ?_
  rcases is h with ⟨c145, h⟩ | ⟨c145, h⟩
  ·refine cw_condT rfl c145 ?_
   refine cw_skip ?_
   refine cw_seq ?_
   refine cw_block ?_
   obtain ⟨g146, h⟩ := gs h
   refine cw_drawL 12 [fun vz wz => vz = ((pt G_0 0) : Value), fun vz wz => vz = ((pt G_0 0) : Value), fun vz wz => vz = ((pt G_0 1) : Value), fun vz wz => vz = (v35 : Value), fun vz wz => vz = (.int .i64 s138.1 : Value), fun vz wz => vz = ((pt G_0 0) : Value), fun vz wz => vz = ((pt G_0 0) : Value), fun vz wz => vz = ((pt G_0 0) : Value), fun vz wz => vz = (v31 : Value), fun vz wz => vz = (.int .i64 s138.1 : Value), fun vz wz => vz = ((pt ((sb v31)) (so v31 + Int.toNat s138.1 * 1)) : Value), fun vz wz => vz = (.int .u64 (ix e28.1 s138.1) : Value)] mo rfl ⟨fun _ _ _ h _ => h, fun _ _ _ h _ => h, fun _ _ _ h _ => h, fun _ _ _ h _ => h, fun _ _ _ h _ => h, fun _ _ _ h _ => h, fun _ _ _ h _ => h, fun _ _ _ h _ => h, fun _ _ _ h _ => h, fun _ _ _ h _ => h, fun _ _ _ h _ => h, fun _ _ _ h _ => h, trivial⟩ ?_ ?_
   ·refine ⟨?_, ?_, ?_, ?_, ?_, ?_, ?_, ?_, ?_, ?_, ?_, ?_, trivial⟩
    ·intro ρz wz hz hk hd
     exact sk_val (v := (pt G_0 0)) (xr_move rfl ((hk 0 rfl).trans e0)) rfl rfl
    ·intro ρz wz hz hk hd
     exact sk_val (v := (pt G_0 0)) (xr_nilCheck rfl (hd 0 rfl 46 rfl)) rfl rfl
    ·intro ρz wz hz hk hd
     exact sk_val (v := (pt G_0 1)) (xr_fieldAddr (p := 0) (q := 1) rfl fl65_1 (hd 1 rfl 47 rfl)) rfl rfl
    ·intro ρz wz hz hk hd
     exact sk_val (v := v35) (xr_load1 (v := v35) rfl ag46 (hd 2 rfl 48 rfl) ((b_0.gr hz).seg 1 rfl rfl)) rfl rfl
    ·intro ρz wz hz hk hd
     exact sk_val (v := .int .i64 s138.1) (xr_move rfl ((hk 7 rfl).trans e7)) rfl rfl
    ·intro ρz wz hz hk hd
     exact sk_val (v := (pt G_0 0)) (xr_move rfl ((hk 0 rfl).trans e0)) rfl rfl
    ·intro ρz wz hz hk hd
     exact sk_val (v := (pt G_0 0)) (xr_nilCheck rfl (hd 5 rfl 51 rfl)) rfl rfl
    ·intro ρz wz hz hk hd
     exact sk_val (v := (pt G_0 0)) (xr_fieldAddr (p := 0) (q := 0) rfl fl65_0 (hd 6 rfl 52 rfl)) rfl rfl
    ·intro ρz wz hz hk hd
     exact sk_val (v := v31) (xr_load1 (v := v31) rfl ag46 (hd 7 rfl 53 rfl) ((b_0.gr hz).seg 0 rfl rfl)) rfl rfl
    ·intro ρz wz hz hk hd
     exact sk_val (v := .int .i64 s138.1) (xr_move rfl ((hk 7 rfl).trans e7)) rfl rfl
    ·intro ρz wz hz hk hd
     exact sk_val (xr_indexR (K := (kI .u64)) (v := v31) rfl Try.underlying46 sz22 (hd 8 rfl 54 rfl) (o32.gr hz).rd (hd 9 rfl 55 rfl) g146.1 g146.2) rfl rfl
    intro ρz wz hz hk hd
    exact sk_val (v := .int .u64 (ix e28.1 s138.1)) (xr_load1 (v := .int .u64 (ix e28.1 s138.1)) rfl ag22 (hd 10 rfl 56 rfl) ((o32.gr hz).rd.elem g146.1 g146.2)) rfl rfl
   intro ρ147 w148 q149 hk hd
   have e0 := (hk 0 rfl).trans e0
   have e7 := (hk 7 rfl).trans e7
   have e49 := hd 3 rfl 49 rfl
   have e50 := hd 4 rfl 50 rfl
   have e57 := hd 11 rfl 57 rfl
   have b_0 := b_0.gr q149
   have o32 := o32.gr q149
   have o36 := o36.gr q149
   have o40 := o40.gr q149
   have o44 := o44.gr q149
   have o48 := o48.gr q149
   have fB := fB.gr q149
   obtain ⟨g150, h⟩ := gs h
   refine ol_val (v := (pt ((sb v35)) (so v35 + Int.toNat s138.1 * 1))) (xr_indexR (K := (kI .u64)) (v := v35) rfl Try.underlying46 sz22 e49 o36.rd e50 g150.1 g150.2) rfl rfl rfl ?_
   have f152 := off_ty b_0 o36 (by decide)
   have f153 := a51
   have f154 := a53.symm
   have f155 := OffV.ty o44 o36 (by decide)
   have f156 := OffV.ty o48 o36 (by decide)
   refine ol_op0 (opv_storeRow (z := (ix e28.1 s138.1)) (xs := cellsOf [Seg.cell (.int .u64 (ix e28.1 s138.1))]) rfl sz22 rfl e57 rfl (len_cellsOf _) (one_cellsOf _) o36 g150.1 g150.2 (Spl.whole ((Kd.len _ _).trans (Kd.len _ _).symm)) rfl) rfl rfl ?_
   rintro _ w158 ⟨o36, q151⟩
   have b_0 := b_0.wrO q151 f152
   have o32 := o32.wrV q151 f153
   have o40 := o40.wrV q151 f154
   have o44 := o44.wrV q151 f155
   have o48 := o48.wrV q151 f156
   have fB := fB.wrM q151 m38
   refine ol_nil ?_
   refine blk_i ?_
   refine cw_region ?_
   refine ol_val (v := .int .i64 s138.1) (xr_move rfl e7) rfl rfl rfl ?_
   refine ol_val (v := .int .i64 (IntKind.i64.wrap (s138.1 + 1))) (xr_add rfl rfl rfl) rfl rfl rfl ?_
   refine ol_val (v := .int .i64 (IntKind.i64.wrap (s138.1 + 1))) (xr_assign rfl rfl) rfl rfl rfl ?_
   refine ol_nil ?_
   obtain rfl := Option.some.inj h
   refine lp_in ?_
   exact ⟨o32, o36, o40, o44, o48, m34, m38, m42, m46, m50, e0, rfl, b_0, fB⟩
  refine cw_condF rfl c145 ?_
  refine cw_exit ?_
  repeat (first | with_reducible refine thn_e ?_ | with_reducible refine blk_e rfl ?_)
  obtain rfl := Option.some.inj h
  refine lp_exit ?_
  rintro rfl
  refine thn_x ?_
  exact ⟨o32, o36, o40, o44, o48, m34, m38, m42, m46, m50, e0, b_0, fB⟩
 rintro ρ159 w160 ⟨o32, o36, o40, o44, o48, m34, m38, m42, m46, m50, e0, b_0, fB⟩
 have h := h141
 refine cw_seq ?_
 refine cw_region ?_
 refine ol_val (v := (pt G_0 0)) (xr_move rfl e0) rfl rfl rfl ?_
 refine ol_val (v := (pt G_0 0)) (xr_nilCheck rfl rfl) rfl rfl rfl ?_
 refine ol_val (v := (pt G_0 6)) (xr_fieldAddr (p := 0) (q := 6) rfl fl65_6 rfl) rfl rfl rfl ?_
 have f162 := off_ty b_0 o32 (by decide)
 have f163 := off_ty b_0 o36 (by decide)
 have f164 := off_ty b_0 o40 (by decide)
 have f165 := off_ty b_0 o44 (by decide)
 have f166 := off_ty b_0 o48 (by decide)
 refine ol_op0 (opv_store (ss' := [Seg.cell v31 o32.one, Seg.cell v35 o36.one, Seg.cell v39 o40.one, Seg.cell v43 o44.one, Seg.cell v47 o48.one, (sI e28.2.2.2.2.2.1), (sI (-1)), (sI e28.2.2.2.2.2.2.2)]) (xs := cellsOf [(sI (-1))]) rfl sz3 rfl rfl rfl (len_cellsOf _) (one_cellsOf _) b_0 (Spl.segs _ 6 1 [(sI (-1))] rfl rfl)) rfl rfl ?_
 rintro _ w167 ⟨b_0, q161⟩
 have o32 := o32.wr q161 f162
 have o36 := o36.wr q161 f163
 have o40 := o40.wr q161 f164
 have o44 := o44.wr q161 f165
 have o48 := o48.wr q161 f166
 have fB := fB.wrS q161 (.inl rfl)
 refine ol_nil ?_
 refine cw_seq ?_
 refine cw_region ?_
 refine ol_val (v := (pt G_0 0)) (xr_move rfl e0) rfl rfl rfl ?_
 refine ol_val (v := (pt G_0 0)) (xr_nilCheck rfl rfl) rfl rfl rfl ?_
 refine ol_val (v := (pt G_0 4)) (xr_fieldAddr (p := 0) (q := 4) rfl fl65_4 rfl) rfl rfl rfl ?_
 have f169 := off_ty b_0 o32 (by decide)
 have f170 := off_ty b_0 o36 (by decide)
 have f171 := off_ty b_0 o40 (by decide)
 have f172 := off_ty b_0 o44 (by decide)
 refine ol_op0 (opv_store (ss' := [Seg.cell v31 o32.one, Seg.cell v35 o36.one, Seg.cell v39 o40.one, Seg.cell v43 o44.one, Seg.cell (.slice none 0 0) (by rfl), (sI e28.2.2.2.2.2.1), (sI (-1)), (sI e28.2.2.2.2.2.2.2)]) (xs := cellsOf [Seg.cell (.slice none 0 0) (by rfl)]) rfl sz25 rfl rfl (cells_one rfl) (len_cellsOf _) (one_cellsOf _) b_0 (Spl.segs _ 4 1 [Seg.cell (.slice none 0 0) (by rfl)] rfl rfl)) rfl rfl ?_
 rintro _ w173 ⟨b_0, q168⟩
 have o32 := o32.wr q168 f169
 have o36 := o36.wr q168 f170
 have o40 := o40.wr q168 f171
 have o44 := o44.wr q168 f172
 have fB := fB.wrS q168 (.inl rfl)
 refine ol_nil ?_
 refine cw_region ?_
 refine ol_val (v := (pt G_0 0)) (xr_move rfl e0) rfl rfl rfl ?_
 refine ol_val (v := (pt G_0 0)) (xr_nilCheck rfl rfl) rfl rfl rfl ?_
 refine ol_val (v := (pt G_0 5)) (xr_fieldAddr (p := 0) (q := 5) rfl fl65_5 rfl) rfl rfl rfl ?_
 have f175 := off_ty b_0 o32 (by decide)
 have f176 := off_ty b_0 o36 (by decide)
 have f177 := off_ty b_0 o40 (by decide)
 have f178 := off_ty b_0 o44 (by decide)
 refine ol_op0 (opv_store (ss' := [Seg.cell v31 o32.one, Seg.cell v35 o36.one, Seg.cell v39 o40.one, Seg.cell v43 o44.one, Seg.cell (.slice none 0 0) (by rfl), (sI 0), (sI (-1)), (sI e28.2.2.2.2.2.2.2)]) (xs := cellsOf [(sI 0)]) rfl sz3 rfl rfl rfl (len_cellsOf _) (one_cellsOf _) b_0 (Spl.segs _ 5 1 [(sI 0)] rfl rfl)) rfl rfl ?_
 rintro _ w179 ⟨b_0, q174⟩
 have o32 := o32.wr q174 f175
 have o36 := o36.wr q174 f176
 have o40 := o40.wr q174 f177
 have o44 := o44.wr q174 f178
 have fB := fB.wrS q174 (.inl rfl)
 refine ol_nil ?_
 obtain rfl := Option.some.inj h
 refine fin_end0 Try.results98 ?_
 exact ⟨_, rfl, v31, v35, v39, v43, (.slice none 0 0), o32, m34, o36, m38, o40, m42, o44, m46, Own.nil _ _ _ _, ms_nil, a51, a52, a53, rfl, b_0, fB⟩
def rickyardlaw05_Refs.f (fu : Nat) (a0 : S_rickyardref05_Device) (a1 : S_rickyardlaw05_Act) : Option (Int × Int × S_rickyardref05_Device) := ((rickyardref01_Rest.f fu a1.Kind 7).bind fun t27 => (if (decide (t27 = 0)) = true then ((rickyardref05_Device_Store.f fu a0 a1.At a1.W).bind fun t32 => some (0, t32.1, t32.2)) else (if (decide (t27 = 1)) = true then ((rickyardref05_Device_Load.f fu a0 a1.At).bind fun t61 => some (t61.1, t61.2, a0)) else (if (decide (t27 = 2)) = true then ((rickyardref05_Device_Flush.f fu a0 a1.At).bind fun t66 => some (0, t66.1, t66.2)) else (if (decide (t27 = 3)) = true then ((rickyardref05_Device_Fence.f fu a0).bind fun t95 => some (0, t95.1, t95.2)) else (((if (decide (t27 = 4)) = true then ((rickyardref05_Device_Arm.f fu a0 a1.At).bind fun t150 => some (a0.Lasts, a0.Stored, a0.Sent, a0.Flushed, a0.Plan, t150.Since, t150.Left, t150.Steps)) else (((if (decide (t27 = 5)) = true then ((rickyardref05_Device_Lay.f fu a0 a1.L).bind fun t186 => some (t186.Lasts, t186.Stored, t186.Sent, t186.Flushed, t186.Plan, t186.Since, t186.Left, t186.Steps)) else (((if (decide (t27 = 6)) = true then ((rickyardref05_Device_Crash.f fu a0 a1.L).bind fun t242 => some (t242.Lasts, t242.Stored, t242.Sent, t242.Flushed, t242.Plan, t242.Since, t242.Left, t242.Steps)) else some (a0.Lasts, a0.Stored, a0.Sent, a0.Flushed, a0.Plan, a0.Since, a0.Left, a0.Steps)) : Option ((List Int) × (List Int) × (List Int) × (List Bool) × (List Int) × Int × Int × Int)).bind fun x215 => some (x215.1, x215.2.1, x215.2.2.1, x215.2.2.2.1, x215.2.2.2.2.1, x215.2.2.2.2.2.1, x215.2.2.2.2.2.2.1, x215.2.2.2.2.2.2.2))) : Option ((List Int) × (List Int) × (List Int) × (List Bool) × (List Int) × Int × Int × Int)).bind fun x159 => some (x159.1, x159.2.1, x159.2.2.1, x159.2.2.2.1, x159.2.2.2.2.1, x159.2.2.2.2.2.1, x159.2.2.2.2.2.2.1, x159.2.2.2.2.2.2.2))) : Option ((List Int) × (List Int) × (List Int) × (List Bool) × (List Int) × Int × Int × Int)).bind fun x123 => some (0, 0, (⟨x123.1, x123.2.1, x123.2.2.1, x123.2.2.2.1, x123.2.2.2.2.1, x123.2.2.2.2.2.1, x123.2.2.2.2.2.2.1, x123.2.2.2.2.2.2.2⟩ : S_rickyardref05_Device))))))))
theorem rickyardlaw05_Refs.ok (fu : Nat) (w : World) (a0 : S_rickyardref05_Device) (G_0 : Nat) (V0_0 : Value) (O0_0 : Own (kI .u64) 22 w 0 V0_0 a0.Lasts) (V0_1 : Value) (O0_1 : Own (kI .u64) 22 w 0 V0_1 a0.Stored) (V0_2 : Value) (O0_2 : Own (kI .u64) 22 w 0 V0_2 a0.Sent) (V0_3 : Value) (O0_3 : Own kB 4 w 0 V0_3 a0.Flushed) (V0_4 : Value) (O0_4 : Own (kI .i64) 3 w 0 V0_4 a0.Plan) (b_0 : Blk w G_0 65 [Seg.cell V0_0 O0_0.one, Seg.cell V0_1 O0_1.one, Seg.cell V0_2 O0_2.one, Seg.cell V0_3 O0_3.one, Seg.cell V0_4 O0_4.one, (sI a0.Since), (sI a0.Left), (sI a0.Steps)]) (a1 : S_rickyardlaw05_Act) (V1_0 : Value) (R1_0 : Rd (kI .i64) w V1_0 a1.L) (A_R0_0_R0_1 : OffV V0_0 V0_1) (A_R0_0_R0_2 : OffV V0_0 V0_2) (A_R0_1_R0_2 : OffV V0_1 V0_2) (NR1_0_P0 : OffR V1_0 a1.L G_0) (NR1_0_R0_0 : OffRV V1_0 a1.L V0_0) (NR1_0_R0_1 : OffRV V1_0 a1.L V0_1) (NR1_0_R0_2 : OffRV V1_0 a1.L V0_2) (NR1_0_R0_3 : OffRV V1_0 a1.L V0_3) (NR1_0_R0_4 : OffRV V1_0 a1.L V0_4) (r : Int × Int × S_rickyardref05_Device) (h : rickyardlaw05_Refs.f fu a0 a1 = some r) :
  Calls Try.prog 45 (([(pt G_0 0), aggV [(sI a1.Kind), (sI a1.At), Seg.cell (.int .u64 a1.W), Seg.cell V1_0 R1_0.one]] : List Value).toArray) w (fun e w' => ∃ v, e = .returned v ∧ ∃ u1 : Value, ∃ u4 : Value, ∃ u7 : Value, ∃ u10 : Value, ∃ u13 : Value, ∃ o2 : Own (kI .u64) 22 w' 0 u1 r.2.2.Lasts, ∃ m3 : ∀ g, Value.ownBlock u1 = some g → w.heap.size ≤ g ∨ (g = G_0 ∨ some g = Value.ownBlock V0_0 ∨ some g = Value.ownBlock V0_1 ∨ some g = Value.ownBlock V0_2 ∨ some g = Value.ownBlock V0_3 ∨ some g = Value.ownBlock V0_4), ∃ o5 : Own (kI .u64) 22 w' 0 u4 r.2.2.Stored, ∃ m6 : ∀ g, Value.ownBlock u4 = some g → w.heap.size ≤ g ∨ (g = G_0 ∨ some g = Value.ownBlock V0_0 ∨ some g = Value.ownBlock V0_1 ∨ some g = Value.ownBlock V0_2 ∨ some g = Value.ownBlock V0_3 ∨ some g = Value.ownBlock V0_4), ∃ o8 : Own (kI .u64) 22 w' 0 u7 r.2.2.Sent, ∃ m9 : ∀ g, Value.ownBlock u7 = some g → w.heap.size ≤ g ∨ (g = G_0 ∨ some g = Value.ownBlock V0_0 ∨ some g = Value.ownBlock V0_1 ∨ some g = Value.ownBlock V0_2 ∨ some g = Value.ownBlock V0_3 ∨ some g = Value.ownBlock V0_4), ∃ o11 : Own kB 4 w' 0 u10 r.2.2.Flushed, ∃ m12 : ∀ g, Value.ownBlock u10 = some g → w.heap.size ≤ g ∨ (g = G_0 ∨ some g = Value.ownBlock V0_0 ∨ some g = Value.ownBlock V0_1 ∨ some g = Value.ownBlock V0_2 ∨ some g = Value.ownBlock V0_3 ∨ some g = Value.ownBlock V0_4), ∃ o14 : Own (kI .i64) 3 w' 0 u13 r.2.2.Plan, ∃ m15 : ∀ g, Value.ownBlock u13 = some g → w.heap.size ≤ g ∨ (g = G_0 ∨ some g = Value.ownBlock V0_0 ∨ some g = Value.ownBlock V0_1 ∨ some g = Value.ownBlock V0_2 ∨ some g = Value.ownBlock V0_3 ∨ some g = Value.ownBlock V0_4), ∃ a16 : OffV u1 u4, ∃ a17 : OffV u1 u7, ∃ a18 : OffV u4 u7, v = .tuple #[.int .u64 r.1, .int .i64 r.2.1] ∧ Blk w' G_0 65 [Seg.cell u1 o2.one, Seg.cell u4 o5.one, Seg.cell u7 o8.one, Seg.cell u10 o11.one, Seg.cell u13 o14.one, (sI r.2.2.Since), (sI r.2.2.Left), (sI r.2.2.Steps)] ∧ Fr (fun j => j = G_0 ∨ some j = Value.ownBlock V0_0 ∨ some j = Value.ownBlock V0_1 ∨ some j = Value.ownBlock V0_2 ∨ some j = Value.ownBlock V0_3 ∨ some j = Value.ownBlock V0_4) w w') := by
 unfold rickyardlaw05_Refs.f at h
 have fB : Fr (fun j => j = G_0 ∨ some j = Value.ownBlock V0_0 ∨ some j = Value.ownBlock V0_1 ∨ some j = Value.ownBlock V0_2 ∨ some j = Value.ownBlock V0_3 ∨ some j = Value.ownBlock V0_4) w w := Fr.refl _ _
 have M0_0 : ∀ g, Value.ownBlock V0_0 = some g → w.heap.size ≤ g ∨ (g = G_0 ∨ some g = Value.ownBlock V0_0 ∨ some g = Value.ownBlock V0_1 ∨ some g = Value.ownBlock V0_2 ∨ some g = Value.ownBlock V0_3 ∨ some g = Value.ownBlock V0_4) := fun g hg => .inr (.inr (.inl hg.symm))
 have M0_1 : ∀ g, Value.ownBlock V0_1 = some g → w.heap.size ≤ g ∨ (g = G_0 ∨ some g = Value.ownBlock V0_0 ∨ some g = Value.ownBlock V0_1 ∨ some g = Value.ownBlock V0_2 ∨ some g = Value.ownBlock V0_3 ∨ some g = Value.ownBlock V0_4) := fun g hg => .inr (.inr (.inr (.inl hg.symm)))
 have M0_2 : ∀ g, Value.ownBlock V0_2 = some g → w.heap.size ≤ g ∨ (g = G_0 ∨ some g = Value.ownBlock V0_0 ∨ some g = Value.ownBlock V0_1 ∨ some g = Value.ownBlock V0_2 ∨ some g = Value.ownBlock V0_3 ∨ some g = Value.ownBlock V0_4) := fun g hg => .inr (.inr (.inr (.inr (.inl hg.symm))))
 have M0_3 : ∀ g, Value.ownBlock V0_3 = some g → w.heap.size ≤ g ∨ (g = G_0 ∨ some g = Value.ownBlock V0_0 ∨ some g = Value.ownBlock V0_1 ∨ some g = Value.ownBlock V0_2 ∨ some g = Value.ownBlock V0_3 ∨ some g = Value.ownBlock V0_4) := fun g hg => .inr (.inr (.inr (.inr (.inr (.inl hg.symm)))))
 have M0_4 : ∀ g, Value.ownBlock V0_4 = some g → w.heap.size ≤ g ∨ (g = G_0 ∨ some g = Value.ownBlock V0_0 ∨ some g = Value.ownBlock V0_1 ∨ some g = Value.ownBlock V0_2 ∨ some g = Value.ownBlock V0_3 ∨ some g = Value.ownBlock V0_4) := fun g hg => .inr (.inr (.inr (.inr (.inr (.inr hg.symm)))))
 refine calls_cw Try.func45 rfl Try.ntmps45 rfl ?_
 refine cw_seq ?_
 refine cw_region ?_
 refine ol_op (opv_box (ss := [(sI a1.Kind), (sI a1.At), Seg.cell (.int .u64 a1.W), Seg.cell V1_0 R1_0.one]) rfl rfl rfl) rfl rfl rfl ?_
 rintro _ w24 ⟨G19, rfl, b20, q21, z22⟩
 have n25 := b_0.ne z22
 have a26 := OffR.new R1_0 z22 rfl
 have z22 := Nat.le_trans fB.size z22
 have b_0 := b_0.gr q21
 have O0_0 := O0_0.gr q21
 have O0_1 := O0_1.gr q21
 have O0_2 := O0_2.gr q21
 have O0_3 := O0_3.gr q21
 have O0_4 := O0_4.gr q21
 have R1_0 := R1_0.gr q21
 have fB := fB.gr q21
 refine ol_val (v := .int .u64 0) (xr_assign rfl rfl) rfl rfl rfl ?_
 refine ol_val (v := .int .i64 0) (xr_assign rfl rfl) rfl rfl rfl ?_
 refine ol_nil ?_
 refine cw_seq ?_
 refine cw_seq ?_
 refine cw_region ?_
 refine ol_val (v := (pt G19 0)) (xr_fieldAddr (p := 0) (q := 0) rfl fl39_0 rfl) rfl rfl rfl ?_
 refine ol_val (v := .int .i64 a1.Kind) (xr_load1 (v := .int .i64 a1.Kind) rfl ag3 rfl (b20.seg 0 rfl rfl)) rfl rfl rfl ?_
 obtain ⟨t27, k28, h⟩ := bs h
 refine ol_op (opv_call rfl cal27 (ac rfl (ac rfl an)) (rickyardref01_Rest.ok fu _ a1.Kind 7 _ k28)) rfl rfl rfl ?_
 rintro _ w30 ⟨rfl, q29⟩
 have b_0 := b_0.gr q29
 have b20 := b20.gr q29
 have O0_0 := O0_0.gr q29
 have O0_1 := O0_1.gr q29
 have O0_2 := O0_2.gr q29
 have O0_3 := O0_3.gr q29
 have O0_4 := O0_4.gr q29
 have R1_0 := R1_0.gr q29
 have fB := fB.gr q29
 refine ol_nil ?_
 refine cw_block ?_
 refine cw_seq ?_
 refine cw_region ?_
 refine ol_val (v := .bool (decide (t27 = 0))) (xr_eqI rfl Try.underlying3 rfl rfl rfl) rfl rfl rfl ?_
 refine ol_val (v := .bool (decide (t27 = 0))) (xr_assign rfl rfl) rfl rfl rfl ?_
 refine ol_nil ?_
 rcases is h with ⟨c31, h⟩ | ⟨c31, h⟩
 ·refine cw_condT rfl c31 ?_
  refine cw_seq ?_
  refine cw_region ?_
  refine ol_val (v := (pt G_0 0)) (xr_move rfl rfl) rfl rfl rfl ?_
  refine ol_val (v := (pt G19 1)) (xr_fieldAddr (p := 0) (q := 1) rfl fl39_1 rfl) rfl rfl rfl ?_
  refine ol_val (v := .int .i64 a1.At) (xr_load1 (v := .int .i64 a1.At) rfl ag3 rfl (b20.seg 1 rfl rfl)) rfl rfl rfl ?_
  refine ol_val (v := (pt G19 2)) (xr_fieldAddr (p := 0) (q := 2) rfl fl39_2 rfl) rfl rfl rfl ?_
  refine ol_val (v := .int .u64 a1.W) (xr_load1 (v := .int .u64 a1.W) rfl ag22 rfl (b20.seg 2 rfl rfl)) rfl rfl rfl ?_
  obtain ⟨t32, k33, h⟩ := bs h
  have c58 : ∀ k, (k = G_0 ∨ some k = Value.ownBlock V0_0 ∨ some k = Value.ownBlock V0_1 ∨ some k = Value.ownBlock V0_2 ∨ some k = Value.ownBlock V0_3 ∨ some k = Value.ownBlock V0_4) → (w.heap.size ≤ k ∨ (k = G_0 ∨ some k = Value.ownBlock V0_0 ∨ some k = Value.ownBlock V0_1 ∨ some k = Value.ownBlock V0_2 ∨ some k = Value.ownBlock V0_3 ∨ some k = Value.ownBlock V0_4)) := (cv_or (cv_eq (.inr (.inl rfl))) (cv_or (cv_own M0_0) (cv_or (cv_own M0_1) (cv_or (cv_own M0_2) (cv_or (cv_own M0_3) (cv_own M0_4))))))
  refine ol_op (opv_call rfl cal92 (ac rfl (ac rfl (ac rfl an))) (rickyardref05_Device_Store.ok fu _ a0 G_0 V0_0 (Own.base O0_0 (Nat.zero_le _)) V0_1 (Own.base O0_1 (Nat.zero_le _)) V0_2 (Own.base O0_2 (Nat.zero_le _)) V0_3 (Own.base O0_3 (Nat.zero_le _)) V0_4 (Own.base O0_4 (Nat.zero_le _)) b_0 a1.At a1.W A_R0_0_R0_1 A_R0_0_R0_2 A_R0_1_R0_2 _ k33)) rfl rfl rfl ?_
  rintro _ w59 ⟨u35, u39, u43, u47, u51, o36, m37, o40, m41, o44, m45, o48, m49, o52, m53, a55, a56, a57, rfl, b_0, q34⟩
  have m37 : ∀ g, Value.ownBlock u35 = some g → w.heap.size ≤ g ∨ (g = G_0 ∨ some g = Value.ownBlock V0_0 ∨ some g = Value.ownBlock V0_1 ∨ some g = Value.ownBlock V0_2 ∨ some g = Value.ownBlock V0_3 ∨ some g = Value.ownBlock V0_4) := fun g hg => (m37 g hg).elim (fun x => .inl (Nat.le_trans fB.size x)) (c58 g)
  have m41 : ∀ g, Value.ownBlock u39 = some g → w.heap.size ≤ g ∨ (g = G_0 ∨ some g = Value.ownBlock V0_0 ∨ some g = Value.ownBlock V0_1 ∨ some g = Value.ownBlock V0_2 ∨ some g = Value.ownBlock V0_3 ∨ some g = Value.ownBlock V0_4) := fun g hg => (m41 g hg).elim (fun x => .inl (Nat.le_trans fB.size x)) (c58 g)
  have m45 : ∀ g, Value.ownBlock u43 = some g → w.heap.size ≤ g ∨ (g = G_0 ∨ some g = Value.ownBlock V0_0 ∨ some g = Value.ownBlock V0_1 ∨ some g = Value.ownBlock V0_2 ∨ some g = Value.ownBlock V0_3 ∨ some g = Value.ownBlock V0_4) := fun g hg => (m45 g hg).elim (fun x => .inl (Nat.le_trans fB.size x)) (c58 g)
  have m49 : ∀ g, Value.ownBlock u47 = some g → w.heap.size ≤ g ∨ (g = G_0 ∨ some g = Value.ownBlock V0_0 ∨ some g = Value.ownBlock V0_1 ∨ some g = Value.ownBlock V0_2 ∨ some g = Value.ownBlock V0_3 ∨ some g = Value.ownBlock V0_4) := fun g hg => (m49 g hg).elim (fun x => .inl (Nat.le_trans fB.size x)) (c58 g)
  have m53 : ∀ g, Value.ownBlock u51 = some g → w.heap.size ≤ g ∨ (g = G_0 ∨ some g = Value.ownBlock V0_0 ∨ some g = Value.ownBlock V0_1 ∨ some g = Value.ownBlock V0_2 ∨ some g = Value.ownBlock V0_3 ∨ some g = Value.ownBlock V0_4) := fun g hg => (m53 g hg).elim (fun x => .inl (Nat.le_trans fB.size x)) (c58 g)
  have fB := fB.call q34 c58
  refine ol_val (v := .int .u64 0) (xr_assign rfl rfl) rfl rfl rfl ?_
  refine ol_val (v := .int .i64 t32.1) (xr_assign rfl rfl) rfl rfl rfl ?_
  refine ol_nil ?_
  refine cw_ret ?_
  repeat (first | with_reducible refine thn_r ?_ | with_reducible refine blk_r ?_)
  obtain rfl := Option.some.inj h
  refine fin_ret2 Try.results45 rfl rfl ?_
  exact ⟨_, rfl, u35, u39, u43, u47, u51, o36, m37, o40, m41, o44, m45, o48, m49, o52, m53, a55, a56, a57, rfl, b_0, fB⟩
 refine cw_condF rfl c31 ?_
 refine cw_seq ?_
 refine cw_region ?_
 refine ol_val (v := .bool (decide (t27 = 1))) (xr_eqI rfl Try.underlying3 rfl rfl rfl) rfl rfl rfl ?_
 refine ol_val (v := .bool (decide (t27 = 1))) (xr_assign rfl rfl) rfl rfl rfl ?_
 refine ol_nil ?_
 rcases is h with ⟨c60, h⟩ | ⟨c60, h⟩
 ·refine cw_condT rfl c60 ?_
  refine cw_seq ?_
  refine cw_region ?_
  refine ol_val (v := (pt G_0 0)) (xr_move rfl rfl) rfl rfl rfl ?_
  refine ol_val (v := (pt G19 1)) (xr_fieldAddr (p := 0) (q := 1) rfl fl39_1 rfl) rfl rfl rfl ?_
  refine ol_val (v := .int .i64 a1.At) (xr_load1 (v := .int .i64 a1.At) rfl ag3 rfl (b20.seg 1 rfl rfl)) rfl rfl rfl ?_
  obtain ⟨t61, k62, h⟩ := bs h
  refine ol_op (opv_call rfl cal93 (ac rfl (ac rfl an)) (rickyardref05_Device_Load.ok fu _ a0 G_0 V0_0 (O0_0.rd) V0_1 (O0_1.rd) V0_2 (O0_2.rd) V0_3 (O0_3.rd) V0_4 (O0_4.rd) b_0 a1.At _ k62)) rfl rfl rfl ?_
  rintro _ w64 ⟨rfl, q63⟩
  have b_0 := b_0.gr q63
  have O0_0 := O0_0.gr q63
  have O0_1 := O0_1.gr q63
  have O0_2 := O0_2.gr q63
  have O0_3 := O0_3.gr q63
  have O0_4 := O0_4.gr q63
  have fB := fB.gr q63
  refine ol_val (v := .int .u64 t61.1) (xr_extract rfl rfl rfl) rfl rfl rfl ?_
  refine ol_val (v := .int .i64 t61.2) (xr_extract rfl rfl rfl) rfl rfl rfl ?_
  refine ol_val (v := .int .u64 t61.1) (xr_assign rfl rfl) rfl rfl rfl ?_
  refine ol_val (v := .int .i64 t61.2) (xr_assign rfl rfl) rfl rfl rfl ?_
  refine ol_nil ?_
  refine cw_ret ?_
  repeat (first | with_reducible refine thn_r ?_ | with_reducible refine blk_r ?_)
  obtain rfl := Option.some.inj h
  refine fin_ret2 Try.results45 rfl rfl ?_
  exact ⟨_, rfl, V0_0, V0_1, V0_2, V0_3, V0_4, O0_0, M0_0, O0_1, M0_1, O0_2, M0_2, O0_3, M0_3, O0_4, M0_4, A_R0_0_R0_1, A_R0_0_R0_2, A_R0_1_R0_2, rfl, b_0, fB⟩
 refine cw_condF rfl c60 ?_
 refine cw_seq ?_
 refine cw_region ?_
 refine ol_val (v := .bool (decide (t27 = 2))) (xr_eqI rfl Try.underlying3 rfl rfl rfl) rfl rfl rfl ?_
 refine ol_val (v := .bool (decide (t27 = 2))) (xr_assign rfl rfl) rfl rfl rfl ?_
 refine ol_nil ?_
 rcases is h with ⟨c65, h⟩ | ⟨c65, h⟩
 ·refine cw_condT rfl c65 ?_
  refine cw_seq ?_
  refine cw_region ?_
  refine ol_val (v := (pt G_0 0)) (xr_move rfl rfl) rfl rfl rfl ?_
  refine ol_val (v := (pt G19 1)) (xr_fieldAddr (p := 0) (q := 1) rfl fl39_1 rfl) rfl rfl rfl ?_
  refine ol_val (v := .int .i64 a1.At) (xr_load1 (v := .int .i64 a1.At) rfl ag3 rfl (b20.seg 1 rfl rfl)) rfl rfl rfl ?_
  obtain ⟨t66, k67, h⟩ := bs h
  have c92 : ∀ k, (k = G_0 ∨ some k = Value.ownBlock V0_0 ∨ some k = Value.ownBlock V0_1 ∨ some k = Value.ownBlock V0_2 ∨ some k = Value.ownBlock V0_3 ∨ some k = Value.ownBlock V0_4) → (w.heap.size ≤ k ∨ (k = G_0 ∨ some k = Value.ownBlock V0_0 ∨ some k = Value.ownBlock V0_1 ∨ some k = Value.ownBlock V0_2 ∨ some k = Value.ownBlock V0_3 ∨ some k = Value.ownBlock V0_4)) := (cv_or (cv_eq (.inr (.inl rfl))) (cv_or (cv_own M0_0) (cv_or (cv_own M0_1) (cv_or (cv_own M0_2) (cv_or (cv_own M0_3) (cv_own M0_4))))))
  refine ol_op (opv_call rfl cal94 (ac rfl (ac rfl an)) (rickyardref05_Device_Flush.ok fu _ a0 G_0 V0_0 (Own.base O0_0 (Nat.zero_le _)) V0_1 (Own.base O0_1 (Nat.zero_le _)) V0_2 (Own.base O0_2 (Nat.zero_le _)) V0_3 (Own.base O0_3 (Nat.zero_le _)) V0_4 (Own.base O0_4 (Nat.zero_le _)) b_0 a1.At A_R0_0_R0_1 A_R0_0_R0_2 A_R0_1_R0_2 _ k67)) rfl rfl rfl ?_
  rintro _ w93 ⟨u69, u73, u77, u81, u85, o70, m71, o74, m75, o78, m79, o82, m83, o86, m87, a89, a90, a91, rfl, b_0, q68⟩
  have m71 : ∀ g, Value.ownBlock u69 = some g → w.heap.size ≤ g ∨ (g = G_0 ∨ some g = Value.ownBlock V0_0 ∨ some g = Value.ownBlock V0_1 ∨ some g = Value.ownBlock V0_2 ∨ some g = Value.ownBlock V0_3 ∨ some g = Value.ownBlock V0_4) := fun g hg => (m71 g hg).elim (fun x => .inl (Nat.le_trans fB.size x)) (c92 g)
  have m75 : ∀ g, Value.ownBlock u73 = some g → w.heap.size ≤ g ∨ (g = G_0 ∨ some g = Value.ownBlock V0_0 ∨ some g = Value.ownBlock V0_1 ∨ some g = Value.ownBlock V0_2 ∨ some g = Value.ownBlock V0_3 ∨ some g = Value.ownBlock V0_4) := fun g hg => (m75 g hg).elim (fun x => .inl (Nat.le_trans fB.size x)) (c92 g)
  have m79 : ∀ g, Value.ownBlock u77 = some g → w.heap.size ≤ g ∨ (g = G_0 ∨ some g = Value.ownBlock V0_0 ∨ some g = Value.ownBlock V0_1 ∨ some g = Value.ownBlock V0_2 ∨ some g = Value.ownBlock V0_3 ∨ some g = Value.ownBlock V0_4) := fun g hg => (m79 g hg).elim (fun x => .inl (Nat.le_trans fB.size x)) (c92 g)
  have m83 : ∀ g, Value.ownBlock u81 = some g → w.heap.size ≤ g ∨ (g = G_0 ∨ some g = Value.ownBlock V0_0 ∨ some g = Value.ownBlock V0_1 ∨ some g = Value.ownBlock V0_2 ∨ some g = Value.ownBlock V0_3 ∨ some g = Value.ownBlock V0_4) := fun g hg => (m83 g hg).elim (fun x => .inl (Nat.le_trans fB.size x)) (c92 g)
  have m87 : ∀ g, Value.ownBlock u85 = some g → w.heap.size ≤ g ∨ (g = G_0 ∨ some g = Value.ownBlock V0_0 ∨ some g = Value.ownBlock V0_1 ∨ some g = Value.ownBlock V0_2 ∨ some g = Value.ownBlock V0_3 ∨ some g = Value.ownBlock V0_4) := fun g hg => (m87 g hg).elim (fun x => .inl (Nat.le_trans fB.size x)) (c92 g)
  have fB := fB.call q68 c92
  refine ol_val (v := .int .u64 0) (xr_assign rfl rfl) rfl rfl rfl ?_
  refine ol_val (v := .int .i64 t66.1) (xr_assign rfl rfl) rfl rfl rfl ?_
  refine ol_nil ?_
  refine cw_ret ?_
  repeat (first | with_reducible refine thn_r ?_ | with_reducible refine blk_r ?_)
  obtain rfl := Option.some.inj h
  refine fin_ret2 Try.results45 rfl rfl ?_
  exact ⟨_, rfl, u69, u73, u77, u81, u85, o70, m71, o74, m75, o78, m79, o82, m83, o86, m87, a89, a90, a91, rfl, b_0, fB⟩
 refine cw_condF rfl c65 ?_
 refine cw_seq ?_
 refine cw_region ?_
 refine ol_val (v := .bool (decide (t27 = 3))) (xr_eqI rfl Try.underlying3 rfl rfl rfl) rfl rfl rfl ?_
 refine ol_val (v := .bool (decide (t27 = 3))) (xr_assign rfl rfl) rfl rfl rfl ?_
 refine ol_nil ?_
 rcases is h with ⟨c94, h⟩ | ⟨c94, h⟩
 ·refine cw_condT rfl c94 ?_
  refine cw_seq ?_
  refine cw_region ?_
  refine ol_val (v := (pt G_0 0)) (xr_move rfl rfl) rfl rfl rfl ?_
  obtain ⟨t95, k96, h⟩ := bs h
  have c121 : ∀ k, (k = G_0 ∨ some k = Value.ownBlock V0_0 ∨ some k = Value.ownBlock V0_1 ∨ some k = Value.ownBlock V0_2 ∨ some k = Value.ownBlock V0_3 ∨ some k = Value.ownBlock V0_4) → (w.heap.size ≤ k ∨ (k = G_0 ∨ some k = Value.ownBlock V0_0 ∨ some k = Value.ownBlock V0_1 ∨ some k = Value.ownBlock V0_2 ∨ some k = Value.ownBlock V0_3 ∨ some k = Value.ownBlock V0_4)) := (cv_or (cv_eq (.inr (.inl rfl))) (cv_or (cv_own M0_0) (cv_or (cv_own M0_1) (cv_or (cv_own M0_2) (cv_or (cv_own M0_3) (cv_own M0_4))))))
  refine ol_op (opv_call rfl cal95 (ac rfl an) (rickyardref05_Device_Fence.ok fu _ a0 G_0 V0_0 (Own.base O0_0 (Nat.zero_le _)) V0_1 (Own.base O0_1 (Nat.zero_le _)) V0_2 (Own.base O0_2 (Nat.zero_le _)) V0_3 (Own.base O0_3 (Nat.zero_le _)) V0_4 (Own.base O0_4 (Nat.zero_le _)) b_0 A_R0_0_R0_1 A_R0_0_R0_2 A_R0_1_R0_2 _ k96)) rfl rfl rfl ?_
  rintro _ w122 ⟨u98, u102, u106, u110, u114, o99, m100, o103, m104, o107, m108, o111, m112, o115, m116, a118, a119, a120, rfl, b_0, q97⟩
  have m100 : ∀ g, Value.ownBlock u98 = some g → w.heap.size ≤ g ∨ (g = G_0 ∨ some g = Value.ownBlock V0_0 ∨ some g = Value.ownBlock V0_1 ∨ some g = Value.ownBlock V0_2 ∨ some g = Value.ownBlock V0_3 ∨ some g = Value.ownBlock V0_4) := fun g hg => (m100 g hg).elim (fun x => .inl (Nat.le_trans fB.size x)) (c121 g)
  have m104 : ∀ g, Value.ownBlock u102 = some g → w.heap.size ≤ g ∨ (g = G_0 ∨ some g = Value.ownBlock V0_0 ∨ some g = Value.ownBlock V0_1 ∨ some g = Value.ownBlock V0_2 ∨ some g = Value.ownBlock V0_3 ∨ some g = Value.ownBlock V0_4) := fun g hg => (m104 g hg).elim (fun x => .inl (Nat.le_trans fB.size x)) (c121 g)
  have m108 : ∀ g, Value.ownBlock u106 = some g → w.heap.size ≤ g ∨ (g = G_0 ∨ some g = Value.ownBlock V0_0 ∨ some g = Value.ownBlock V0_1 ∨ some g = Value.ownBlock V0_2 ∨ some g = Value.ownBlock V0_3 ∨ some g = Value.ownBlock V0_4) := fun g hg => (m108 g hg).elim (fun x => .inl (Nat.le_trans fB.size x)) (c121 g)
  have m112 : ∀ g, Value.ownBlock u110 = some g → w.heap.size ≤ g ∨ (g = G_0 ∨ some g = Value.ownBlock V0_0 ∨ some g = Value.ownBlock V0_1 ∨ some g = Value.ownBlock V0_2 ∨ some g = Value.ownBlock V0_3 ∨ some g = Value.ownBlock V0_4) := fun g hg => (m112 g hg).elim (fun x => .inl (Nat.le_trans fB.size x)) (c121 g)
  have m116 : ∀ g, Value.ownBlock u114 = some g → w.heap.size ≤ g ∨ (g = G_0 ∨ some g = Value.ownBlock V0_0 ∨ some g = Value.ownBlock V0_1 ∨ some g = Value.ownBlock V0_2 ∨ some g = Value.ownBlock V0_3 ∨ some g = Value.ownBlock V0_4) := fun g hg => (m116 g hg).elim (fun x => .inl (Nat.le_trans fB.size x)) (c121 g)
  have fB := fB.call q97 c121
  refine ol_val (v := .int .u64 0) (xr_assign rfl rfl) rfl rfl rfl ?_
  refine ol_val (v := .int .i64 t95.1) (xr_assign rfl rfl) rfl rfl rfl ?_
  refine ol_nil ?_
  refine cw_ret ?_
  repeat (first | with_reducible refine thn_r ?_ | with_reducible refine blk_r ?_)
  obtain rfl := Option.some.inj h
  refine fin_ret2 Try.results45 rfl rfl ?_
  exact ⟨_, rfl, u98, u102, u106, u110, u114, o99, m100, o103, m104, o107, m108, o111, m112, o115, m116, a118, a119, a120, rfl, b_0, fB⟩
 refine cw_condF rfl c94 ?_
 refine cw_seq ?_
 refine cw_region ?_
 refine ol_val (v := .bool (decide (t27 = 4))) (xr_eqI rfl Try.underlying3 rfl rfl rfl) rfl rfl rfl ?_
 refine ol_val (v := .bool (decide (t27 = 4))) (xr_assign rfl rfl) rfl rfl rfl ?_
 refine ol_nil ?_
 obtain ⟨x123, j124, h125⟩ := bs h
 refine cw_mid (fun ρ' w' => ∃ v126 : Value, ∃ v130 : Value, ∃ v134 : Value, ∃ v138 : Value, ∃ v142 : Value, ∃ o127 : Own (kI .u64) 22 w' 0 v126 x123.1, ∃ o131 : Own (kI .u64) 22 w' 0 v130 x123.2.1, ∃ o135 : Own (kI .u64) 22 w' 0 v134 x123.2.2.1, ∃ o139 : Own kB 4 w' 0 v138 x123.2.2.2.1, ∃ o143 : Own (kI .i64) 3 w' 0 v142 x123.2.2.2.2.1, ∃ m129 : ∀ g, Value.ownBlock v126 = some g → w.heap.size ≤ g ∨ (g = G_0 ∨ some g = Value.ownBlock V0_0 ∨ some g = Value.ownBlock V0_1 ∨ some g = Value.ownBlock V0_2 ∨ some g = Value.ownBlock V0_3 ∨ some g = Value.ownBlock V0_4), ∃ m133 : ∀ g, Value.ownBlock v130 = some g → w.heap.size ≤ g ∨ (g = G_0 ∨ some g = Value.ownBlock V0_0 ∨ some g = Value.ownBlock V0_1 ∨ some g = Value.ownBlock V0_2 ∨ some g = Value.ownBlock V0_3 ∨ some g = Value.ownBlock V0_4), ∃ m137 : ∀ g, Value.ownBlock v134 = some g → w.heap.size ≤ g ∨ (g = G_0 ∨ some g = Value.ownBlock V0_0 ∨ some g = Value.ownBlock V0_1 ∨ some g = Value.ownBlock V0_2 ∨ some g = Value.ownBlock V0_3 ∨ some g = Value.ownBlock V0_4), ∃ m141 : ∀ g, Value.ownBlock v138 = some g → w.heap.size ≤ g ∨ (g = G_0 ∨ some g = Value.ownBlock V0_0 ∨ some g = Value.ownBlock V0_1 ∨ some g = Value.ownBlock V0_2 ∨ some g = Value.ownBlock V0_3 ∨ some g = Value.ownBlock V0_4), ∃ m145 : ∀ g, Value.ownBlock v142 = some g → w.heap.size ≤ g ∨ (g = G_0 ∨ some g = Value.ownBlock V0_0 ∨ some g = Value.ownBlock V0_1 ∨ some g = Value.ownBlock V0_2 ∨ some g = Value.ownBlock V0_3 ∨ some g = Value.ownBlock V0_4), OffV v126 v130 ∧ OffV v126 v134 ∧ OffV v130 v134 ∧ Blk w' G_0 65 [Seg.cell v126 o127.one, Seg.cell v130 o131.one, Seg.cell v134 o135.one, Seg.cell v138 o139.one, Seg.cell v142 o143.one, (sI x123.2.2.2.2.2.1), (sI x123.2.2.2.2.2.2.1), (sI x123.2.2.2.2.2.2.2)] ∧ Fr (fun j => j = G_0 ∨ some j = Value.ownBlock V0_0 ∨ some j = Value.ownBlock V0_1 ∨ some j = Value.ownBlock V0_2 ∨ some j = Value.ownBlock V0_3 ∨ some j = Value.ownBlock V0_4) w w') ?_ ?_
 ·have h := j124
  rcases is h with ⟨c149, h⟩ | ⟨c149, h⟩
  ·refine cw_condT rfl c149 ?_
   refine cw_region ?_
   refine ol_val (v := (pt G_0 0)) (xr_move rfl rfl) rfl rfl rfl ?_
   refine ol_val (v := (pt G19 1)) (xr_fieldAddr (p := 0) (q := 1) rfl fl39_1 rfl) rfl rfl rfl ?_
   refine ol_val (v := .int .i64 a1.At) (xr_load1 (v := .int .i64 a1.At) rfl ag3 rfl (b20.seg 1 rfl rfl)) rfl rfl rfl ?_
   obtain ⟨t150, k151, h⟩ := bs h
   have f153 := off_ty b_0 O0_0 (by decide)
   have f154 := off_ty b_0 O0_1 (by decide)
   have f155 := off_ty b_0 O0_2 (by decide)
   have f156 := off_ty b_0 O0_3 (by decide)
   have f157 := off_ty b_0 O0_4 (by decide)
   refine ol_op (opv_call rfl cal96 (ac rfl (ac rfl an)) (rickyardref05_Device_Arm.ok fu _ a0 G_0 V0_0 O0_0.rd (OffR.own O0_0 (off_ty b_0 O0_0 (by decide))) V0_1 O0_1.rd (OffR.own O0_1 (off_ty b_0 O0_1 (by decide))) V0_2 O0_2.rd (OffR.own O0_2 (off_ty b_0 O0_2 (by decide))) V0_3 O0_3.rd (OffR.own O0_3 (off_ty b_0 O0_3 (by decide))) V0_4 O0_4.rd (OffR.own O0_4 (off_ty b_0 O0_4 (by decide))) b_0 a1.At _ k151)) rfl rfl rfl ?_
   rintro _ w158 ⟨rfl, b_0, q152⟩
   have O0_0 := O0_0.wr q152 f153
   have O0_1 := O0_1.wr q152 f154
   have O0_2 := O0_2.wr q152 f155
   have O0_3 := O0_3.wr q152 f156
   have O0_4 := O0_4.wr q152 f157
   have fB := fB.wrS q152 (.inl rfl)
   refine ol_nil ?_
   obtain rfl := Option.some.inj h
   refine thn_i ?_
   exact ⟨V0_0, V0_1, V0_2, V0_3, V0_4, O0_0, O0_1, O0_2, O0_3, O0_4, M0_0, M0_1, M0_2, M0_3, M0_4, A_R0_0_R0_1, A_R0_0_R0_2, A_R0_1_R0_2, b_0, fB⟩
  refine cw_condF rfl c149 ?_
  refine cw_seq ?_
  refine cw_region ?_
  refine ol_val (v := .bool (decide (t27 = 5))) (xr_eqI rfl Try.underlying3 rfl rfl rfl) rfl rfl rfl ?_
  refine ol_val (v := .bool (decide (t27 = 5))) (xr_assign rfl rfl) rfl rfl rfl ?_
  refine ol_nil ?_
  obtain ⟨x159, j160, h161⟩ := bs h
  refine cw_mid (fun ρ' w' => ∃ v162 : Value, ∃ v166 : Value, ∃ v170 : Value, ∃ v174 : Value, ∃ v178 : Value, ∃ o163 : Own (kI .u64) 22 w' 0 v162 x159.1, ∃ o167 : Own (kI .u64) 22 w' 0 v166 x159.2.1, ∃ o171 : Own (kI .u64) 22 w' 0 v170 x159.2.2.1, ∃ o175 : Own kB 4 w' 0 v174 x159.2.2.2.1, ∃ o179 : Own (kI .i64) 3 w' 0 v178 x159.2.2.2.2.1, ∃ m165 : ∀ g, Value.ownBlock v162 = some g → w.heap.size ≤ g ∨ (g = G_0 ∨ some g = Value.ownBlock V0_0 ∨ some g = Value.ownBlock V0_1 ∨ some g = Value.ownBlock V0_2 ∨ some g = Value.ownBlock V0_3 ∨ some g = Value.ownBlock V0_4), ∃ m169 : ∀ g, Value.ownBlock v166 = some g → w.heap.size ≤ g ∨ (g = G_0 ∨ some g = Value.ownBlock V0_0 ∨ some g = Value.ownBlock V0_1 ∨ some g = Value.ownBlock V0_2 ∨ some g = Value.ownBlock V0_3 ∨ some g = Value.ownBlock V0_4), ∃ m173 : ∀ g, Value.ownBlock v170 = some g → w.heap.size ≤ g ∨ (g = G_0 ∨ some g = Value.ownBlock V0_0 ∨ some g = Value.ownBlock V0_1 ∨ some g = Value.ownBlock V0_2 ∨ some g = Value.ownBlock V0_3 ∨ some g = Value.ownBlock V0_4), ∃ m177 : ∀ g, Value.ownBlock v174 = some g → w.heap.size ≤ g ∨ (g = G_0 ∨ some g = Value.ownBlock V0_0 ∨ some g = Value.ownBlock V0_1 ∨ some g = Value.ownBlock V0_2 ∨ some g = Value.ownBlock V0_3 ∨ some g = Value.ownBlock V0_4), ∃ m181 : ∀ g, Value.ownBlock v178 = some g → w.heap.size ≤ g ∨ (g = G_0 ∨ some g = Value.ownBlock V0_0 ∨ some g = Value.ownBlock V0_1 ∨ some g = Value.ownBlock V0_2 ∨ some g = Value.ownBlock V0_3 ∨ some g = Value.ownBlock V0_4), OffV v162 v166 ∧ OffV v162 v170 ∧ OffV v166 v170 ∧ Blk w' G_0 65 [Seg.cell v162 o163.one, Seg.cell v166 o167.one, Seg.cell v170 o171.one, Seg.cell v174 o175.one, Seg.cell v178 o179.one, (sI x159.2.2.2.2.2.1), (sI x159.2.2.2.2.2.2.1), (sI x159.2.2.2.2.2.2.2)] ∧ Fr (fun j => j = G_0 ∨ some j = Value.ownBlock V0_0 ∨ some j = Value.ownBlock V0_1 ∨ some j = Value.ownBlock V0_2 ∨ some j = Value.ownBlock V0_3 ∨ some j = Value.ownBlock V0_4) w w') ?_ ?_
  ·have h := j160
   rcases is h with ⟨c185, h⟩ | ⟨c185, h⟩
   ·refine cw_condT rfl c185 ?_
    refine cw_region ?_
    refine ol_val (v := (pt G_0 0)) (xr_move rfl rfl) rfl rfl rfl ?_
    refine ol_val (v := (pt G19 3)) (xr_fieldAddr (p := 0) (q := 3) rfl fl39_3 rfl) rfl rfl rfl ?_
    refine ol_val (v := V1_0) (xr_load1 (v := V1_0) rfl ag25 rfl (b20.seg 3 rfl rfl)) rfl rfl rfl ?_
    obtain ⟨t186, k187, h⟩ := bs h
    have f212 := (ro_or (ro_eq NR1_0_P0) (ro_or (ro_own NR1_0_R0_0) (ro_or (ro_own NR1_0_R0_1) (ro_or (ro_own NR1_0_R0_2) (ro_or (ro_own NR1_0_R0_3) (ro_own NR1_0_R0_4))))))
    have c213 : ∀ k, (k = G_0 ∨ some k = Value.ownBlock V0_0 ∨ some k = Value.ownBlock V0_1 ∨ some k = Value.ownBlock V0_2 ∨ some k = Value.ownBlock V0_3 ∨ some k = Value.ownBlock V0_4) → (w.heap.size ≤ k ∨ (k = G_0 ∨ some k = Value.ownBlock V0_0 ∨ some k = Value.ownBlock V0_1 ∨ some k = Value.ownBlock V0_2 ∨ some k = Value.ownBlock V0_3 ∨ some k = Value.ownBlock V0_4)) := (cv_or (cv_eq (.inr (.inl rfl))) (cv_or (cv_own M0_0) (cv_or (cv_own M0_1) (cv_or (cv_own M0_2) (cv_or (cv_own M0_3) (cv_own M0_4))))))
    refine ol_op (opv_call rfl cal97 (ac rfl (ac rfl an)) (rickyardref05_Device_Lay.ok fu _ a0 G_0 V0_0 (Own.base O0_0 (Nat.zero_le _)) V0_1 (Own.base O0_1 (Nat.zero_le _)) V0_2 (Own.base O0_2 (Nat.zero_le _)) V0_3 (Own.base O0_3 (Nat.zero_le _)) V0_4 (Own.base O0_4 (Nat.zero_le _)) b_0 a1.L V1_0 (R1_0) A_R0_0_R0_1 A_R0_0_R0_2 A_R0_1_R0_2 NR1_0_P0 NR1_0_R0_0 NR1_0_R0_1 NR1_0_R0_2 NR1_0_R0_3 NR1_0_R0_4 _ k187)) rfl rfl rfl ?_
    rintro _ w214 ⟨u189, u193, u197, u201, u205, o190, m191, o194, m195, o198, m199, o202, m203, o206, m207, a209, a210, a211, rfl, b_0, q188⟩
    have m191 : ∀ g, Value.ownBlock u189 = some g → w.heap.size ≤ g ∨ (g = G_0 ∨ some g = Value.ownBlock V0_0 ∨ some g = Value.ownBlock V0_1 ∨ some g = Value.ownBlock V0_2 ∨ some g = Value.ownBlock V0_3 ∨ some g = Value.ownBlock V0_4) := fun g hg => (m191 g hg).elim (fun x => .inl (Nat.le_trans fB.size x)) (c213 g)
    have m195 : ∀ g, Value.ownBlock u193 = some g → w.heap.size ≤ g ∨ (g = G_0 ∨ some g = Value.ownBlock V0_0 ∨ some g = Value.ownBlock V0_1 ∨ some g = Value.ownBlock V0_2 ∨ some g = Value.ownBlock V0_3 ∨ some g = Value.ownBlock V0_4) := fun g hg => (m195 g hg).elim (fun x => .inl (Nat.le_trans fB.size x)) (c213 g)
    have m199 : ∀ g, Value.ownBlock u197 = some g → w.heap.size ≤ g ∨ (g = G_0 ∨ some g = Value.ownBlock V0_0 ∨ some g = Value.ownBlock V0_1 ∨ some g = Value.ownBlock V0_2 ∨ some g = Value.ownBlock V0_3 ∨ some g = Value.ownBlock V0_4) := fun g hg => (m199 g hg).elim (fun x => .inl (Nat.le_trans fB.size x)) (c213 g)
    have m203 : ∀ g, Value.ownBlock u201 = some g → w.heap.size ≤ g ∨ (g = G_0 ∨ some g = Value.ownBlock V0_0 ∨ some g = Value.ownBlock V0_1 ∨ some g = Value.ownBlock V0_2 ∨ some g = Value.ownBlock V0_3 ∨ some g = Value.ownBlock V0_4) := fun g hg => (m203 g hg).elim (fun x => .inl (Nat.le_trans fB.size x)) (c213 g)
    have m207 : ∀ g, Value.ownBlock u205 = some g → w.heap.size ≤ g ∨ (g = G_0 ∨ some g = Value.ownBlock V0_0 ∨ some g = Value.ownBlock V0_1 ∨ some g = Value.ownBlock V0_2 ∨ some g = Value.ownBlock V0_3 ∨ some g = Value.ownBlock V0_4) := fun g hg => (m207 g hg).elim (fun x => .inl (Nat.le_trans fB.size x)) (c213 g)
    have fB := fB.call q188 c213
    refine ol_nil ?_
    obtain rfl := Option.some.inj h
    refine thn_i ?_
    exact ⟨u189, u193, u197, u201, u205, o190, o194, o198, o202, o206, m191, m195, m199, m203, m207, a209, a210, a211, b_0, fB⟩
   refine cw_condF rfl c185 ?_
   refine cw_seq ?_
   refine cw_region ?_
   refine ol_val (v := .bool (decide (t27 = 6))) (xr_eqI rfl Try.underlying3 rfl rfl rfl) rfl rfl rfl ?_
   refine ol_val (v := .bool (decide (t27 = 6))) (xr_assign rfl rfl) rfl rfl rfl ?_
   refine ol_nil ?_
   obtain ⟨x215, j216, h217⟩ := bs h
   refine cw_mid (fun ρ' w' => ∃ v218 : Value, ∃ v222 : Value, ∃ v226 : Value, ∃ v230 : Value, ∃ v234 : Value, ∃ o219 : Own (kI .u64) 22 w' 0 v218 x215.1, ∃ o223 : Own (kI .u64) 22 w' 0 v222 x215.2.1, ∃ o227 : Own (kI .u64) 22 w' 0 v226 x215.2.2.1, ∃ o231 : Own kB 4 w' 0 v230 x215.2.2.2.1, ∃ o235 : Own (kI .i64) 3 w' 0 v234 x215.2.2.2.2.1, ∃ m221 : ∀ g, Value.ownBlock v218 = some g → w.heap.size ≤ g ∨ (g = G_0 ∨ some g = Value.ownBlock V0_0 ∨ some g = Value.ownBlock V0_1 ∨ some g = Value.ownBlock V0_2 ∨ some g = Value.ownBlock V0_3 ∨ some g = Value.ownBlock V0_4), ∃ m225 : ∀ g, Value.ownBlock v222 = some g → w.heap.size ≤ g ∨ (g = G_0 ∨ some g = Value.ownBlock V0_0 ∨ some g = Value.ownBlock V0_1 ∨ some g = Value.ownBlock V0_2 ∨ some g = Value.ownBlock V0_3 ∨ some g = Value.ownBlock V0_4), ∃ m229 : ∀ g, Value.ownBlock v226 = some g → w.heap.size ≤ g ∨ (g = G_0 ∨ some g = Value.ownBlock V0_0 ∨ some g = Value.ownBlock V0_1 ∨ some g = Value.ownBlock V0_2 ∨ some g = Value.ownBlock V0_3 ∨ some g = Value.ownBlock V0_4), ∃ m233 : ∀ g, Value.ownBlock v230 = some g → w.heap.size ≤ g ∨ (g = G_0 ∨ some g = Value.ownBlock V0_0 ∨ some g = Value.ownBlock V0_1 ∨ some g = Value.ownBlock V0_2 ∨ some g = Value.ownBlock V0_3 ∨ some g = Value.ownBlock V0_4), ∃ m237 : ∀ g, Value.ownBlock v234 = some g → w.heap.size ≤ g ∨ (g = G_0 ∨ some g = Value.ownBlock V0_0 ∨ some g = Value.ownBlock V0_1 ∨ some g = Value.ownBlock V0_2 ∨ some g = Value.ownBlock V0_3 ∨ some g = Value.ownBlock V0_4), OffV v218 v222 ∧ OffV v218 v226 ∧ OffV v222 v226 ∧ Blk w' G_0 65 [Seg.cell v218 o219.one, Seg.cell v222 o223.one, Seg.cell v226 o227.one, Seg.cell v230 o231.one, Seg.cell v234 o235.one, (sI x215.2.2.2.2.2.1), (sI x215.2.2.2.2.2.2.1), (sI x215.2.2.2.2.2.2.2)] ∧ Fr (fun j => j = G_0 ∨ some j = Value.ownBlock V0_0 ∨ some j = Value.ownBlock V0_1 ∨ some j = Value.ownBlock V0_2 ∨ some j = Value.ownBlock V0_3 ∨ some j = Value.ownBlock V0_4) w w') ?_ ?_
   ·have h := j216
    rcases is h with ⟨c241, h⟩ | ⟨c241, h⟩
    ·refine cw_condT rfl c241 ?_
     refine cw_region ?_
     refine ol_val (v := (pt G_0 0)) (xr_move rfl rfl) rfl rfl rfl ?_
     refine ol_val (v := (pt G19 3)) (xr_fieldAddr (p := 0) (q := 3) rfl fl39_3 rfl) rfl rfl rfl ?_
     refine ol_val (v := V1_0) (xr_load1 (v := V1_0) rfl ag25 rfl (b20.seg 3 rfl rfl)) rfl rfl rfl ?_
     obtain ⟨t242, k243, h⟩ := bs h
     have f268 := (ro_or (ro_eq NR1_0_P0) (ro_or (ro_own NR1_0_R0_0) (ro_or (ro_own NR1_0_R0_1) (ro_or (ro_own NR1_0_R0_2) (ro_or (ro_own NR1_0_R0_3) (ro_own NR1_0_R0_4))))))
     have c269 : ∀ k, (k = G_0 ∨ some k = Value.ownBlock V0_0 ∨ some k = Value.ownBlock V0_1 ∨ some k = Value.ownBlock V0_2 ∨ some k = Value.ownBlock V0_3 ∨ some k = Value.ownBlock V0_4) → (w.heap.size ≤ k ∨ (k = G_0 ∨ some k = Value.ownBlock V0_0 ∨ some k = Value.ownBlock V0_1 ∨ some k = Value.ownBlock V0_2 ∨ some k = Value.ownBlock V0_3 ∨ some k = Value.ownBlock V0_4)) := (cv_or (cv_eq (.inr (.inl rfl))) (cv_or (cv_own M0_0) (cv_or (cv_own M0_1) (cv_or (cv_own M0_2) (cv_or (cv_own M0_3) (cv_own M0_4))))))
     refine ol_op (opv_call rfl cal98 (ac rfl (ac rfl an)) (rickyardref05_Device_Crash.ok fu _ a0 G_0 V0_0 (Own.base O0_0 (Nat.zero_le _)) V0_1 (Own.base O0_1 (Nat.zero_le _)) V0_2 (Own.base O0_2 (Nat.zero_le _)) V0_3 (Own.base O0_3 (Nat.zero_le _)) V0_4 (Own.base O0_4 (Nat.zero_le _)) b_0 a1.L V1_0 (R1_0) A_R0_0_R0_1 A_R0_0_R0_2 A_R0_1_R0_2 NR1_0_P0 NR1_0_R0_0 NR1_0_R0_1 NR1_0_R0_2 NR1_0_R0_3 NR1_0_R0_4 _ k243)) rfl rfl rfl ?_
     rintro _ w270 ⟨u245, u249, u253, u257, u261, o246, m247, o250, m251, o254, m255, o258, m259, o262, m263, a265, a266, a267, rfl, b_0, q244⟩
     have m247 : ∀ g, Value.ownBlock u245 = some g → w.heap.size ≤ g ∨ (g = G_0 ∨ some g = Value.ownBlock V0_0 ∨ some g = Value.ownBlock V0_1 ∨ some g = Value.ownBlock V0_2 ∨ some g = Value.ownBlock V0_3 ∨ some g = Value.ownBlock V0_4) := fun g hg => (m247 g hg).elim (fun x => .inl (Nat.le_trans fB.size x)) (c269 g)
     have m251 : ∀ g, Value.ownBlock u249 = some g → w.heap.size ≤ g ∨ (g = G_0 ∨ some g = Value.ownBlock V0_0 ∨ some g = Value.ownBlock V0_1 ∨ some g = Value.ownBlock V0_2 ∨ some g = Value.ownBlock V0_3 ∨ some g = Value.ownBlock V0_4) := fun g hg => (m251 g hg).elim (fun x => .inl (Nat.le_trans fB.size x)) (c269 g)
     have m255 : ∀ g, Value.ownBlock u253 = some g → w.heap.size ≤ g ∨ (g = G_0 ∨ some g = Value.ownBlock V0_0 ∨ some g = Value.ownBlock V0_1 ∨ some g = Value.ownBlock V0_2 ∨ some g = Value.ownBlock V0_3 ∨ some g = Value.ownBlock V0_4) := fun g hg => (m255 g hg).elim (fun x => .inl (Nat.le_trans fB.size x)) (c269 g)
     have m259 : ∀ g, Value.ownBlock u257 = some g → w.heap.size ≤ g ∨ (g = G_0 ∨ some g = Value.ownBlock V0_0 ∨ some g = Value.ownBlock V0_1 ∨ some g = Value.ownBlock V0_2 ∨ some g = Value.ownBlock V0_3 ∨ some g = Value.ownBlock V0_4) := fun g hg => (m259 g hg).elim (fun x => .inl (Nat.le_trans fB.size x)) (c269 g)
     have m263 : ∀ g, Value.ownBlock u261 = some g → w.heap.size ≤ g ∨ (g = G_0 ∨ some g = Value.ownBlock V0_0 ∨ some g = Value.ownBlock V0_1 ∨ some g = Value.ownBlock V0_2 ∨ some g = Value.ownBlock V0_3 ∨ some g = Value.ownBlock V0_4) := fun g hg => (m263 g hg).elim (fun x => .inl (Nat.le_trans fB.size x)) (c269 g)
     have fB := fB.call q244 c269
     refine ol_nil ?_
     obtain rfl := Option.some.inj h
     refine thn_i ?_
     exact ⟨u245, u249, u253, u257, u261, o246, o250, o254, o258, o262, m247, m251, m255, m259, m263, a265, a266, a267, b_0, fB⟩
    refine cw_condF rfl c241 ?_
    refine cw_skip ?_
    obtain rfl := Option.some.inj h
    refine thn_i ?_
    exact ⟨V0_0, V0_1, V0_2, V0_3, V0_4, O0_0, O0_1, O0_2, O0_3, O0_4, M0_0, M0_1, M0_2, M0_3, M0_4, A_R0_0_R0_1, A_R0_0_R0_2, A_R0_1_R0_2, b_0, fB⟩
   rintro ρ271 w272 ⟨v218, v222, v226, v230, v234, o219, o223, o227, o231, o235, m221, m225, m229, m233, m237, a238, a239, a240, b_0, fB⟩
   have h := h217
   obtain rfl := Option.some.inj h
   refine thn_i ?_
   exact ⟨v218, v222, v226, v230, v234, o219, o223, o227, o231, o235, m221, m225, m229, m233, m237, a238, a239, a240, b_0, fB⟩
  rintro ρ273 w274 ⟨v162, v166, v170, v174, v178, o163, o167, o171, o175, o179, m165, m169, m173, m177, m181, a182, a183, a184, b_0, fB⟩
  have h := h161
  obtain rfl := Option.some.inj h
  refine thn_i ?_
  exact ⟨v162, v166, v170, v174, v178, o163, o167, o171, o175, o179, m165, m169, m173, m177, m181, a182, a183, a184, b_0, fB⟩
 rintro ρ275 w276 ⟨v126, v130, v134, v138, v142, o127, o131, o135, o139, o143, m129, m133, m137, m141, m145, a146, a147, a148, b_0, fB⟩
 have h := h125
 refine blk_i ?_
 refine cw_seq ?_
 refine cw_region ?_
 refine ol_val (v := .int .u64 0) (xr_assign rfl rfl) rfl rfl rfl ?_
 refine ol_val (v := .int .i64 0) (xr_assign rfl rfl) rfl rfl rfl ?_
 refine ol_nil ?_
 refine cw_ret ?_
 repeat (first | with_reducible refine thn_r ?_ | with_reducible refine blk_r ?_)
 obtain rfl := Option.some.inj h
 refine fin_ret2 Try.results45 rfl rfl ?_
 exact ⟨_, rfl, v126, v130, v134, v138, v142, o127, m129, o131, m133, o135, m137, o139, m141, o143, m145, a146, a147, a148, rfl, b_0, fB⟩
end Go.Proofs.Ytklhbaghbmndeaa
