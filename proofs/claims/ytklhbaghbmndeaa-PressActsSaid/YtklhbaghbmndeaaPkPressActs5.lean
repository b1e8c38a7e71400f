/- PressActs: texts merged, part 5 of 8. The last part proves that the law PressActs holds for every input. -/
import Derived.Test.YtklhbaghbmndeaaPkPressActs4
set_option linter.unusedVariables false
set_option linter.unusedSimpArgs false
namespace Go.Proofs.Ytklhbaghbmndeaa
open Go Go.Xw
def rickyardref05_Device_Crash.s0 (fu : Nat) (a1 : List Int) (t19 : (List S_api_Fate)) : (Int × (List Int) × (List Int) × (List Int) × (List Bool) × (List Int) × Int × Int × Int) → Option (Sum ((List Int) × (List Int) × (List Int) × (List Bool) × (List Int) × Int × Int × Int) (Int × (List Int) × (List Int) × (List Int) × (List Bool) × (List Int) × Int × Int × Int)) := fun s27 => (if (decide (s27.1 < (List.length t19 : Int))) = true then (((if (decide (s27.1 < (List.length a1 : Int))) = true then (if 0 ≤ s27.1 ∧ s27.1 < (List.length a1 : Int) then some ((ix a1 s27.1)) else none) else some (0)) : Option Int).bind fun x86 => (if 0 ≤ s27.1 ∧ s27.1 < (List.length t19 : Int) then (if 0 ≤ s27.1 ∧ s27.1 < (List.length t19 : Int) then ((rickyardref05_Value.f fu (ix t19 s27.1) x86 : Option Int).bind fun t95 => ((rickyardref05_Device_last.f fu (⟨s27.2.1, s27.2.2.1, s27.2.2.2.1, s27.2.2.2.2.1, s27.2.2.2.2.2.1, s27.2.2.2.2.2.2.1, s27.2.2.2.2.2.2.2.1, s27.2.2.2.2.2.2.2.2⟩ : S_rickyardref05_Device) ((ix t19 s27.1).At) t95 : Option S_rickyardref05_Device).bind fun t101 => some (Sum.inr ((IntKind.i64.wrap (s27.1 + 1)), t101.Lasts, t101.Stored, t101.Sent, t101.Flushed, t101.Plan, t101.Since, t101.Left, t101.Steps)))) else none) else none)) else some (Sum.inl (s27.2.1, s27.2.2.1, s27.2.2.2.1, s27.2.2.2.2.1, s27.2.2.2.2.2.1, s27.2.2.2.2.2.2.1, s27.2.2.2.2.2.2.2.1, s27.2.2.2.2.2.2.2.2)))
def rickyardref05_Device_Crash.s1 (fu : Nat) (e28 : (List Int) × (List Int) × (List Int) × (List Bool) × (List Int) × Int × Int × Int) : (Int × (List Int)) → Option (Sum (List Int) (Int × (List Int))) := fun s138 => (if (decide (s138.1 < (List.length e28.1 : Int))) = true then (if 0 ≤ s138.1 ∧ s138.1 < (List.length e28.1 : Int) then (if 0 ≤ s138.1 ∧ s138.1 < (List.length s138.2 : Int) then some (Sum.inr ((IntKind.i64.wrap (s138.1 + 1)), (List.set s138.2 (Int.toNat s138.1) (ix e28.1 s138.1)))) else none) else none) else some (Sum.inl (s138.2)))
def rickyardref05_Device_Crash.f (fu : Nat) (a0 : S_rickyardref05_Device) (a1 : List Int) : Option S_rickyardref05_Device := ((rickyardref05_Device_Fates.f fu a0 : Option (List S_api_Fate)).bind fun t19 => ((loopM (rickyardref05_Device_Crash.s0 fu a1 t19) fu (0, a0.Lasts, a0.Stored, a0.Sent, a0.Flushed, a0.Plan, a0.Since, a0.Left, a0.Steps)).bind fun e28 => ((loopM (rickyardref05_Device_Crash.s1 fu e28) fu (0, e28.2.1)).bind fun e139 => some ((⟨e28.1, e139, e28.2.2.1, e28.2.2.2.1, [], 0, (-1), e28.2.2.2.2.2.2.2⟩ : S_rickyardref05_Device)))))
set_option maxRecDepth 100000 in
set_option maxHeartbeats 400000 in
theorem rickyardref05_Device_Crash.ok (fu : Nat) (w : World) (a0 : S_rickyardref05_Device) (G_0 : Nat) (V0_0 : Value) (O0_0 : Own (kI .u64) 22 w 0 V0_0 a0.Lasts) (V0_1 : Value) (O0_1 : Own (kI .u64) 22 w 0 V0_1 a0.Stored) (V0_2 : Value) (O0_2 : Own (kI .u64) 22 w 0 V0_2 a0.Sent) (V0_3 : Value) (O0_3 : Own kB 4 w 0 V0_3 a0.Flushed) (V0_4 : Value) (O0_4 : Own (kI .i64) 3 w 0 V0_4 a0.Plan) (b_0 : Blk w G_0 65 [Seg.cell V0_0 O0_0.one, Seg.cell V0_1 O0_1.one, Seg.cell V0_2 O0_2.one, Seg.cell V0_3 O0_3.one, Seg.cell V0_4 O0_4.one, Seg.cell (.int .i64 a0.Since), Seg.cell (.int .i64 a0.Left), Seg.cell (.int .i64 a0.Steps)]) (a1 : List Int) (V1_0 : Value) (R1_0 : Rd (kI .i64) w V1_0 a1) (A_R0_0_R0_1 : OffV V0_0 V0_1) (A_R0_0_R0_2 : OffV V0_0 V0_2) (A_R0_1_R0_2 : OffV V0_1 V0_2) (NR1_0_P0 : OffR V1_0 a1 G_0) (NR1_0_R0_0 : OffRV V1_0 a1 V0_0) (NR1_0_R0_1 : OffRV V1_0 a1 V0_1) (NR1_0_R0_2 : OffRV V1_0 a1 V0_2) (NR1_0_R0_3 : OffRV V1_0 a1 V0_3) (NR1_0_R0_4 : OffRV V1_0 a1 V0_4) (r : S_rickyardref05_Device) (h : rickyardref05_Device_Crash.f fu a0 a1 = some r) :
  Calls Try.prog 98 (([.pointer (some ⟨G_0, 0, none⟩), V1_0] : List Value).toArray) w (fun e w' => ∃ v, e = .returned v ∧ ∃ u1 : Value, ∃ u4 : Value, ∃ u7 : Value, ∃ u10 : Value, ∃ u13 : Value, ∃ o2 : Own (kI .u64) 22 w' 0 u1 r.Lasts, ∃ m3 : ∀ g, Value.ownBlock u1 = some g → w.heap.size ≤ g ∨ (g = G_0 ∨ some g = Value.ownBlock V0_0 ∨ some g = Value.ownBlock V0_1 ∨ some g = Value.ownBlock V0_2 ∨ some g = Value.ownBlock V0_3 ∨ some g = Value.ownBlock V0_4), ∃ o5 : Own (kI .u64) 22 w' 0 u4 r.Stored, ∃ m6 : ∀ g, Value.ownBlock u4 = some g → w.heap.size ≤ g ∨ (g = G_0 ∨ some g = Value.ownBlock V0_0 ∨ some g = Value.ownBlock V0_1 ∨ some g = Value.ownBlock V0_2 ∨ some g = Value.ownBlock V0_3 ∨ some g = Value.ownBlock V0_4), ∃ o8 : Own (kI .u64) 22 w' 0 u7 r.Sent, ∃ m9 : ∀ g, Value.ownBlock u7 = some g → w.heap.size ≤ g ∨ (g = G_0 ∨ some g = Value.ownBlock V0_0 ∨ some g = Value.ownBlock V0_1 ∨ some g = Value.ownBlock V0_2 ∨ some g = Value.ownBlock V0_3 ∨ some g = Value.ownBlock V0_4), ∃ o11 : Own kB 4 w' 0 u10 r.Flushed, ∃ m12 : ∀ g, Value.ownBlock u10 = some g → w.heap.size ≤ g ∨ (g = G_0 ∨ some g = Value.ownBlock V0_0 ∨ some g = Value.ownBlock V0_1 ∨ some g = Value.ownBlock V0_2 ∨ some g = Value.ownBlock V0_3 ∨ some g = Value.ownBlock V0_4), ∃ o14 : Own (kI .i64) 3 w' 0 u13 r.Plan, ∃ m15 : ∀ g, Value.ownBlock u13 = some g → w.heap.size ≤ g ∨ (g = G_0 ∨ some g = Value.ownBlock V0_0 ∨ some g = Value.ownBlock V0_1 ∨ some g = Value.ownBlock V0_2 ∨ some g = Value.ownBlock V0_3 ∨ some g = Value.ownBlock V0_4), ∃ a16 : OffV u1 u4, ∃ a17 : OffV u1 u7, ∃ a18 : OffV u4 u7, v = .tuple #[] ∧ Blk w' G_0 65 [Seg.cell u1 o2.one, Seg.cell u4 o5.one, Seg.cell u7 o8.one, Seg.cell u10 o11.one, Seg.cell u13 o14.one, Seg.cell (.int .i64 r.Since), Seg.cell (.int .i64 r.Left), Seg.cell (.int .i64 r.Steps)] ∧ Fr (fun j => j = G_0 ∨ some j = Value.ownBlock V0_0 ∨ some j = Value.ownBlock V0_1 ∨ some j = Value.ownBlock V0_2 ∨ some j = Value.ownBlock V0_3 ∨ some j = Value.ownBlock V0_4) w w') := by
 unfold rickyardref05_Device_Crash.f at h
 have fB : Fr (fun j => j = G_0 ∨ some j = Value.ownBlock V0_0 ∨ some j = Value.ownBlock V0_1 ∨ some j = Value.ownBlock V0_2 ∨ some j = Value.ownBlock V0_3 ∨ some j = Value.ownBlock V0_4) w w := Fr.refl _ _
 have M0_0 : ∀ g, Value.ownBlock V0_0 = some g → w.heap.size ≤ g ∨ (g = G_0 ∨ some g = Value.ownBlock V0_0 ∨ some g = Value.ownBlock V0_1 ∨ some g = Value.ownBlock V0_2 ∨ some g = Value.ownBlock V0_3 ∨ some g = Value.ownBlock V0_4) := fun g hg => .inr (.inr (.inl hg.symm))
 have M0_1 : ∀ g, Value.ownBlock V0_1 = some g → w.heap.size ≤ g ∨ (g = G_0 ∨ some g = Value.ownBlock V0_0 ∨ some g = Value.ownBlock V0_1 ∨ some g = Value.ownBlock V0_2 ∨ some g = Value.ownBlock V0_3 ∨ some g = Value.ownBlock V0_4) := fun g hg => .inr (.inr (.inr (.inl hg.symm)))
 have M0_2 : ∀ g, Value.ownBlock V0_2 = some g → w.heap.size ≤ g ∨ (g = G_0 ∨ some g = Value.ownBlock V0_0 ∨ some g = Value.ownBlock V0_1 ∨ some g = Value.ownBlock V0_2 ∨ some g = Value.ownBlock V0_3 ∨ some g = Value.ownBlock V0_4) := fun g hg => .inr (.inr (.inr (.inr (.inl hg.symm))))
 have M0_3 : ∀ g, Value.ownBlock V0_3 = some g → w.heap.size ≤ g ∨ (g = G_0 ∨ some g = Value.ownBlock V0_0 ∨ some g = Value.ownBlock V0_1 ∨ some g = Value.ownBlock V0_2 ∨ some g = Value.ownBlock V0_3 ∨ some g = Value.ownBlock V0_4) := fun g hg => .inr (.inr (.inr (.inr (.inr (.inl hg.symm)))))
 have M0_4 : ∀ g, Value.ownBlock V0_4 = some g → w.heap.size ≤ g ∨ (g = G_0 ∨ some g = Value.ownBlock V0_0 ∨ some g = Value.ownBlock V0_1 ∨ some g = Value.ownBlock V0_2 ∨ some g = Value.ownBlock V0_3 ∨ some g = Value.ownBlock V0_4) := fun g hg => .inr (.inr (.inr (.inr (.inr (.inr hg.symm)))))
 refine calls_cw Try.func98 rfl Try.ntmps98 rfl ?_
 refine cw_seq ?_
 refine cw_region ?_
 refine ol_val (v := .pointer (some ⟨G_0, 0, none⟩)) (by exact xr_move rfl rfl) rfl rfl rfl ?_
 obtain ⟨t19, k20, h⟩ := bs h
 refine ol_op (by exact opv_call rfl cal47 (ac rfl an) (rickyardref05_Device_Fates.ok fu _ a0 G_0 V0_0 (O0_0.rd) V0_1 (O0_1.rd) V0_2 (O0_2.rd) V0_3 (O0_3.rd) V0_4 (O0_4.rd) b_0 _ k20)) rfl rfl rfl ?_
 rintro u21 w25 ⟨_, o22, rfl, q24⟩
 have a26 := OffRV.call R1_0 o22 rfl
 have o22 := Own.base o22 fB.size
 have b_0 := b_0.gr q24
 have O0_0 := O0_0.gr q24
 have O0_1 := O0_1.gr q24
 have O0_2 := O0_2.gr q24
 have O0_3 := O0_3.gr q24
 have O0_4 := O0_4.gr q24
 have R1_0 := R1_0.gr q24
 have fB := fB.gr q24
 refine ol_val (v := u21) (by exact xr_assign rfl rfl) rfl rfl rfl ?_
 refine ol_nil ?_
 refine cw_seq ?_
 refine cw_seq ?_
 refine cw_region ?_
 refine ol_val (v := .int .i64 0) (by exact xr_assign rfl rfl) rfl rfl rfl ?_
 refine ol_nil ?_
 obtain ⟨e28, l29, h30⟩ := bs h
 refine cw_mid (fun ρ' w' => ∃ v31 : Value, ∃ v35 : Value, ∃ v39 : Value, ∃ v43 : Value, ∃ v47 : Value, ∃ o32 : Own (kI .u64) 22 w' 0 v31 e28.1, ∃ o36 : Own (kI .u64) 22 w' 0 v35 e28.2.1, ∃ o40 : Own (kI .u64) 22 w' 0 v39 e28.2.2.1, ∃ o44 : Own kB 4 w' 0 v43 e28.2.2.2.1, ∃ o48 : Own (kI .i64) 3 w' 0 v47 e28.2.2.2.2.1, ∃ m34 : ∀ g, Value.ownBlock v31 = some g → w.heap.size ≤ g ∨ (g = G_0 ∨ some g = Value.ownBlock V0_0 ∨ some g = Value.ownBlock V0_1 ∨ some g = Value.ownBlock V0_2 ∨ some g = Value.ownBlock V0_3 ∨ some g = Value.ownBlock V0_4), ∃ m38 : ∀ g, Value.ownBlock v35 = some g → w.heap.size ≤ g ∨ (g = G_0 ∨ some g = Value.ownBlock V0_0 ∨ some g = Value.ownBlock V0_1 ∨ some g = Value.ownBlock V0_2 ∨ some g = Value.ownBlock V0_3 ∨ some g = Value.ownBlock V0_4), ∃ m42 : ∀ g, Value.ownBlock v39 = some g → w.heap.size ≤ g ∨ (g = G_0 ∨ some g = Value.ownBlock V0_0 ∨ some g = Value.ownBlock V0_1 ∨ some g = Value.ownBlock V0_2 ∨ some g = Value.ownBlock V0_3 ∨ some g = Value.ownBlock V0_4), ∃ m46 : ∀ g, Value.ownBlock v43 = some g → w.heap.size ≤ g ∨ (g = G_0 ∨ some g = Value.ownBlock V0_0 ∨ some g = Value.ownBlock V0_1 ∨ some g = Value.ownBlock V0_2 ∨ some g = Value.ownBlock V0_3 ∨ some g = Value.ownBlock V0_4), ∃ m50 : ∀ g, Value.ownBlock v47 = some g → w.heap.size ≤ g ∨ (g = G_0 ∨ some g = Value.ownBlock V0_0 ∨ some g = Value.ownBlock V0_1 ∨ some g = Value.ownBlock V0_2 ∨ some g = Value.ownBlock V0_3 ∨ some g = Value.ownBlock V0_4), OffV v31 v35 ∧ OffV v31 v39 ∧ OffV v35 v39 ∧ ρ' 0 = .pointer (some ⟨G_0, 0, none⟩) ∧ Blk w' G_0 65 [Seg.cell v31 o32.one, Seg.cell v35 o36.one, Seg.cell v39 o40.one, Seg.cell v43 o44.one, Seg.cell v47 o48.one, Seg.cell (.int .i64 e28.2.2.2.2.2.1), Seg.cell (.int .i64 e28.2.2.2.2.2.2.1), Seg.cell (.int .i64 e28.2.2.2.2.2.2.2)] ∧ Fr (fun j => j = G_0 ∨ some j = Value.ownBlock V0_0 ∨ some j = Value.ownBlock V0_1 ∨ some j = Value.ownBlock V0_2 ∨ some j = Value.ownBlock V0_3 ∨ some j = Value.ownBlock V0_4) w w') ?_ ?_
 ·refine cw_block ?_
  refine cw_round (fun (s27 : Int × (List Int) × (List Int) × (List Int) × (List Bool) × (List Int) × Int × Int × Int) ρ' w' => ∃ v54 : Value, ∃ v58 : Value, ∃ v62 : Value, ∃ v66 : Value, ∃ v70 : Value, ∃ o22 : Own k_api_Fate 55 w' w.heap.size u21 t19, ∃ o55 : Own (kI .u64) 22 w' 0 v54 s27.2.1, ∃ o59 : Own (kI .u64) 22 w' 0 v58 s27.2.2.1, ∃ o63 : Own (kI .u64) 22 w' 0 v62 s27.2.2.2.1, ∃ o67 : Own kB 4 w' 0 v66 s27.2.2.2.2.1, ∃ o71 : Own (kI .i64) 3 w' 0 v70 s27.2.2.2.2.2.1, ∃ m57 : ∀ g, Value.ownBlock v54 = some g → w.heap.size ≤ g ∨ (g = G_0 ∨ some g = Value.ownBlock V0_0 ∨ some g = Value.ownBlock V0_1 ∨ some g = Value.ownBlock V0_2 ∨ some g = Value.ownBlock V0_3 ∨ some g = Value.ownBlock V0_4), ∃ m61 : ∀ g, Value.ownBlock v58 = some g → w.heap.size ≤ g ∨ (g = G_0 ∨ some g = Value.ownBlock V0_0 ∨ some g = Value.ownBlock V0_1 ∨ some g = Value.ownBlock V0_2 ∨ some g = Value.ownBlock V0_3 ∨ some g = Value.ownBlock V0_4), ∃ m65 : ∀ g, Value.ownBlock v62 = some g → w.heap.size ≤ g ∨ (g = G_0 ∨ some g = Value.ownBlock V0_0 ∨ some g = Value.ownBlock V0_1 ∨ some g = Value.ownBlock V0_2 ∨ some g = Value.ownBlock V0_3 ∨ some g = Value.ownBlock V0_4), ∃ m69 : ∀ g, Value.ownBlock v66 = some g → w.heap.size ≤ g ∨ (g = G_0 ∨ some g = Value.ownBlock V0_0 ∨ some g = Value.ownBlock V0_1 ∨ some g = Value.ownBlock V0_2 ∨ some g = Value.ownBlock V0_3 ∨ some g = Value.ownBlock V0_4), ∃ m73 : ∀ g, Value.ownBlock v70 = some g → w.heap.size ≤ g ∨ (g = G_0 ∨ some g = Value.ownBlock V0_0 ∨ some g = Value.ownBlock V0_1 ∨ some g = Value.ownBlock V0_2 ∨ some g = Value.ownBlock V0_3 ∨ some g = Value.ownBlock V0_4), ∃ R1_0 : Rd (kI .i64) w' V1_0 a1, OffV v54 v58 ∧ OffV v54 v62 ∧ OffV v58 v62 ∧ OffRV V1_0 a1 v54 ∧ OffRV V1_0 a1 v58 ∧ OffRV V1_0 a1 v62 ∧ OffRV V1_0 a1 v66 ∧ OffRV V1_0 a1 v70 ∧ ρ' 0 = .pointer (some ⟨G_0, 0, none⟩) ∧ ρ' 1 = V1_0 ∧ ρ' 4 = u21 ∧ ρ' 5 = .int .i64 s27.1 ∧ Blk w' G_0 65 [Seg.cell v54 o55.one, Seg.cell v58 o59.one, Seg.cell v62 o63.one, Seg.cell v66 o67.one, Seg.cell v70 o71.one, Seg.cell (.int .i64 s27.2.2.2.2.2.2.1), Seg.cell (.int .i64 s27.2.2.2.2.2.2.2.1), Seg.cell (.int .i64 s27.2.2.2.2.2.2.2.2)] ∧ Fr (fun j => j = G_0 ∨ some j = Value.ownBlock V0_0 ∨ some j = Value.ownBlock V0_1 ∨ some j = Value.ownBlock V0_2 ∨ some j = Value.ownBlock V0_3 ∨ some j = Value.ownBlock V0_4) w w') l29 ?_ ?_
  ·skip
   exact ⟨V0_0, V0_1, V0_2, V0_3, V0_4, o22, O0_0, O0_1, O0_2, O0_3, O0_4, M0_0, M0_1, M0_2, M0_3, M0_4, R1_0, A_R0_0_R0_1, A_R0_0_R0_2, A_R0_1_R0_2, NR1_0_R0_0, NR1_0_R0_1, NR1_0_R0_2, NR1_0_R0_3, NR1_0_R0_4, rfl, rfl, rfl, rfl, b_0, fB⟩
  rintro s27 x84 ρ82 w83 ⟨v54, v58, v62, v66, v70, o22, o55, o59, o63, o67, o71, m57, m61, m65, m69, m73, R1_0, a74, a75, a76, a77, a78, a79, a80, a81, e0, e1, e4, e5, b_0, fB⟩ h
  unfold rickyardref05_Device_Crash.s0 at h
  refine cw_seq ?_
  refine cw_seq ?_
  refine cw_region ?_
  refine ol_val (v := .int .i64 s27.1) (by exact xr_move rfl e5) rfl rfl rfl ?_
  refine ol_val (v := u21) (by exact xr_move rfl e4) rfl rfl rfl ?_
  refine ol_val (v := .int .i64 (List.length t19 : Int)) (by exact xr_lenR rfl Try.underlying52 rfl o22.rd) rfl rfl rfl ?_
  refine ol_val (v := .bool (decide (s27.1 < (List.length t19 : Int)))) (by exact xr_lss rfl rfl rfl) rfl rfl rfl ?_
  refine ol_nil ?_
  rcases is h with ⟨c85, h⟩ | ⟨c85, h⟩
  ·refine cw_condT rfl c85 ?_
   refine cw_skip ?_
   refine cw_seq ?_
   refine cw_block ?_
   refine cw_seq ?_
   refine cw_region ?_
   refine ol_val (v := .int .i64 0) (by exact xr_assign rfl rfl) rfl rfl rfl ?_
   refine ol_nil ?_
   refine cw_seq ?_
   refine cw_seq ?_
   refine cw_region ?_
   refine ol_val (v := .int .i64 s27.1) (by exact xr_move rfl e5) rfl rfl rfl ?_
   refine ol_val (v := V1_0) (by exact xr_move rfl e1) rfl rfl rfl ?_
   refine ol_val (v := .int .i64 (List.length a1 : Int)) (by exact xr_lenR rfl Try.underlying25 rfl R1_0) rfl rfl rfl ?_
   refine ol_val (v := .bool (decide (s27.1 < (List.length a1 : Int)))) (by exact xr_lss rfl rfl rfl) rfl rfl rfl ?_
   refine ol_nil ?_
   obtain ⟨x86, j87, h88⟩ := bs h
   refine cw_mid (fun ρ' w' => ∃ o22 : Own k_api_Fate 55 w' w.heap.size u21 t19, ∃ o55 : Own (kI .u64) 22 w' 0 v54 s27.2.1, ∃ o59 : Own (kI .u64) 22 w' 0 v58 s27.2.2.1, ∃ o63 : Own (kI .u64) 22 w' 0 v62 s27.2.2.2.1, ∃ o67 : Own kB 4 w' 0 v66 s27.2.2.2.2.1, ∃ o71 : Own (kI .i64) 3 w' 0 v70 s27.2.2.2.2.2.1, ∃ m57 : ∀ g, Value.ownBlock v54 = some g → w.heap.size ≤ g ∨ (g = G_0 ∨ some g = Value.ownBlock V0_0 ∨ some g = Value.ownBlock V0_1 ∨ some g = Value.ownBlock V0_2 ∨ some g = Value.ownBlock V0_3 ∨ some g = Value.ownBlock V0_4), ∃ m61 : ∀ g, Value.ownBlock v58 = some g → w.heap.size ≤ g ∨ (g = G_0 ∨ some g = Value.ownBlock V0_0 ∨ some g = Value.ownBlock V0_1 ∨ some g = Value.ownBlock V0_2 ∨ some g = Value.ownBlock V0_3 ∨ some g = Value.ownBlock V0_4), ∃ m65 : ∀ g, Value.ownBlock v62 = some g → w.heap.size ≤ g ∨ (g = G_0 ∨ some g = Value.ownBlock V0_0 ∨ some g = Value.ownBlock V0_1 ∨ some g = Value.ownBlock V0_2 ∨ some g = Value.ownBlock V0_3 ∨ some g = Value.ownBlock V0_4), ∃ m69 : ∀ g, Value.ownBlock v66 = some g → w.heap.size ≤ g ∨ (g = G_0 ∨ some g = Value.ownBlock V0_0 ∨ some g = Value.ownBlock V0_1 ∨ some g = Value.ownBlock V0_2 ∨ some g = Value.ownBlock V0_3 ∨ some g = Value.ownBlock V0_4), ∃ m73 : ∀ g, Value.ownBlock v70 = some g → w.heap.size ≤ g ∨ (g = G_0 ∨ some g = Value.ownBlock V0_0 ∨ some g = Value.ownBlock V0_1 ∨ some g = Value.ownBlock V0_2 ∨ some g = Value.ownBlock V0_3 ∨ some g = Value.ownBlock V0_4), ∃ R1_0 : Rd (kI .i64) w' V1_0 a1, ρ' 0 = .pointer (some ⟨G_0, 0, none⟩) ∧ ρ' 1 = V1_0 ∧ ρ' 4 = u21 ∧ ρ' 5 = .int .i64 s27.1 ∧ ρ' 6 = .int .i64 x86 ∧ Blk w' G_0 65 [Seg.cell v54 o55.one, Seg.cell v58 o59.one, Seg.cell v62 o63.one, Seg.cell v66 o67.one, Seg.cell v70 o71.one, Seg.cell (.int .i64 s27.2.2.2.2.2.2.1), Seg.cell (.int .i64 s27.2.2.2.2.2.2.2.1), Seg.cell (.int .i64 s27.2.2.2.2.2.2.2.2)] ∧ Fr (fun j => j = G_0 ∨ some j = Value.ownBlock V0_0 ∨ some j = Value.ownBlock V0_1 ∨ some j = Value.ownBlock V0_2 ∨ some j = Value.ownBlock V0_3 ∨ some j = Value.ownBlock V0_4) w w') ?_ ?_
   ·have h := j87
    rcases is h with ⟨c89, h⟩ | ⟨c89, h⟩
    ·refine cw_condT rfl c89 ?_
     refine cw_region ?_
     refine ol_val (v := V1_0) (by exact xr_move rfl e1) rfl rfl rfl ?_
     refine ol_val (v := .int .i64 s27.1) (by exact xr_move rfl e5) rfl rfl rfl ?_
     obtain ⟨g90, h⟩ := gs h
     refine ol_val (v := .pointer (some ⟨(sb V1_0), so V1_0 + Int.toNat s27.1 * 1, none⟩)) (by exact xr_indexR (K := (kI .i64)) (v := V1_0) rfl Try.underlying25 sz3 rfl R1_0 rfl g90.1 g90.2) rfl rfl rfl ?_
     refine ol_val (v := .int .i64 (ix a1 s27.1)) (by exact xr_load1 (v := .int .i64 (ix a1 s27.1)) rfl ag3 rfl (R1_0.elem g90.1 g90.2)) rfl rfl rfl ?_
     refine ol_val (v := .int .i64 (ix a1 s27.1)) (by exact xr_assign rfl rfl) rfl rfl rfl ?_
     refine ol_nil ?_
     obtain rfl := Option.some.inj h
     refine thn_i ?_
     exact ⟨o22, o55, o59, o63, o67, o71, m57, m61, m65, m69, m73, R1_0, e0, e1, e4, e5, rfl, b_0, fB⟩
    refine cw_condF rfl c89 ?_
    refine cw_skip ?_
    obtain rfl := Option.some.inj h
    refine thn_i ?_
    exact ⟨o22, o55, o59, o63, o67, o71, m57, m61, m65, m69, m73, R1_0, e0, e1, e4, e5, rfl, b_0, fB⟩
   rintro ρ91 w92 ⟨o22, o55, o59, o63, o67, o71, m57, m61, m65, m69, m73, R1_0, e0, e1, e4, e5, e6, b_0, fB⟩
   have h := h88
   obtain ⟨g93, h⟩ := gs h
   obtain ⟨g94, h⟩ := gs h
   obtain ⟨t95, k96, h⟩ := bs h
   refine cw_drawL 12 [fun vz wz => vz = (.pointer (some ⟨G_0, 0, none⟩) : Value), fun vz wz => vz = (u21 : Value), fun vz wz => vz = (.int .i64 s27.1 : Value), fun vz wz => vz = (.pointer (some ⟨(sb u21), so u21 + Int.toNat s27.1 * 5, none⟩) : Value), fun vz wz => vz = (.pointer (some ⟨(sb u21), so u21 + Int.toNat s27.1 * 5 + 0, none⟩) : Value), fun vz wz => vz = (.int .i64 ((ix t19 s27.1).At) : Value), fun vz wz => vz = (u21 : Value), fun vz wz => vz = (.int .i64 s27.1 : Value), fun vz wz => vz = (.pointer (some ⟨(sb u21), so u21 + Int.toNat s27.1 * 5, none⟩) : Value), fun vz wz => vz = (aggV [Seg.cell (.int .i64 ((ix t19 s27.1).At)), Seg.cell (.int .u64 ((ix t19 s27.1).Lasts)), Seg.cell (.bool ((ix t19 s27.1).Flushed)), Seg.cell (.int .u64 ((ix t19 s27.1).Sent)), Seg.cell (.int .u64 ((ix t19 s27.1).Stored))] : Value), fun vz wz => vz = (.int .i64 x86 : Value), fun vz wz => vz = (.int .u64 t95 : Value)] mo rfl ⟨fun _ _ _ h _ => h, fun _ _ _ h _ => h, fun _ _ _ h _ => h, fun _ _ _ h _ => h, fun _ _ _ h _ => h, fun _ _ _ h _ => h, fun _ _ _ h _ => h, fun _ _ _ h _ => h, fun _ _ _ h _ => h, fun _ _ _ h _ => h, fun _ _ _ h _ => h, fun _ _ _ h _ => h, trivial⟩ ?_ ?_
   ·refine ⟨?_, ?_, ?_, ?_, ?_, ?_, ?_, ?_, ?_, ?_, ?_, ?_, trivial⟩
    ·intro ρz wz hz hk hd
     exact sk_val (v := .pointer (some ⟨G_0, 0, none⟩)) (by exact xr_move rfl ((hk 0 rfl).trans e0)) rfl rfl
    ·intro ρz wz hz hk hd
     exact sk_val (v := u21) (by exact xr_move rfl ((hk 4 rfl).trans e4)) rfl rfl
    ·intro ρz wz hz hk hd
     exact sk_val (v := .int .i64 s27.1) (by exact xr_move rfl ((hk 5 rfl).trans e5)) rfl rfl
    ·intro ρz wz hz hk hd
     have d25 := hd 1 rfl 25 rfl
     have d26 := hd 2 rfl 26 rfl
     exact sk_val (by exact xr_indexR (K := k_api_Fate) (v := u21) rfl Try.underlying52 sz55 d25 (o22.gr hz).rd d26 g93.1 g93.2) rfl rfl
    ·intro ρz wz hz hk hd
     have d27 := hd 3 rfl 27 rfl
     exact sk_val (by exact xr_fieldAddr (p := so u21 + Int.toNat s27.1 * 5) (q := 0) rfl fl55_0 d27) rfl rfl
    ·intro ρz wz hz hk hd
     have d28 := hd 4 rfl 28 rfl
     exact sk_val (v := .int .i64 ((ix t19 s27.1).At)) (by exact xr_load1 (v := .int .i64 ((ix t19 s27.1).At)) rfl ag3 d28 (At.segs (ss := segs_api_Fate (ix t19 s27.1)) ((o22.gr hz).rd.elem g93.1 g93.2) 0 1 rfl)) rfl rfl
    ·intro ρz wz hz hk hd
     exact sk_val (v := u21) (by exact xr_move rfl ((hk 4 rfl).trans e4)) rfl rfl
    ·intro ρz wz hz hk hd
     exact sk_val (v := .int .i64 s27.1) (by exact xr_move rfl ((hk 5 rfl).trans e5)) rfl rfl
    ·intro ρz wz hz hk hd
     have d30 := hd 6 rfl 30 rfl
     have d31 := hd 7 rfl 31 rfl
     exact sk_val (by exact xr_indexR (K := k_api_Fate) (v := u21) rfl Try.underlying52 sz55 d30 (o22.gr hz).rd d31 g94.1 g94.2) rfl rfl
    ·intro ρz wz hz hk hd
     have d32 := hd 8 rfl 32 rfl
     exact sk_val (by exact xr_loadS (ss := [Seg.cell (.int .i64 ((ix t19 s27.1).At)), Seg.cell (.int .u64 ((ix t19 s27.1).Lasts)), Seg.cell (.bool ((ix t19 s27.1).Flushed)), Seg.cell (.int .u64 ((ix t19 s27.1).Sent)), Seg.cell (.int .u64 ((ix t19 s27.1).Stored))]) rfl ag55 sz55 rfl d32 ((o22.gr hz).rd.elem g94.1 g94.2)) rfl rfl
    ·intro ρz wz hz hk hd
     exact sk_val (v := .int .i64 x86) (by exact xr_move rfl ((hk 6 rfl).trans e6)) rfl rfl
    intro ρz wz hz hk hd
    have d33 := hd 9 rfl 33 rfl
    have d34 := hd 10 rfl 34 rfl
    refine sk_op (by exact opv_call rfl cal42 (ac d33 (ac d34 an)) (rickyardref05_Value.ok fu _ (ix t19 s27.1) x86 _ k96)) rfl ?_
    rintro _ wy ⟨rfl, q97⟩
    exact ⟨rfl, q97⟩
   intro ρ98 w99 q100 hk hd
   have e0 := (hk 0 rfl).trans e0
   have e1 := (hk 1 rfl).trans e1
   have e4 := (hk 4 rfl).trans e4
   have e5 := (hk 5 rfl).trans e5
   have e24 := hd 0 rfl 24 rfl
   have e29 := hd 5 rfl 29 rfl
   have e35 := hd 11 rfl 35 rfl
   have b_0 := b_0.gr q100
   have o22 := o22.gr q100
   have o55 := o55.gr q100
   have o59 := o59.gr q100
   have o63 := o63.gr q100
   have o67 := o67.gr q100
   have o71 := o71.gr q100
   have R1_0 := R1_0.gr q100
   have fB := fB.gr q100
   obtain ⟨t101, k102, h⟩ := bs h
   have f127 := (vo_or (vo_eq (off_ty b_0 o22 (by decide))) (vo_or (vo_own (OffV.ty o22 o55 (by decide))) (vo_or (vo_own (OffV.ty o22 o59 (by decide))) (vo_or (vo_own (OffV.ty o22 o63 (by decide))) (vo_or (vo_own (OffV.ty o22 o67 (by decide))) (vo_own (OffV.ty o22 o71 (by decide))))))))
   have f128 := (ro_or (ro_eq NR1_0_P0) (ro_or (ro_own a77) (ro_or (ro_own a78) (ro_or (ro_own a79) (ro_or (ro_own a80) (ro_own a81))))))
   have c129 : ∀ k, (k = G_0 ∨ some k = Value.ownBlock v54 ∨ some k = Value.ownBlock v58 ∨ some k = Value.ownBlock v62 ∨ some k = Value.ownBlock v66 ∨ some k = Value.ownBlock v70) → (w.heap.size ≤ k ∨ (k = G_0 ∨ some k = Value.ownBlock V0_0 ∨ some k = Value.ownBlock V0_1 ∨ some k = Value.ownBlock V0_2 ∨ some k = Value.ownBlock V0_3 ∨ some k = Value.ownBlock V0_4)) := (cv_or (cv_eq (.inr (.inl rfl))) (cv_or (cv_own m57) (cv_or (cv_own m61) (cv_or (cv_own m65) (cv_or (cv_own m69) (cv_own m73))))))
   refine ol_op (by exact opv_call rfl cal126 (ac e24 (ac e29 (ac e35 an))) (rickyardref05_Device_last.ok fu _ (⟨s27.2.1, s27.2.2.1, s27.2.2.2.1, s27.2.2.2.2.1, s27.2.2.2.2.2.1, s27.2.2.2.2.2.2.1, s27.2.2.2.2.2.2.2.1, s27.2.2.2.2.2.2.2.2⟩ : S_rickyardref05_Device) G_0 v54 (Own.base o55 (Nat.zero_le _)) v58 (Own.base o59 (Nat.zero_le _)) v62 (Own.base o63 (Nat.zero_le _)) v66 (Own.base o67 (Nat.zero_le _)) v70 (Own.base o71 (Nat.zero_le _)) b_0 ((ix t19 s27.1).At) t95 a74 a75 a76 _ k102)) rfl rfl rfl ?_
   rintro _ w130 ⟨u104, u108, u112, u116, u120, o105, m106, o109, m110, o113, m114, o117, m118, o121, m122, a124, a125, a126, rfl, b_0, q103⟩
   have a131 := orv_new R1_0 rfl f128 m106
   have a132 := orv_new R1_0 rfl f128 m110
   have a133 := orv_new R1_0 rfl f128 m114
   have a134 := orv_new R1_0 rfl f128 m118
   have a135 := orv_new R1_0 rfl f128 m122
   have m106 : ∀ g, Value.ownBlock u104 = some g → w.heap.size ≤ g ∨ (g = G_0 ∨ some g = Value.ownBlock V0_0 ∨ some g = Value.ownBlock V0_1 ∨ some g = Value.ownBlock V0_2 ∨ some g = Value.ownBlock V0_3 ∨ some g = Value.ownBlock V0_4) := fun g hg => (m106 g hg).elim (fun x => .inl (Nat.le_trans fB.size x)) (c129 g)
   have m110 : ∀ g, Value.ownBlock u108 = some g → w.heap.size ≤ g ∨ (g = G_0 ∨ some g = Value.ownBlock V0_0 ∨ some g = Value.ownBlock V0_1 ∨ some g = Value.ownBlock V0_2 ∨ some g = Value.ownBlock V0_3 ∨ some g = Value.ownBlock V0_4) := fun g hg => (m110 g hg).elim (fun x => .inl (Nat.le_trans fB.size x)) (c129 g)
   have m114 : ∀ g, Value.ownBlock u112 = some g → w.heap.size ≤ g ∨ (g = G_0 ∨ some g = Value.ownBlock V0_0 ∨ some g = Value.ownBlock V0_1 ∨ some g = Value.ownBlock V0_2 ∨ some g = Value.ownBlock V0_3 ∨ some g = Value.ownBlock V0_4) := fun g hg => (m114 g hg).elim (fun x => .inl (Nat.le_trans fB.size x)) (c129 g)
   have m118 : ∀ g, Value.ownBlock u116 = some g → w.heap.size ≤ g ∨ (g = G_0 ∨ some g = Value.ownBlock V0_0 ∨ some g = Value.ownBlock V0_1 ∨ some g = Value.ownBlock V0_2 ∨ some g = Value.ownBlock V0_3 ∨ some g = Value.ownBlock V0_4) := fun g hg => (m118 g hg).elim (fun x => .inl (Nat.le_trans fB.size x)) (c129 g)
   have m122 : ∀ g, Value.ownBlock u120 = some g → w.heap.size ≤ g ∨ (g = G_0 ∨ some g = Value.ownBlock V0_0 ∨ some g = Value.ownBlock V0_1 ∨ some g = Value.ownBlock V0_2 ∨ some g = Value.ownBlock V0_3 ∨ some g = Value.ownBlock V0_4) := fun g hg => (m122 g hg).elim (fun x => .inl (Nat.le_trans fB.size x)) (c129 g)
   have o22 := o22.fr q103 f127
   have R1_0 := R1_0.fr q103 f128
   have fB := fB.call q103 c129
   refine ol_nil ?_
   refine blk_i ?_
   refine cw_region ?_
   refine ol_val (v := .int .i64 s27.1) (by exact xr_move rfl e5) rfl rfl rfl ?_
   refine ol_val (v := .int .i64 (IntKind.i64.wrap (s27.1 + 1))) (by exact xr_add rfl rfl rfl) rfl rfl rfl ?_
   refine ol_val (v := .int .i64 (IntKind.i64.wrap (s27.1 + 1))) (by exact xr_assign rfl rfl) rfl rfl rfl ?_
   refine ol_nil ?_
   obtain rfl := Option.some.inj h
   refine lp_in ?_
   exact ⟨u104, u108, u112, u116, u120, o22, o105, o109, o113, o117, o121, m106, m110, m114, m118, m122, R1_0, a124, a125, a126, a131, a132, a133, a134, a135, e0, e1, e4, rfl, b_0, fB⟩
  refine cw_condF rfl c85 ?_
  refine cw_exit ?_
  repeat (first | with_reducible refine thn_e ?_ | with_reducible refine blk_e rfl ?_)
  obtain rfl := Option.some.inj h
  refine lp_exit ?_
  rintro rfl
  refine thn_x ?_
  exact ⟨v54, v58, v62, v66, v70, o55, o59, o63, o67, o71, m57, m61, m65, m69, m73, a74, a75, a76, e0, b_0, fB⟩
 rintro ρ136 w137 ⟨v31, v35, v39, v43, v47, o32, o36, o40, o44, o48, m34, m38, m42, m46, m50, a51, a52, a53, e0, b_0, fB⟩
 have h := h30
 refine cw_seq ?_
 refine cw_seq ?_
 refine cw_region ?_
 refine ol_val (v := .int .i64 0) (by exact xr_assign rfl rfl) rfl rfl rfl ?_
 refine ol_nil ?_
 obtain ⟨e139, l140, h141⟩ := bs h
 refine cw_mid (fun ρ' w' => ∃ o32 : Own (kI .u64) 22 w' 0 v31 e28.1, ∃ o36 : Own (kI .u64) 22 w' 0 v35 e139, ∃ o40 : Own (kI .u64) 22 w' 0 v39 e28.2.2.1, ∃ o44 : Own kB 4 w' 0 v43 e28.2.2.2.1, ∃ o48 : Own (kI .i64) 3 w' 0 v47 e28.2.2.2.2.1, ∃ m34 : ∀ g, Value.ownBlock v31 = some g → w.heap.size ≤ g ∨ (g = G_0 ∨ some g = Value.ownBlock V0_0 ∨ some g = Value.ownBlock V0_1 ∨ some g = Value.ownBlock V0_2 ∨ some g = Value.ownBlock V0_3 ∨ some g = Value.ownBlock V0_4), ∃ m38 : ∀ g, Value.ownBlock v35 = some g → w.heap.size ≤ g ∨ (g = G_0 ∨ some g = Value.ownBlock V0_0 ∨ some g = Value.ownBlock V0_1 ∨ some g = Value.ownBlock V0_2 ∨ some g = Value.ownBlock V0_3 ∨ some g = Value.ownBlock V0_4), ∃ m42 : ∀ g, Value.ownBlock v39 = some g → w.heap.size ≤ g ∨ (g = G_0 ∨ some g = Value.ownBlock V0_0 ∨ some g = Value.ownBlock V0_1 ∨ some g = Value.ownBlock V0_2 ∨ some g = Value.ownBlock V0_3 ∨ some g = Value.ownBlock V0_4), ∃ m46 : ∀ g, Value.ownBlock v43 = some g → w.heap.size ≤ g ∨ (g = G_0 ∨ some g = Value.ownBlock V0_0 ∨ some g = Value.ownBlock V0_1 ∨ some g = Value.ownBlock V0_2 ∨ some g = Value.ownBlock V0_3 ∨ some g = Value.ownBlock V0_4), ∃ m50 : ∀ g, Value.ownBlock v47 = some g → w.heap.size ≤ g ∨ (g = G_0 ∨ some g = Value.ownBlock V0_0 ∨ some g = Value.ownBlock V0_1 ∨ some g = Value.ownBlock V0_2 ∨ some g = Value.ownBlock V0_3 ∨ some g = Value.ownBlock V0_4), ρ' 0 = .pointer (some ⟨G_0, 0, none⟩) ∧ Blk w' G_0 65 [Seg.cell v31 o32.one, Seg.cell v35 o36.one, Seg.cell v39 o40.one, Seg.cell v43 o44.one, Seg.cell v47 o48.one, Seg.cell (.int .i64 e28.2.2.2.2.2.1), Seg.cell (.int .i64 e28.2.2.2.2.2.2.1), Seg.cell (.int .i64 e28.2.2.2.2.2.2.2)] ∧ Fr (fun j => j = G_0 ∨ some j = Value.ownBlock V0_0 ∨ some j = Value.ownBlock V0_1 ∨ some j = Value.ownBlock V0_2 ∨ some j = Value.ownBlock V0_3 ∨ some j = Value.ownBlock V0_4) w w') ?_ ?_
 ·refine cw_block ?_
  refine cw_round (fun (s138 : Int × (List Int)) ρ' w' => ∃ o32 : Own (kI .u64) 22 w' 0 v31 e28.1, ∃ o36 : Own (kI .u64) 22 w' 0 v35 s138.2, ∃ o40 : Own (kI .u64) 22 w' 0 v39 e28.2.2.1, ∃ o44 : Own kB 4 w' 0 v43 e28.2.2.2.1, ∃ o48 : Own (kI .i64) 3 w' 0 v47 e28.2.2.2.2.1, ∃ m34 : ∀ g, Value.ownBlock v31 = some g → w.heap.size ≤ g ∨ (g = G_0 ∨ some g = Value.ownBlock V0_0 ∨ some g = Value.ownBlock V0_1 ∨ some g = Value.ownBlock V0_2 ∨ some g = Value.ownBlock V0_3 ∨ some g = Value.ownBlock V0_4), ∃ m38 : ∀ g, Value.ownBlock v35 = some g → w.heap.size ≤ g ∨ (g = G_0 ∨ some g = Value.ownBlock V0_0 ∨ some g = Value.ownBlock V0_1 ∨ some g = Value.ownBlock V0_2 ∨ some g = Value.ownBlock V0_3 ∨ some g = Value.ownBlock V0_4), ∃ m42 : ∀ g, Value.ownBlock v39 = some g → w.heap.size ≤ g ∨ (g = G_0 ∨ some g = Value.ownBlock V0_0 ∨ some g = Value.ownBlock V0_1 ∨ some g = Value.ownBlock V0_2 ∨ some g = Value.ownBlock V0_3 ∨ some g = Value.ownBlock V0_4), ∃ m46 : ∀ g, Value.ownBlock v43 = some g → w.heap.size ≤ g ∨ (g = G_0 ∨ some g = Value.ownBlock V0_0 ∨ some g = Value.ownBlock V0_1 ∨ some g = Value.ownBlock V0_2 ∨ some g = Value.ownBlock V0_3 ∨ some g = Value.ownBlock V0_4), ∃ m50 : ∀ g, Value.ownBlock v47 = some g → w.heap.size ≤ g ∨ (g = G_0 ∨ some g = Value.ownBlock V0_0 ∨ some g = Value.ownBlock V0_1 ∨ some g = Value.ownBlock V0_2 ∨ some g = Value.ownBlock V0_3 ∨ some g = Value.ownBlock V0_4), ρ' 0 = .pointer (some ⟨G_0, 0, none⟩) ∧ ρ' 7 = .int .i64 s138.1 ∧ Blk w' G_0 65 [Seg.cell v31 o32.one, Seg.cell v35 o36.one, Seg.cell v39 o40.one, Seg.cell v43 o44.one, Seg.cell v47 o48.one, Seg.cell (.int .i64 e28.2.2.2.2.2.1), Seg.cell (.int .i64 e28.2.2.2.2.2.2.1), Seg.cell (.int .i64 e28.2.2.2.2.2.2.2)] ∧ Fr (fun j => j = G_0 ∨ some j = Value.ownBlock V0_0 ∨ some j = Value.ownBlock V0_1 ∨ some j = Value.ownBlock V0_2 ∨ some j = Value.ownBlock V0_3 ∨ some j = Value.ownBlock V0_4) w w') l140 ?_ ?_
  ·skip
   exact ⟨o32, o36, o40, o44, o48, m34, m38, m42, m46, m50, e0, rfl, b_0, fB⟩
  rintro s138 x144 ρ142 w143 ⟨o32, o36, o40, o44, o48, m34, m38, m42, m46, m50, e0, e7, b_0, fB⟩ h
  unfold rickyardref05_Device_Crash.s1 at h
  refine cw_seq ?_
  refine cw_seq ?_
  refine cw_region ?_
  refine ol_val (v := .int .i64 s138.1) (by exact xr_move rfl e7) rfl rfl rfl ?_
  refine ol_val (v := .pointer (some ⟨G_0, 0, none⟩)) (by exact xr_move rfl e0) rfl rfl rfl ?_
  refine ol_val (v := .pointer (some ⟨G_0, 0, none⟩)) (by exact xr_nilCheck rfl rfl) rfl rfl rfl ?_
  refine ol_val (v := .pointer (some ⟨G_0, 0, none⟩)) (by exact xr_fieldAddr (p := 0) (q := 0) rfl fl65_0 rfl) rfl rfl rfl ?_
  refine ol_val (v := v31) (by exact xr_load1 (v := v31) rfl ag46 rfl (b_0.seg 0 rfl rfl)) rfl rfl rfl ?_
  refine ol_val (v := .int .i64 (List.length e28.1 : Int)) (by exact xr_lenR rfl Try.underlying46 rfl o32.rd) rfl rfl rfl ?_
  refine ol_val (v := .bool (decide (s138.1 < (List.length e28.1 : Int)))) (by exact xr_lss rfl rfl rfl) rfl rfl rfl ?_
  refine ol_nil ?_
  rcases is h with ⟨c145, h⟩ | ⟨c145, h⟩
  ·refine cw_condT rfl c145 ?_
   refine cw_skip ?_
   refine cw_seq ?_
   refine cw_block ?_
   obtain ⟨g146, h⟩ := gs h
   refine cw_drawL 12 [fun vz wz => vz = (.pointer (some ⟨G_0, 0, none⟩) : Value), fun vz wz => vz = (.pointer (some ⟨G_0, 0, none⟩) : Value), fun vz wz => vz = (.pointer (some ⟨G_0, 1, none⟩) : Value), fun vz wz => vz = (v35 : Value), fun vz wz => vz = (.int .i64 s138.1 : Value), fun vz wz => vz = (.pointer (some ⟨G_0, 0, none⟩) : Value), fun vz wz => vz = (.pointer (some ⟨G_0, 0, none⟩) : Value), fun vz wz => vz = (.pointer (some ⟨G_0, 0, none⟩) : Value), fun vz wz => vz = (v31 : Value), fun vz wz => vz = (.int .i64 s138.1 : Value), fun vz wz => vz = (.pointer (some ⟨(sb v31), so v31 + Int.toNat s138.1 * 1, none⟩) : Value), fun vz wz => vz = (.int .u64 (ix e28.1 s138.1) : Value)] mo rfl ⟨fun _ _ _ h _ => h, fun _ _ _ h _ => h, fun _ _ _ h _ => h, fun _ _ _ h _ => h, fun _ _ _ h _ => h, fun _ _ _ h _ => h, fun _ _ _ h _ => h, fun _ _ _ h _ => h, fun _ _ _ h _ => h, fun _ _ _ h _ => h, fun _ _ _ h _ => h, fun _ _ _ h _ => h, trivial⟩ ?_ ?_
   ·refine ⟨?_, ?_, ?_, ?_, ?_, ?_, ?_, ?_, ?_, ?_, ?_, ?_, trivial⟩
    ·intro ρz wz hz hk hd
     exact sk_val (v := .pointer (some ⟨G_0, 0, none⟩)) (by exact xr_move rfl ((hk 0 rfl).trans e0)) rfl rfl
    ·intro ρz wz hz hk hd
     have d46 := hd 0 rfl 46 rfl
     exact sk_val (v := .pointer (some ⟨G_0, 0, none⟩)) (by exact xr_nilCheck rfl d46) rfl rfl
    ·intro ρz wz hz hk hd
     have d47 := hd 1 rfl 47 rfl
     exact sk_val (v := .pointer (some ⟨G_0, 1, none⟩)) (by exact xr_fieldAddr (p := 0) (q := 1) rfl fl65_1 d47) rfl rfl
    ·intro ρz wz hz hk hd
     have d48 := hd 2 rfl 48 rfl
     exact sk_val (v := v35) (by exact xr_load1 (v := v35) rfl ag46 d48 ((b_0.gr hz).seg 1 rfl rfl)) rfl rfl
    ·intro ρz wz hz hk hd
     exact sk_val (v := .int .i64 s138.1) (by exact xr_move rfl ((hk 7 rfl).trans e7)) rfl rfl
    ·intro ρz wz hz hk hd
     exact sk_val (v := .pointer (some ⟨G_0, 0, none⟩)) (by exact xr_move rfl ((hk 0 rfl).trans e0)) rfl rfl
    ·intro ρz wz hz hk hd
     have d51 := hd 5 rfl 51 rfl
     exact sk_val (v := .pointer (some ⟨G_0, 0, none⟩)) (by exact xr_nilCheck rfl d51) rfl rfl
    ·intro ρz wz hz hk hd
     have d52 := hd 6 rfl 52 rfl
     exact sk_val (v := .pointer (some ⟨G_0, 0, none⟩)) (by exact xr_fieldAddr (p := 0) (q := 0) rfl fl65_0 d52) rfl rfl
    ·intro ρz wz hz hk hd
     have d53 := hd 7 rfl 53 rfl
     exact sk_val (v := v31) (by exact xr_load1 (v := v31) rfl ag46 d53 ((b_0.gr hz).seg 0 rfl rfl)) rfl rfl
    ·intro ρz wz hz hk hd
     exact sk_val (v := .int .i64 s138.1) (by exact xr_move rfl ((hk 7 rfl).trans e7)) rfl rfl
    ·intro ρz wz hz hk hd
     have d54 := hd 8 rfl 54 rfl
     have d55 := hd 9 rfl 55 rfl
     exact sk_val (by exact xr_indexR (K := (kI .u64)) (v := v31) rfl Try.underlying46 sz22 d54 (o32.gr hz).rd d55 g146.1 g146.2) rfl rfl
    intro ρz wz hz hk hd
    have d56 := hd 10 rfl 56 rfl
    exact sk_val (v := .int .u64 (ix e28.1 s138.1)) (by exact xr_load1 (v := .int .u64 (ix e28.1 s138.1)) rfl ag22 d56 ((o32.gr hz).rd.elem g146.1 g146.2)) rfl rfl
   intro ρ147 w148 q149 hk hd
   have e0 := (hk 0 rfl).trans e0
   have e7 := (hk 7 rfl).trans e7
   have e49 := hd 3 rfl 49 rfl
   have e50 := hd 4 rfl 50 rfl
   have e57 := hd 11 rfl 57 rfl
   have b_0 := b_0.gr q149
   have o32 := o32.gr q149
   have o36 := o36.gr q149
   have o40 := o40.gr q149
   have o44 := o44.gr q149
   have o48 := o48.gr q149
   have fB := fB.gr q149
   obtain ⟨g150, h⟩ := gs h
   refine ol_val (v := .pointer (some ⟨(sb v35), so v35 + Int.toNat s138.1 * 1, none⟩)) (by exact xr_indexR (K := (kI .u64)) (v := v35) rfl Try.underlying46 sz22 e49 o36.rd e50 g150.1 g150.2) rfl rfl rfl ?_
   have f152 := off_ty b_0 o36 (by decide)
   have f153 := a51
   have f154 := a53.symm
   have f155 := OffV.ty o44 o36 (by decide)
   have f156 := OffV.ty o48 o36 (by decide)
   refine ol_op0 (by exact opv_storeRow (z := (ix e28.1 s138.1)) (xs := cellsOf [Seg.cell (.int .u64 (ix e28.1 s138.1))]) rfl sz22 rfl e57 rfl (len_cellsOf _) (one_cellsOf _) o36 g150.1 g150.2 (Spl.whole ((Kd.len _ _).trans (Kd.len _ _).symm)) rfl) rfl rfl ?_
   rintro _ w158 ⟨o36, q151⟩
   have b_0 := b_0.wrO q151 f152
   have o32 := o32.wrV q151 f153
   have o40 := o40.wrV q151 f154
   have o44 := o44.wrV q151 f155
   have o48 := o48.wrV q151 f156
   have fB := fB.wrM q151 m38
   refine ol_nil ?_
   refine blk_i ?_
   refine cw_region ?_
   refine ol_val (v := .int .i64 s138.1) (by exact xr_move rfl e7) rfl rfl rfl ?_
   refine ol_val (v := .int .i64 (IntKind.i64.wrap (s138.1 + 1))) (by exact xr_add rfl rfl rfl) rfl rfl rfl ?_
   refine ol_val (v := .int .i64 (IntKind.i64.wrap (s138.1 + 1))) (by exact xr_assign rfl rfl) rfl rfl rfl ?_
   refine ol_nil ?_
   obtain rfl := Option.some.inj h
   refine lp_in ?_
   exact ⟨o32, o36, o40, o44, o48, m34, m38, m42, m46, m50, e0, rfl, b_0, fB⟩
  refine cw_condF rfl c145 ?_
  refine cw_exit ?_
  repeat (first | with_reducible refine thn_e ?_ | with_reducible refine blk_e rfl ?_)
  obtain rfl := Option.some.inj h
  refine lp_exit ?_
  rintro rfl
  refine thn_x ?_
  exact ⟨o32, o36, o40, o44, o48, m34, m38, m42, m46, m50, e0, b_0, fB⟩
 rintro ρ159 w160 ⟨o32, o36, o40, o44, o48, m34, m38, m42, m46, m50, e0, b_0, fB⟩
 have h := h141
 refine cw_seq ?_
 refine cw_region ?_
 refine ol_val (v := .pointer (some ⟨G_0, 0, none⟩)) (by exact xr_move rfl e0) rfl rfl rfl ?_
 refine ol_val (v := .pointer (some ⟨G_0, 0, none⟩)) (by exact xr_nilCheck rfl rfl) rfl rfl rfl ?_
 refine ol_val (v := .pointer (some ⟨G_0, 6, none⟩)) (by exact xr_fieldAddr (p := 0) (q := 6) rfl fl65_6 rfl) rfl rfl rfl ?_
 have f162 := off_ty b_0 o32 (by decide)
 have f163 := off_ty b_0 o36 (by decide)
 have f164 := off_ty b_0 o40 (by decide)
 have f165 := off_ty b_0 o44 (by decide)
 have f166 := off_ty b_0 o48 (by decide)
 refine ol_op0 (by exact opv_store (ss' := [Seg.cell v31 o32.one, Seg.cell v35 o36.one, Seg.cell v39 o40.one, Seg.cell v43 o44.one, Seg.cell v47 o48.one, Seg.cell (.int .i64 e28.2.2.2.2.2.1), Seg.cell (.int .i64 (-1)), Seg.cell (.int .i64 e28.2.2.2.2.2.2.2)]) (xs := cellsOf [Seg.cell (.int .i64 (-1))]) rfl sz3 rfl rfl rfl (len_cellsOf _) (one_cellsOf _) b_0 (Spl.segs _ 6 1 [Seg.cell (.int .i64 (-1))] rfl rfl)) rfl rfl ?_
 rintro _ w167 ⟨b_0, q161⟩
 have o32 := o32.wr q161 f162
 have o36 := o36.wr q161 f163
 have o40 := o40.wr q161 f164
 have o44 := o44.wr q161 f165
 have o48 := o48.wr q161 f166
 have fB := fB.wrS q161 (.inl rfl)
 refine ol_nil ?_
 refine cw_seq ?_
 refine cw_region ?_
 refine ol_val (v := .pointer (some ⟨G_0, 0, none⟩)) (by exact xr_move rfl e0) rfl rfl rfl ?_
 refine ol_val (v := .pointer (some ⟨G_0, 0, none⟩)) (by exact xr_nilCheck rfl rfl) rfl rfl rfl ?_
 refine ol_val (v := .pointer (some ⟨G_0, 4, none⟩)) (by exact xr_fieldAddr (p := 0) (q := 4) rfl fl65_4 rfl) rfl rfl rfl ?_
 have f169 := off_ty b_0 o32 (by decide)
 have f170 := off_ty b_0 o36 (by decide)
 have f171 := off_ty b_0 o40 (by decide)
 have f172 := off_ty b_0 o44 (by decide)
 refine ol_op0 (by exact opv_store (ss' := [Seg.cell v31 o32.one, Seg.cell v35 o36.one, Seg.cell v39 o40.one, Seg.cell v43 o44.one, Seg.cell (.slice none 0 0) (by rfl), Seg.cell (.int .i64 e28.2.2.2.2.2.1), Seg.cell (.int .i64 (-1)), Seg.cell (.int .i64 e28.2.2.2.2.2.2.2)]) (xs := cellsOf [Seg.cell (.slice none 0 0) (by rfl)]) rfl sz25 rfl rfl (cells_one rfl) (len_cellsOf _) (one_cellsOf _) b_0 (Spl.segs _ 4 1 [Seg.cell (.slice none 0 0) (by rfl)] rfl rfl)) rfl rfl ?_
 rintro _ w173 ⟨b_0, q168⟩
 have o32 := o32.wr q168 f169
 have o36 := o36.wr q168 f170
 have o40 := o40.wr q168 f171
 have o44 := o44.wr q168 f172
 have fB := fB.wrS q168 (.inl rfl)
 refine ol_nil ?_
 refine cw_region ?_
 refine ol_val (v := .pointer (some ⟨G_0, 0, none⟩)) (by exact xr_move rfl e0) rfl rfl rfl ?_
 refine ol_val (v := .pointer (some ⟨G_0, 0, none⟩)) (by exact xr_nilCheck rfl rfl) rfl rfl rfl ?_
 refine ol_val (v := .pointer (some ⟨G_0, 5, none⟩)) (by exact xr_fieldAddr (p := 0) (q := 5) rfl fl65_5 rfl) rfl rfl rfl ?_
 have f175 := off_ty b_0 o32 (by decide)
 have f176 := off_ty b_0 o36 (by decide)
 have f177 := off_ty b_0 o40 (by decide)
 have f178 := off_ty b_0 o44 (by decide)
 refine ol_op0 (by exact opv_store (ss' := [Seg.cell v31 o32.one, Seg.cell v35 o36.one, Seg.cell v39 o40.one, Seg.cell v43 o44.one, Seg.cell (.slice none 0 0) (by rfl), Seg.cell (.int .i64 0), Seg.cell (.int .i64 (-1)), Seg.cell (.int .i64 e28.2.2.2.2.2.2.2)]) (xs := cellsOf [Seg.cell (.int .i64 0)]) rfl sz3 rfl rfl rfl (len_cellsOf _) (one_cellsOf _) b_0 (Spl.segs _ 5 1 [Seg.cell (.int .i64 0)] rfl rfl)) rfl rfl ?_
 rintro _ w179 ⟨b_0, q174⟩
 have o32 := o32.wr q174 f175
 have o36 := o36.wr q174 f176
 have o40 := o40.wr q174 f177
 have o44 := o44.wr q174 f178
 have fB := fB.wrS q174 (.inl rfl)
 refine ol_nil ?_
 obtain rfl := Option.some.inj h
 refine fin_end0 Try.results98 ?_
 exact ⟨_, rfl, v31, v35, v39, v43, (.slice none 0 0), o32, m34, o36, m38, o40, m42, o44, m46, Own.nil _ _ _ _, ms_nil, a51, a52, a53, rfl, b_0, fB⟩
def rickyardlaw05_Refs.f (fu : Nat) (a0 : S_rickyardref05_Device) (a1 : S_rickyardlaw05_Act) : Option (Int × Int × S_rickyardref05_Device) := ((rickyardref01_Rest.f fu a1.Kind 7 : Option Int).bind fun t27 => (if (decide (t27 = 0)) = true then ((rickyardref05_Device_Store.f fu a0 a1.At a1.W : Option (Int × S_rickyardref05_Device)).bind fun t32 => some (0, t32.1, t32.2)) else (if (decide (t27 = 1)) = true then ((rickyardref05_Device_Load.f fu a0 a1.At : Option (Int × Int)).bind fun t61 => some (t61.1, t61.2, a0)) else (if (decide (t27 = 2)) = true then ((rickyardref05_Device_Flush.f fu a0 a1.At : Option (Int × S_rickyardref05_Device)).bind fun t66 => some (0, t66.1, t66.2)) else (if (decide (t27 = 3)) = true then ((rickyardref05_Device_Fence.f fu a0 : Option (Int × S_rickyardref05_Device)).bind fun t95 => some (0, t95.1, t95.2)) else (((if (decide (t27 = 4)) = true then ((rickyardref05_Device_Arm.f fu a0 a1.At : Option S_rickyardref05_Device).bind fun t150 => some (a0.Lasts, a0.Stored, a0.Sent, a0.Flushed, a0.Plan, t150.Since, t150.Left, t150.Steps)) else (((if (decide (t27 = 5)) = true then ((rickyardref05_Device_Lay.f fu a0 a1.L : Option S_rickyardref05_Device).bind fun t186 => some (t186.Lasts, t186.Stored, t186.Sent, t186.Flushed, t186.Plan, t186.Since, t186.Left, t186.Steps)) else (((if (decide (t27 = 6)) = true then ((rickyardref05_Device_Crash.f fu a0 a1.L : Option S_rickyardref05_Device).bind fun t242 => some (t242.Lasts, t242.Stored, t242.Sent, t242.Flushed, t242.Plan, t242.Since, t242.Left, t242.Steps)) else some (a0.Lasts, a0.Stored, a0.Sent, a0.Flushed, a0.Plan, a0.Since, a0.Left, a0.Steps)) : Option ((List Int) × (List Int) × (List Int) × (List Bool) × (List Int) × Int × Int × Int)).bind fun x215 => some (x215.1, x215.2.1, x215.2.2.1, x215.2.2.2.1, x215.2.2.2.2.1, x215.2.2.2.2.2.1, x215.2.2.2.2.2.2.1, x215.2.2.2.2.2.2.2))) : Option ((List Int) × (List Int) × (List Int) × (List Bool) × (List Int) × Int × Int × Int)).bind fun x159 => some (x159.1, x159.2.1, x159.2.2.1, x159.2.2.2.1, x159.2.2.2.2.1, x159.2.2.2.2.2.1, x159.2.2.2.2.2.2.1, x159.2.2.2.2.2.2.2))) : Option ((List Int) × (List Int) × (List Int) × (List Bool) × (List Int) × Int × Int × Int)).bind fun x123 => some (0, 0, (⟨x123.1, x123.2.1, x123.2.2.1, x123.2.2.2.1, x123.2.2.2.2.1, x123.2.2.2.2.2.1, x123.2.2.2.2.2.2.1, x123.2.2.2.2.2.2.2⟩ : S_rickyardref05_Device))))))))
set_option maxRecDepth 100000 in
set_option maxHeartbeats 400000 in
theorem rickyardlaw05_Refs.ok (fu : Nat) (w : World) (a0 : S_rickyardref05_Device) (G_0 : Nat) (V0_0 : Value) (O0_0 : Own (kI .u64) 22 w 0 V0_0 a0.Lasts) (V0_1 : Value) (O0_1 : Own (kI .u64) 22 w 0 V0_1 a0.Stored) (V0_2 : Value) (O0_2 : Own (kI .u64) 22 w 0 V0_2 a0.Sent) (V0_3 : Value) (O0_3 : Own kB 4 w 0 V0_3 a0.Flushed) (V0_4 : Value) (O0_4 : Own (kI .i64) 3 w 0 V0_4 a0.Plan) (b_0 : Blk w G_0 65 [Seg.cell V0_0 O0_0.one, Seg.cell V0_1 O0_1.one, Seg.cell V0_2 O0_2.one, Seg.cell V0_3 O0_3.one, Seg.cell V0_4 O0_4.one, Seg.cell (.int .i64 a0.Since), Seg.cell (.int .i64 a0.Left), Seg.cell (.int .i64 a0.Steps)]) (a1 : S_rickyardlaw05_Act) (V1_0 : Value) (R1_0 : Rd (kI .i64) w V1_0 a1.L) (A_R0_0_R0_1 : OffV V0_0 V0_1) (A_R0_0_R0_2 : OffV V0_0 V0_2) (A_R0_1_R0_2 : OffV V0_1 V0_2) (NR1_0_P0 : OffR V1_0 a1.L G_0) (NR1_0_R0_0 : OffRV V1_0 a1.L V0_0) (NR1_0_R0_1 : OffRV V1_0 a1.L V0_1) (NR1_0_R0_2 : OffRV V1_0 a1.L V0_2) (NR1_0_R0_3 : OffRV V1_0 a1.L V0_3) (NR1_0_R0_4 : OffRV V1_0 a1.L V0_4) (r : Int × Int × S_rickyardref05_Device) (h : rickyardlaw05_Refs.f fu a0 a1 = some r) :
  Calls Try.prog 45 (([.pointer (some ⟨G_0, 0, none⟩), aggV [Seg.cell (.int .i64 a1.Kind), Seg.cell (.int .i64 a1.At), Seg.cell (.int .u64 a1.W), Seg.cell V1_0 R1_0.one]] : List Value).toArray) w (fun e w' => ∃ v, e = .returned v ∧ ∃ u1 : Value, ∃ u4 : Value, ∃ u7 : Value, ∃ u10 : Value, ∃ u13 : Value, ∃ o2 : Own (kI .u64) 22 w' 0 u1 r.2.2.Lasts, ∃ m3 : ∀ g, Value.ownBlock u1 = some g → w.heap.size ≤ g ∨ (g = G_0 ∨ some g = Value.ownBlock V0_0 ∨ some g = Value.ownBlock V0_1 ∨ some g = Value.ownBlock V0_2 ∨ some g = Value.ownBlock V0_3 ∨ some g = Value.ownBlock V0_4), ∃ o5 : Own (kI .u64) 22 w' 0 u4 r.2.2.Stored, ∃ m6 : ∀ g, Value.ownBlock u4 = some g → w.heap.size ≤ g ∨ (g = G_0 ∨ some g = Value.ownBlock V0_0 ∨ some g = Value.ownBlock V0_1 ∨ some g = Value.ownBlock V0_2 ∨ some g = Value.ownBlock V0_3 ∨ some g = Value.ownBlock V0_4), ∃ o8 : Own (kI .u64) 22 w' 0 u7 r.2.2.Sent, ∃ m9 : ∀ g, Value.ownBlock u7 = some g → w.heap.size ≤ g ∨ (g = G_0 ∨ some g = Value.ownBlock V0_0 ∨ some g = Value.ownBlock V0_1 ∨ some g = Value.ownBlock V0_2 ∨ some g = Value.ownBlock V0_3 ∨ some g = Value.ownBlock V0_4), ∃ o11 : Own kB 4 w' 0 u10 r.2.2.Flushed, ∃ m12 : ∀ g, Value.ownBlock u10 = some g → w.heap.size ≤ g ∨ (g = G_0 ∨ some g = Value.ownBlock V0_0 ∨ some g = Value.ownBlock V0_1 ∨ some g = Value.ownBlock V0_2 ∨ some g = Value.ownBlock V0_3 ∨ some g = Value.ownBlock V0_4), ∃ o14 : Own (kI .i64) 3 w' 0 u13 r.2.2.Plan, ∃ m15 : ∀ g, Value.ownBlock u13 = some g → w.heap.size ≤ g ∨ (g = G_0 ∨ some g = Value.ownBlock V0_0 ∨ some g = Value.ownBlock V0_1 ∨ some g = Value.ownBlock V0_2 ∨ some g = Value.ownBlock V0_3 ∨ some g = Value.ownBlock V0_4), ∃ a16 : OffV u1 u4, ∃ a17 : OffV u1 u7, ∃ a18 : OffV u4 u7, v = .tuple #[.int .u64 r.1, .int .i64 r.2.1] ∧ Blk w' G_0 65 [Seg.cell u1 o2.one, Seg.cell u4 o5.one, Seg.cell u7 o8.one, Seg.cell u10 o11.one, Seg.cell u13 o14.one, Seg.cell (.int .i64 r.2.2.Since), Seg.cell (.int .i64 r.2.2.Left), Seg.cell (.int .i64 r.2.2.Steps)] ∧ Fr (fun j => j = G_0 ∨ some j = Value.ownBlock V0_0 ∨ some j = Value.ownBlock V0_1 ∨ some j = Value.ownBlock V0_2 ∨ some j = Value.ownBlock V0_3 ∨ some j = Value.ownBlock V0_4) w w') := by
 unfold rickyardlaw05_Refs.f at h
 have fB : Fr (fun j => j = G_0 ∨ some j = Value.ownBlock V0_0 ∨ some j = Value.ownBlock V0_1 ∨ some j = Value.ownBlock V0_2 ∨ some j = Value.ownBlock V0_3 ∨ some j = Value.ownBlock V0_4) w w := Fr.refl _ _
 have M0_0 : ∀ g, Value.ownBlock V0_0 = some g → w.heap.size ≤ g ∨ (g = G_0 ∨ some g = Value.ownBlock V0_0 ∨ some g = Value.ownBlock V0_1 ∨ some g = Value.ownBlock V0_2 ∨ some g = Value.ownBlock V0_3 ∨ some g = Value.ownBlock V0_4) := fun g hg => .inr (.inr (.inl hg.symm))
 have M0_1 : ∀ g, Value.ownBlock V0_1 = some g → w.heap.size ≤ g ∨ (g = G_0 ∨ some g = Value.ownBlock V0_0 ∨ some g = Value.ownBlock V0_1 ∨ some g = Value.ownBlock V0_2 ∨ some g = Value.ownBlock V0_3 ∨ some g = Value.ownBlock V0_4) := fun g hg => .inr (.inr (.inr (.inl hg.symm)))
 have M0_2 : ∀ g, Value.ownBlock V0_2 = some g → w.heap.size ≤ g ∨ (g = G_0 ∨ some g = Value.ownBlock V0_0 ∨ some g = Value.ownBlock V0_1 ∨ some g = Value.ownBlock V0_2 ∨ some g = Value.ownBlock V0_3 ∨ some g = Value.ownBlock V0_4) := fun g hg => .inr (.inr (.inr (.inr (.inl hg.symm))))
 have M0_3 : ∀ g, Value.ownBlock V0_3 = some g → w.heap.size ≤ g ∨ (g = G_0 ∨ some g = Value.ownBlock V0_0 ∨ some g = Value.ownBlock V0_1 ∨ some g = Value.ownBlock V0_2 ∨ some g = Value.ownBlock V0_3 ∨ some g = Value.ownBlock V0_4) := fun g hg => .inr (.inr (.inr (.inr (.inr (.inl hg.symm)))))
 have M0_4 : ∀ g, Value.ownBlock V0_4 = some g → w.heap.size ≤ g ∨ (g = G_0 ∨ some g = Value.ownBlock V0_0 ∨ some g = Value.ownBlock V0_1 ∨ some g = Value.ownBlock V0_2 ∨ some g = Value.ownBlock V0_3 ∨ some g = Value.ownBlock V0_4) := fun g hg => .inr (.inr (.inr (.inr (.inr (.inr hg.symm)))))
 refine calls_cw Try.func45 rfl Try.ntmps45 rfl ?_
 refine cw_seq ?_
 refine cw_region ?_
 refine ol_op (by exact opv_box (ss := [Seg.cell (.int .i64 a1.Kind), Seg.cell (.int .i64 a1.At), Seg.cell (.int .u64 a1.W), Seg.cell V1_0 R1_0.one]) rfl rfl rfl) rfl rfl rfl ?_
 rintro _ w24 ⟨G19, rfl, b20, q21, z22⟩
 have n25 := b_0.ne z22
 have a26 := OffR.new R1_0 z22 rfl
 have z22 := Nat.le_trans fB.size z22
 have b_0 := b_0.gr q21
 have O0_0 := O0_0.gr q21
 have O0_1 := O0_1.gr q21
 have O0_2 := O0_2.gr q21
 have O0_3 := O0_3.gr q21
 have O0_4 := O0_4.gr q21
 have R1_0 := R1_0.gr q21
 have fB := fB.gr q21
 refine ol_val (v := .int .u64 0) (by exact xr_assign rfl rfl) rfl rfl rfl ?_
 refine ol_val (v := .int .i64 0) (by exact xr_assign rfl rfl) rfl rfl rfl ?_
 refine ol_nil ?_
 refine cw_seq ?_
 refine cw_seq ?_
 refine cw_region ?_
 refine ol_val (v := .pointer (some ⟨G19, 0, none⟩)) (by exact xr_fieldAddr (p := 0) (q := 0) rfl fl39_0 rfl) rfl rfl rfl ?_
 refine ol_val (v := .int .i64 a1.Kind) (by exact xr_load1 (v := .int .i64 a1.Kind) rfl ag3 rfl (b20.seg 0 rfl rfl)) rfl rfl rfl ?_
 obtain ⟨t27, k28, h⟩ := bs h
 refine ol_op (by exact opv_call rfl cal27 (ac rfl (ac rfl an)) (rickyardref01_Rest.ok fu _ a1.Kind 7 _ k28)) rfl rfl rfl ?_
 rintro _ w30 ⟨rfl, q29⟩
 have b_0 := b_0.gr q29
 have b20 := b20.gr q29
 have O0_0 := O0_0.gr q29
 have O0_1 := O0_1.gr q29
 have O0_2 := O0_2.gr q29
 have O0_3 := O0_3.gr q29
 have O0_4 := O0_4.gr q29
 have R1_0 := R1_0.gr q29
 have fB := fB.gr q29
 refine ol_nil ?_
 refine cw_block ?_
 refine cw_seq ?_
 refine cw_region ?_
 refine ol_val (v := .bool (decide (t27 = 0))) (by exact xr_eqI rfl Try.underlying3 rfl rfl rfl) rfl rfl rfl ?_
 refine ol_val (v := .bool (decide (t27 = 0))) (by exact xr_assign rfl rfl) rfl rfl rfl ?_
 refine ol_nil ?_
 rcases is h with ⟨c31, h⟩ | ⟨c31, h⟩
 ·refine cw_condT rfl c31 ?_
  refine cw_seq ?_
  refine cw_region ?_
  refine ol_val (v := .pointer (some ⟨G_0, 0, none⟩)) (by exact xr_move rfl rfl) rfl rfl rfl ?_
  refine ol_val (v := .pointer (some ⟨G19, 1, none⟩)) (by exact xr_fieldAddr (p := 0) (q := 1) rfl fl39_1 rfl) rfl rfl rfl ?_
  refine ol_val (v := .int .i64 a1.At) (by exact xr_load1 (v := .int .i64 a1.At) rfl ag3 rfl (b20.seg 1 rfl rfl)) rfl rfl rfl ?_
  refine ol_val (v := .pointer (some ⟨G19, 2, none⟩)) (by exact xr_fieldAddr (p := 0) (q := 2) rfl fl39_2 rfl) rfl rfl rfl ?_
  refine ol_val (v := .int .u64 a1.W) (by exact xr_load1 (v := .int .u64 a1.W) rfl ag22 rfl (b20.seg 2 rfl rfl)) rfl rfl rfl ?_
  obtain ⟨t32, k33, h⟩ := bs h
  have c58 : ∀ k, (k = G_0 ∨ some k = Value.ownBlock V0_0 ∨ some k = Value.ownBlock V0_1 ∨ some k = Value.ownBlock V0_2 ∨ some k = Value.ownBlock V0_3 ∨ some k = Value.ownBlock V0_4) → (w.heap.size ≤ k ∨ (k = G_0 ∨ some k = Value.ownBlock V0_0 ∨ some k = Value.ownBlock V0_1 ∨ some k = Value.ownBlock V0_2 ∨ some k = Value.ownBlock V0_3 ∨ some k = Value.ownBlock V0_4)) := (cv_or (cv_eq (.inr (.inl rfl))) (cv_or (cv_own M0_0) (cv_or (cv_own M0_1) (cv_or (cv_own M0_2) (cv_or (cv_own M0_3) (cv_own M0_4))))))
  refine ol_op (by exact opv_call rfl cal92 (ac rfl (ac rfl (ac rfl an))) (rickyardref05_Device_Store.ok fu _ a0 G_0 V0_0 (Own.base O0_0 (Nat.zero_le _)) V0_1 (Own.base O0_1 (Nat.zero_le _)) V0_2 (Own.base O0_2 (Nat.zero_le _)) V0_3 (Own.base O0_3 (Nat.zero_le _)) V0_4 (Own.base O0_4 (Nat.zero_le _)) b_0 a1.At a1.W A_R0_0_R0_1 A_R0_0_R0_2 A_R0_1_R0_2 _ k33)) rfl rfl rfl ?_
  rintro _ w59 ⟨u35, u39, u43, u47, u51, o36, m37, o40, m41, o44, m45, o48, m49, o52, m53, a55, a56, a57, rfl, b_0, q34⟩
  have m37 : ∀ g, Value.ownBlock u35 = some g → w.heap.size ≤ g ∨ (g = G_0 ∨ some g = Value.ownBlock V0_0 ∨ some g = Value.ownBlock V0_1 ∨ some g = Value.ownBlock V0_2 ∨ some g = Value.ownBlock V0_3 ∨ some g = Value.ownBlock V0_4) := fun g hg => (m37 g hg).elim (fun x => .inl (Nat.le_trans fB.size x)) (c58 g)
  have m41 : ∀ g, Value.ownBlock u39 = some g → w.heap.size ≤ g ∨ (g = G_0 ∨ some g = Value.ownBlock V0_0 ∨ some g = Value.ownBlock V0_1 ∨ some g = Value.ownBlock V0_2 ∨ some g = Value.ownBlock V0_3 ∨ some g = Value.ownBlock V0_4) := fun g hg => (m41 g hg).elim (fun x => .inl (Nat.le_trans fB.size x)) (c58 g)
  have m45 : ∀ g, Value.ownBlock u43 = some g → w.heap.size ≤ g ∨ (g = G_0 ∨ some g = Value.ownBlock V0_0 ∨ some g = Value.ownBlock V0_1 ∨ some g = Value.ownBlock V0_2 ∨ some g = Value.ownBlock V0_3 ∨ some g = Value.ownBlock V0_4) := fun g hg => (m45 g hg).elim (fun x => .inl (Nat.le_trans fB.size x)) (c58 g)
  have m49 : ∀ g, Value.ownBlock u47 = some g → w.heap.size ≤ g ∨ (g = G_0 ∨ some g = Value.ownBlock V0_0 ∨ some g = Value.ownBlock V0_1 ∨ some g = Value.ownBlock V0_2 ∨ some g = Value.ownBlock V0_3 ∨ some g = Value.ownBlock V0_4) := fun g hg => (m49 g hg).elim (fun x => .inl (Nat.le_trans fB.size x)) (c58 g)
  have m53 : ∀ g, Value.ownBlock u51 = some g → w.heap.size ≤ g ∨ (g = G_0 ∨ some g = Value.ownBlock V0_0 ∨ some g = Value.ownBlock V0_1 ∨ some g = Value.ownBlock V0_2 ∨ some g = Value.ownBlock V0_3 ∨ some g = Value.ownBlock V0_4) := fun g hg => (m53 g hg).elim (fun x => .inl (Nat.le_trans fB.size x)) (c58 g)
  have fB := fB.call q34 c58
  refine ol_val (v := .int .u64 0) (by exact xr_assign rfl rfl) rfl rfl rfl ?_
  refine ol_val (v := .int .i64 t32.1) (by exact xr_assign rfl rfl) rfl rfl rfl ?_
  refine ol_nil ?_
  refine cw_ret ?_
  repeat (first | with_reducible refine thn_r ?_ | with_reducible refine blk_r ?_)
  obtain rfl := Option.some.inj h
  refine fin_ret2 Try.results45 rfl rfl ?_
  exact ⟨_, rfl, u35, u39, u43, u47, u51, o36, m37, o40, m41, o44, m45, o48, m49, o52, m53, a55, a56, a57, rfl, b_0, fB⟩
 refine cw_condF rfl c31 ?_
 refine cw_seq ?_
 refine cw_region ?_
 refine ol_val (v := .bool (decide (t27 = 1))) (by exact xr_eqI rfl Try.underlying3 rfl rfl rfl) rfl rfl rfl ?_
 refine ol_val (v := .bool (decide (t27 = 1))) (by exact xr_assign rfl rfl) rfl rfl rfl ?_
 refine ol_nil ?_
 rcases is h with ⟨c60, h⟩ | ⟨c60, h⟩
 ·refine cw_condT rfl c60 ?_
  refine cw_seq ?_
  refine cw_region ?_
  refine ol_val (v := .pointer (some ⟨G_0, 0, none⟩)) (by exact xr_move rfl rfl) rfl rfl rfl ?_
  refine ol_val (v := .pointer (some ⟨G19, 1, none⟩)) (by exact xr_fieldAddr (p := 0) (q := 1) rfl fl39_1 rfl) rfl rfl rfl ?_
  refine ol_val (v := .int .i64 a1.At) (by exact xr_load1 (v := .int .i64 a1.At) rfl ag3 rfl (b20.seg 1 rfl rfl)) rfl rfl rfl ?_
  obtain ⟨t61, k62, h⟩ := bs h
  refine ol_op (by exact opv_call rfl cal93 (ac rfl (ac rfl an)) (rickyardref05_Device_Load.ok fu _ a0 G_0 V0_0 (O0_0.rd) V0_1 (O0_1.rd) V0_2 (O0_2.rd) V0_3 (O0_3.rd) V0_4 (O0_4.rd) b_0 a1.At _ k62)) rfl rfl rfl ?_
  rintro _ w64 ⟨rfl, q63⟩
  have b_0 := b_0.gr q63
  have O0_0 := O0_0.gr q63
  have O0_1 := O0_1.gr q63
  have O0_2 := O0_2.gr q63
  have O0_3 := O0_3.gr q63
  have O0_4 := O0_4.gr q63
  have fB := fB.gr q63
  refine ol_val (v := .int .u64 t61.1) (by exact xr_extract rfl rfl rfl) rfl rfl rfl ?_
  refine ol_val (v := .int .i64 t61.2) (by exact xr_extract rfl rfl rfl) rfl rfl rfl ?_
  refine ol_val (v := .int .u64 t61.1) (by exact xr_assign rfl rfl) rfl rfl rfl ?_
  refine ol_val (v := .int .i64 t61.2) (by exact xr_assign rfl rfl) rfl rfl rfl ?_
  refine ol_nil ?_
  refine cw_ret ?_
  repeat (first | with_reducible refine thn_r ?_ | with_reducible refine blk_r ?_)
  obtain rfl := Option.some.inj h
  refine fin_ret2 Try.results45 rfl rfl ?_
  exact ⟨_, rfl, V0_0, V0_1, V0_2, V0_3, V0_4, O0_0, M0_0, O0_1, M0_1, O0_2, M0_2, O0_3, M0_3, O0_4, M0_4, A_R0_0_R0_1, A_R0_0_R0_2, A_R0_1_R0_2, rfl, b_0, fB⟩
 refine cw_condF rfl c60 ?_
 refine cw_seq ?_
 refine cw_region ?_
 refine ol_val (v := .bool (decide (t27 = 2))) (by exact xr_eqI rfl Try.underlying3 rfl rfl rfl) rfl rfl rfl ?_
 refine ol_val (v := .bool (decide (t27 = 2))) (by exact xr_assign rfl rfl) rfl rfl rfl ?_
 refine ol_nil ?_
 rcases is h with ⟨c65, h⟩ | ⟨c65, h⟩
 ·refine cw_condT rfl c65 ?_
  refine cw_seq ?_
  refine cw_region ?_
  refine ol_val (v := .pointer (some ⟨G_0, 0, none⟩)) (by exact xr_move rfl rfl) rfl rfl rfl ?_
  refine ol_val (v := .pointer (some ⟨G19, 1, none⟩)) (by exact xr_fieldAddr (p := 0) (q := 1) rfl fl39_1 rfl) rfl rfl rfl ?_
  refine ol_val (v := .int .i64 a1.At) (by exact xr_load1 (v := .int .i64 a1.At) rfl ag3 rfl (b20.seg 1 rfl rfl)) rfl rfl rfl ?_
  obtain ⟨t66, k67, h⟩ := bs h
  have c92 : ∀ k, (k = G_0 ∨ some k = Value.ownBlock V0_0 ∨ some k = Value.ownBlock V0_1 ∨ some k = Value.ownBlock V0_2 ∨ some k = Value.ownBlock V0_3 ∨ some k = Value.ownBlock V0_4) → (w.heap.size ≤ k ∨ (k = G_0 ∨ some k = Value.ownBlock V0_0 ∨ some k = Value.ownBlock V0_1 ∨ some k = Value.ownBlock V0_2 ∨ some k = Value.ownBlock V0_3 ∨ some k = Value.ownBlock V0_4)) := (cv_or (cv_eq (.inr (.inl rfl))) (cv_or (cv_own M0_0) (cv_or (cv_own M0_1) (cv_or (cv_own M0_2) (cv_or (cv_own M0_3) (cv_own M0_4))))))
  refine ol_op (by exact opv_call rfl cal94 (ac rfl (ac rfl an)) (rickyardref05_Device_Flush.ok fu _ a0 G_0 V0_0 (Own.base O0_0 (Nat.zero_le _)) V0_1 (Own.base O0_1 (Nat.zero_le _)) V0_2 (Own.base O0_2 (Nat.zero_le _)) V0_3 (Own.base O0_3 (Nat.zero_le _)) V0_4 (Own.base O0_4 (Nat.zero_le _)) b_0 a1.At A_R0_0_R0_1 A_R0_0_R0_2 A_R0_1_R0_2 _ k67)) rfl rfl rfl ?_
  rintro _ w93 ⟨u69, u73, u77, u81, u85, o70, m71, o74, m75, o78, m79, o82, m83, o86, m87, a89, a90, a91, rfl, b_0, q68⟩
  have m71 : ∀ g, Value.ownBlock u69 = some g → w.heap.size ≤ g ∨ (g = G_0 ∨ some g = Value.ownBlock V0_0 ∨ some g = Value.ownBlock V0_1 ∨ some g = Value.ownBlock V0_2 ∨ some g = Value.ownBlock V0_3 ∨ some g = Value.ownBlock V0_4) := fun g hg => (m71 g hg).elim (fun x => .inl (Nat.le_trans fB.size x)) (c92 g)
  have m75 : ∀ g, Value.ownBlock u73 = some g → w.heap.size ≤ g ∨ (g = G_0 ∨ some g = Value.ownBlock V0_0 ∨ some g = Value.ownBlock V0_1 ∨ some g = Value.ownBlock V0_2 ∨ some g = Value.ownBlock V0_3 ∨ some g = Value.ownBlock V0_4) := fun g hg => (m75 g hg).elim (fun x => .inl (Nat.le_trans fB.size x)) (c92 g)
  have m79 : ∀ g, Value.ownBlock u77 = some g → w.heap.size ≤ g ∨ (g = G_0 ∨ some g = Value.ownBlock V0_0 ∨ some g = Value.ownBlock V0_1 ∨ some g = Value.ownBlock V0_2 ∨ some g = Value.ownBlock V0_3 ∨ some g = Value.ownBlock V0_4) := fun g hg => (m79 g hg).elim (fun x => .inl (Nat.le_trans fB.size x)) (c92 g)
  have m83 : ∀ g, Value.ownBlock u81 = some g → w.heap.size ≤ g ∨ (g = G_0 ∨ some g = Value.ownBlock V0_0 ∨ some g = Value.ownBlock V0_1 ∨ some g = Value.ownBlock V0_2 ∨ some g = Value.ownBlock V0_3 ∨ some g = Value.ownBlock V0_4) := fun g hg => (m83 g hg).elim (fun x => .inl (Nat.le_trans fB.size x)) (c92 g)
  have m87 : ∀ g, Value.ownBlock u85 = some g → w.heap.size ≤ g ∨ (g = G_0 ∨ some g = Value.ownBlock V0_0 ∨ some g = Value.ownBlock V0_1 ∨ some g = Value.ownBlock V0_2 ∨ some g = Value.ownBlock V0_3 ∨ some g = Value.ownBlock V0_4) := fun g hg => (m87 g hg).elim (fun x => .inl (Nat.le_trans fB.size x)) (c92 g)
  have fB := fB.call q68 c92
  refine ol_val (v := .int .u64 0) (by exact xr_assign rfl rfl) rfl rfl rfl ?_
  refine ol_val (v := .int .i64 t66.1) (by exact xr_assign rfl rfl) rfl rfl rfl ?_
  refine ol_nil ?_
  refine cw_ret ?_
  repeat (first | with_reducible refine thn_r ?_ | with_reducible refine blk_r ?_)
  obtain rfl := Option.some.inj h
  refine fin_ret2 Try.results45 rfl rfl ?_
  exact ⟨_, rfl, u69, u73, u77, u81, u85, o70, m71, o74, m75, o78, m79, o82, m83, o86, m87, a89, a90, a91, rfl, b_0, fB⟩
 refine cw_condF rfl c65 ?_
 refine cw_seq ?_
 refine cw_region ?_
 refine ol_val (v := .bool (decide (t27 = 3))) (by exact xr_eqI rfl Try.underlying3 rfl rfl rfl) rfl rfl rfl ?_
 refine ol_val (v := .bool (decide (t27 = 3))) (by exact xr_assign rfl rfl) rfl rfl rfl ?_
 refine ol_nil ?_
 rcases is h with ⟨c94, h⟩ | ⟨c94, h⟩
 ·refine cw_condT rfl c94 ?_
  refine cw_seq ?_
  refine cw_region ?_
  refine ol_val (v := .pointer (some ⟨G_0, 0, none⟩)) (by exact xr_move rfl rfl) rfl rfl rfl ?_
  obtain ⟨t95, k96, h⟩ := bs h
  have c121 : ∀ k, (k = G_0 ∨ some k = Value.ownBlock V0_0 ∨ some k = Value.ownBlock V0_1 ∨ some k = Value.ownBlock V0_2 ∨ some k = Value.ownBlock V0_3 ∨ some k = Value.ownBlock V0_4) → (w.heap.size ≤ k ∨ (k = G_0 ∨ some k = Value.ownBlock V0_0 ∨ some k = Value.ownBlock V0_1 ∨ some k = Value.ownBlock V0_2 ∨ some k = Value.ownBlock V0_3 ∨ some k = Value.ownBlock V0_4)) := (cv_or (cv_eq (.inr (.inl rfl))) (cv_or (cv_own M0_0) (cv_or (cv_own M0_1) (cv_or (cv_own M0_2) (cv_or (cv_own M0_3) (cv_own M0_4))))))
  refine ol_op (by exact opv_call rfl cal95 (ac rfl an) (rickyardref05_Device_Fence.ok fu _ a0 G_0 V0_0 (Own.base O0_0 (Nat.zero_le _)) V0_1 (Own.base O0_1 (Nat.zero_le _)) V0_2 (Own.base O0_2 (Nat.zero_le _)) V0_3 (Own.base O0_3 (Nat.zero_le _)) V0_4 (Own.base O0_4 (Nat.zero_le _)) b_0 A_R0_0_R0_1 A_R0_0_R0_2 A_R0_1_R0_2 _ k96)) rfl rfl rfl ?_
  rintro _ w122 ⟨u98, u102, u106, u110, u114, o99, m100, o103, m104, o107, m108, o111, m112, o115, m116, a118, a119, a120, rfl, b_0, q97⟩
  have m100 : ∀ g, Value.ownBlock u98 = some g → w.heap.size ≤ g ∨ (g = G_0 ∨ some g = Value.ownBlock V0_0 ∨ some g = Value.ownBlock V0_1 ∨ some g = Value.ownBlock V0_2 ∨ some g = Value.ownBlock V0_3 ∨ some g = Value.ownBlock V0_4) := fun g hg => (m100 g hg).elim (fun x => .inl (Nat.le_trans fB.size x)) (c121 g)
  have m104 : ∀ g, Value.ownBlock u102 = some g → w.heap.size ≤ g ∨ (g = G_0 ∨ some g = Value.ownBlock V0_0 ∨ some g = Value.ownBlock V0_1 ∨ some g = Value.ownBlock V0_2 ∨ some g = Value.ownBlock V0_3 ∨ some g = Value.ownBlock V0_4) := fun g hg => (m104 g hg).elim (fun x => .inl (Nat.le_trans fB.size x)) (c121 g)
  have m108 : ∀ g, Value.ownBlock u106 = some g → w.heap.size ≤ g ∨ (g = G_0 ∨ some g = Value.ownBlock V0_0 ∨ some g = Value.ownBlock V0_1 ∨ some g = Value.ownBlock V0_2 ∨ some g = Value.ownBlock V0_3 ∨ some g = Value.ownBlock V0_4) := fun g hg => (m108 g hg).elim (fun x => .inl (Nat.le_trans fB.size x)) (c121 g)
  have m112 : ∀ g, Value.ownBlock u110 = some g → w.heap.size ≤ g ∨ (g = G_0 ∨ some g = Value.ownBlock V0_0 ∨ some g = Value.ownBlock V0_1 ∨ some g = Value.ownBlock V0_2 ∨ some g = Value.ownBlock V0_3 ∨ some g = Value.ownBlock V0_4) := fun g hg => (m112 g hg).elim (fun x => .inl (Nat.le_trans fB.size x)) (c121 g)
  have m116 : ∀ g, Value.ownBlock u114 = some g → w.heap.size ≤ g ∨ (g = G_0 ∨ some g = Value.ownBlock V0_0 ∨ some g = Value.ownBlock V0_1 ∨ some g = Value.ownBlock V0_2 ∨ some g = Value.ownBlock V0_3 ∨ some g = Value.ownBlock V0_4) := fun g hg => (m116 g hg).elim (fun x => .inl (Nat.le_trans fB.size x)) (c121 g)
  have fB := fB.call q97 c121
  refine ol_val (v := .int .u64 0) (by exact xr_assign rfl rfl) rfl rfl rfl ?_
  refine ol_val (v := .int .i64 t95.1) (by exact xr_assign rfl rfl) rfl rfl rfl ?_
  refine ol_nil ?_
  refine cw_ret ?_
  repeat (first | with_reducible refine thn_r ?_ | with_reducible refine blk_r ?_)
  obtain rfl := Option.some.inj h
  refine fin_ret2 Try.results45 rfl rfl ?_
  exact ⟨_, rfl, u98, u102, u106, u110, u114, o99, m100, o103, m104, o107, m108, o111, m112, o115, m116, a118, a119, a120, rfl, b_0, fB⟩
 refine cw_condF rfl c94 ?_
 refine cw_seq ?_
 refine cw_region ?_
 refine ol_val (v := .bool (decide (t27 = 4))) (by exact xr_eqI rfl Try.underlying3 rfl rfl rfl) rfl rfl rfl ?_
 refine ol_val (v := .bool (decide (t27 = 4))) (by exact xr_assign rfl rfl) rfl rfl rfl ?_
 refine ol_nil ?_
 obtain ⟨x123, j124, h125⟩ := bs h
 refine cw_mid (fun ρ' w' => ∃ v126 : Value, ∃ v130 : Value, ∃ v134 : Value, ∃ v138 : Value, ∃ v142 : Value, ∃ o127 : Own (kI .u64) 22 w' 0 v126 x123.1, ∃ o131 : Own (kI .u64) 22 w' 0 v130 x123.2.1, ∃ o135 : Own (kI .u64) 22 w' 0 v134 x123.2.2.1, ∃ o139 : Own kB 4 w' 0 v138 x123.2.2.2.1, ∃ o143 : Own (kI .i64) 3 w' 0 v142 x123.2.2.2.2.1, ∃ m129 : ∀ g, Value.ownBlock v126 = some g → w.heap.size ≤ g ∨ (g = G_0 ∨ some g = Value.ownBlock V0_0 ∨ some g = Value.ownBlock V0_1 ∨ some g = Value.ownBlock V0_2 ∨ some g = Value.ownBlock V0_3 ∨ some g = Value.ownBlock V0_4), ∃ m133 : ∀ g, Value.ownBlock v130 = some g → w.heap.size ≤ g ∨ (g = G_0 ∨ some g = Value.ownBlock V0_0 ∨ some g = Value.ownBlock V0_1 ∨ some g = Value.ownBlock V0_2 ∨ some g = Value.ownBlock V0_3 ∨ some g = Value.ownBlock V0_4), ∃ m137 : ∀ g, Value.ownBlock v134 = some g → w.heap.size ≤ g ∨ (g = G_0 ∨ some g = Value.ownBlock V0_0 ∨ some g = Value.ownBlock V0_1 ∨ some g = Value.ownBlock V0_2 ∨ some g = Value.ownBlock V0_3 ∨ some g = Value.ownBlock V0_4), ∃ m141 : ∀ g, Value.ownBlock v138 = some g → w.heap.size ≤ g ∨ (g = G_0 ∨ some g = Value.ownBlock V0_0 ∨ some g = Value.ownBlock V0_1 ∨ some g = Value.ownBlock V0_2 ∨ some g = Value.ownBlock V0_3 ∨ some g = Value.ownBlock V0_4), ∃ m145 : ∀ g, Value.ownBlock v142 = some g → w.heap.size ≤ g ∨ (g = G_0 ∨ some g = Value.ownBlock V0_0 ∨ some g = Value.ownBlock V0_1 ∨ some g = Value.ownBlock V0_2 ∨ some g = Value.ownBlock V0_3 ∨ some g = Value.ownBlock V0_4), OffV v126 v130 ∧ OffV v126 v134 ∧ OffV v130 v134 ∧ Blk w' G_0 65 [Seg.cell v126 o127.one, Seg.cell v130 o131.one, Seg.cell v134 o135.one, Seg.cell v138 o139.one, Seg.cell v142 o143.one, Seg.cell (.int .i64 x123.2.2.2.2.2.1), Seg.cell (.int .i64 x123.2.2.2.2.2.2.1), Seg.cell (.int .i64 x123.2.2.2.2.2.2.2)] ∧ Fr (fun j => j = G_0 ∨ some j = Value.ownBlock V0_0 ∨ some j = Value.ownBlock V0_1 ∨ some j = Value.ownBlock V0_2 ∨ some j = Value.ownBlock V0_3 ∨ some j = Value.ownBlock V0_4) w w') ?_ ?_
 ·have h := j124
  rcases is h with ⟨c149, h⟩ | ⟨c149, h⟩
  ·refine cw_condT rfl c149 ?_
   refine cw_region ?_
   refine ol_val (v := .pointer (some ⟨G_0, 0, none⟩)) (by exact xr_move rfl rfl) rfl rfl rfl ?_
   refine ol_val (v := .pointer (some ⟨G19, 1, none⟩)) (by exact xr_fieldAddr (p := 0) (q := 1) rfl fl39_1 rfl) rfl rfl rfl ?_
   refine ol_val (v := .int .i64 a1.At) (by exact xr_load1 (v := .int .i64 a1.At) rfl ag3 rfl (b20.seg 1 rfl rfl)) rfl rfl rfl ?_
   obtain ⟨t150, k151, h⟩ := bs h
   have f153 := off_ty b_0 O0_0 (by decide)
   have f154 := off_ty b_0 O0_1 (by decide)
   have f155 := off_ty b_0 O0_2 (by decide)
   have f156 := off_ty b_0 O0_3 (by decide)
   have f157 := off_ty b_0 O0_4 (by decide)
   refine ol_op (by exact opv_call rfl cal96 (ac rfl (ac rfl an)) (rickyardref05_Device_Arm.ok fu _ a0 G_0 V0_0 O0_0.rd (OffR.own O0_0 (off_ty b_0 O0_0 (by decide))) V0_1 O0_1.rd (OffR.own O0_1 (off_ty b_0 O0_1 (by decide))) V0_2 O0_2.rd (OffR.own O0_2 (off_ty b_0 O0_2 (by decide))) V0_3 O0_3.rd (OffR.own O0_3 (off_ty b_0 O0_3 (by decide))) V0_4 O0_4.rd (OffR.own O0_4 (off_ty b_0 O0_4 (by decide))) b_0 a1.At _ k151)) rfl rfl rfl ?_
   rintro _ w158 ⟨rfl, b_0, q152⟩
   have O0_0 := O0_0.wr q152 f153
   have O0_1 := O0_1.wr q152 f154
   have O0_2 := O0_2.wr q152 f155
   have O0_3 := O0_3.wr q152 f156
   have O0_4 := O0_4.wr q152 f157
   have fB := fB.wrS q152 (.inl rfl)
   refine ol_nil ?_
   obtain rfl := Option.some.inj h
   refine thn_i ?_
   exact ⟨V0_0, V0_1, V0_2, V0_3, V0_4, O0_0, O0_1, O0_2, O0_3, O0_4, M0_0, M0_1, M0_2, M0_3, M0_4, A_R0_0_R0_1, A_R0_0_R0_2, A_R0_1_R0_2, b_0, fB⟩
  refine cw_condF rfl c149 ?_
  refine cw_seq ?_
  refine cw_region ?_
  refine ol_val (v := .bool (decide (t27 = 5))) (by exact xr_eqI rfl Try.underlying3 rfl rfl rfl) rfl rfl rfl ?_
  refine ol_val (v := .bool (decide (t27 = 5))) (by exact xr_assign rfl rfl) rfl rfl rfl ?_
  refine ol_nil ?_
  obtain ⟨x159, j160, h161⟩ := bs h
  refine cw_mid (fun ρ' w' => ∃ v162 : Value, ∃ v166 : Value, ∃ v170 : Value, ∃ v174 : Value, ∃ v178 : Value, ∃ o163 : Own (kI .u64) 22 w' 0 v162 x159.1, ∃ o167 : Own (kI .u64) 22 w' 0 v166 x159.2.1, ∃ o171 : Own (kI .u64) 22 w' 0 v170 x159.2.2.1, ∃ o175 : Own kB 4 w' 0 v174 x159.2.2.2.1, ∃ o179 : Own (kI .i64) 3 w' 0 v178 x159.2.2.2.2.1, ∃ m165 : ∀ g, Value.ownBlock v162 = some g → w.heap.size ≤ g ∨ (g = G_0 ∨ some g = Value.ownBlock V0_0 ∨ some g = Value.ownBlock V0_1 ∨ some g = Value.ownBlock V0_2 ∨ some g = Value.ownBlock V0_3 ∨ some g = Value.ownBlock V0_4), ∃ m169 : ∀ g, Value.ownBlock v166 = some g → w.heap.size ≤ g ∨ (g = G_0 ∨ some g = Value.ownBlock V0_0 ∨ some g = Value.ownBlock V0_1 ∨ some g = Value.ownBlock V0_2 ∨ some g = Value.ownBlock V0_3 ∨ some g = Value.ownBlock V0_4), ∃ m173 : ∀ g, Value.ownBlock v170 = some g → w.heap.size ≤ g ∨ (g = G_0 ∨ some g = Value.ownBlock V0_0 ∨ some g = Value.ownBlock V0_1 ∨ some g = Value.ownBlock V0_2 ∨ some g = Value.ownBlock V0_3 ∨ some g = Value.ownBlock V0_4), ∃ m177 : ∀ g, Value.ownBlock v174 = some g → w.heap.size ≤ g ∨ (g = G_0 ∨ some g = Value.ownBlock V0_0 ∨ some g = Value.ownBlock V0_1 ∨ some g = Value.ownBlock V0_2 ∨ some g = Value.ownBlock V0_3 ∨ some g = Value.ownBlock V0_4), ∃ m181 : ∀ g, Value.ownBlock v178 = some g → w.heap.size ≤ g ∨ (g = G_0 ∨ some g = Value.ownBlock V0_0 ∨ some g = Value.ownBlock V0_1 ∨ some g = Value.ownBlock V0_2 ∨ some g = Value.ownBlock V0_3 ∨ some g = Value.ownBlock V0_4), OffV v162 v166 ∧ OffV v162 v170 ∧ OffV v166 v170 ∧ Blk w' G_0 65 [Seg.cell v162 o163.one, Seg.cell v166 o167.one, Seg.cell v170 o171.one, Seg.cell v174 o175.one, Seg.cell v178 o179.one, Seg.cell (.int .i64 x159.2.2.2.2.2.1), Seg.cell (.int .i64 x159.2.2.2.2.2.2.1), Seg.cell (.int .i64 x159.2.2.2.2.2.2.2)] ∧ Fr (fun j => j = G_0 ∨ some j = Value.ownBlock V0_0 ∨ some j = Value.ownBlock V0_1 ∨ some j = Value.ownBlock V0_2 ∨ some j = Value.ownBlock V0_3 ∨ some j = Value.ownBlock V0_4) w w') ?_ ?_
  ·have h := j160
   rcases is h with ⟨c185, h⟩ | ⟨c185, h⟩
   ·refine cw_condT rfl c185 ?_
    refine cw_region ?_
    refine ol_val (v := .pointer (some ⟨G_0, 0, none⟩)) (by exact xr_move rfl rfl) rfl rfl rfl ?_
    refine ol_val (v := .pointer (some ⟨G19, 3, none⟩)) (by exact xr_fieldAddr (p := 0) (q := 3) rfl fl39_3 rfl) rfl rfl rfl ?_
    refine ol_val (v := V1_0) (by exact xr_load1 (v := V1_0) rfl ag25 rfl (b20.seg 3 rfl rfl)) rfl rfl rfl ?_
    obtain ⟨t186, k187, h⟩ := bs h
    have f212 := (ro_or (ro_eq NR1_0_P0) (ro_or (ro_own NR1_0_R0_0) (ro_or (ro_own NR1_0_R0_1) (ro_or (ro_own NR1_0_R0_2) (ro_or (ro_own NR1_0_R0_3) (ro_own NR1_0_R0_4))))))
    have c213 : ∀ k, (k = G_0 ∨ some k = Value.ownBlock V0_0 ∨ some k = Value.ownBlock V0_1 ∨ some k = Value.ownBlock V0_2 ∨ some k = Value.ownBlock V0_3 ∨ some k = Value.ownBlock V0_4) → (w.heap.size ≤ k ∨ (k = G_0 ∨ some k = Value.ownBlock V0_0 ∨ some k = Value.ownBlock V0_1 ∨ some k = Value.ownBlock V0_2 ∨ some k = Value.ownBlock V0_3 ∨ some k = Value.ownBlock V0_4)) := (cv_or (cv_eq (.inr (.inl rfl))) (cv_or (cv_own M0_0) (cv_or (cv_own M0_1) (cv_or (cv_own M0_2) (cv_or (cv_own M0_3) (cv_own M0_4))))))
    refine ol_op (by exact opv_call rfl cal97 (ac rfl (ac rfl an)) (rickyardref05_Device_Lay.ok fu _ a0 G_0 V0_0 (Own.base O0_0 (Nat.zero_le _)) V0_1 (Own.base O0_1 (Nat.zero_le _)) V0_2 (Own.base O0_2 (Nat.zero_le _)) V0_3 (Own.base O0_3 (Nat.zero_le _)) V0_4 (Own.base O0_4 (Nat.zero_le _)) b_0 a1.L V1_0 (R1_0) A_R0_0_R0_1 A_R0_0_R0_2 A_R0_1_R0_2 NR1_0_P0 NR1_0_R0_0 NR1_0_R0_1 NR1_0_R0_2 NR1_0_R0_3 NR1_0_R0_4 _ k187)) rfl rfl rfl ?_
    rintro _ w214 ⟨u189, u193, u197, u201, u205, o190, m191, o194, m195, o198, m199, o202, m203, o206, m207, a209, a210, a211, rfl, b_0, q188⟩
    have m191 : ∀ g, Value.ownBlock u189 = some g → w.heap.size ≤ g ∨ (g = G_0 ∨ some g = Value.ownBlock V0_0 ∨ some g = Value.ownBlock V0_1 ∨ some g = Value.ownBlock V0_2 ∨ some g = Value.ownBlock V0_3 ∨ some g = Value.ownBlock V0_4) := fun g hg => (m191 g hg).elim (fun x => .inl (Nat.le_trans fB.size x)) (c213 g)
    have m195 : ∀ g, Value.ownBlock u193 = some g → w.heap.size ≤ g ∨ (g = G_0 ∨ some g = Value.ownBlock V0_0 ∨ some g = Value.ownBlock V0_1 ∨ some g = Value.ownBlock V0_2 ∨ some g = Value.ownBlock V0_3 ∨ some g = Value.ownBlock V0_4) := fun g hg => (m195 g hg).elim (fun x => .inl (Nat.le_trans fB.size x)) (c213 g)
    have m199 : ∀ g, Value.ownBlock u197 = some g → w.heap.size ≤ g ∨ (g = G_0 ∨ some g = Value.ownBlock V0_0 ∨ some g = Value.ownBlock V0_1 ∨ some g = Value.ownBlock V0_2 ∨ some g = Value.ownBlock V0_3 ∨ some g = Value.ownBlock V0_4) := fun g hg => (m199 g hg).elim (fun x => .inl (Nat.le_trans fB.size x)) (c213 g)
    have m203 : ∀ g, Value.ownBlock u201 = some g → w.heap.size ≤ g ∨ (g = G_0 ∨ some g = Value.ownBlock V0_0 ∨ some g = Value.ownBlock V0_1 ∨ some g = Value.ownBlock V0_2 ∨ some g = Value.ownBlock V0_3 ∨ some g = Value.ownBlock V0_4) := fun g hg => (m203 g hg).elim (fun x => .inl (Nat.le_trans fB.size x)) (c213 g)
    have m207 : ∀ g, Value.ownBlock u205 = some g → w.heap.size ≤ g ∨ (g = G_0 ∨ some g = Value.ownBlock V0_0 ∨ some g = Value.ownBlock V0_1 ∨ some g = Value.ownBlock V0_2 ∨ some g = Value.ownBlock V0_3 ∨ some g = Value.ownBlock V0_4) := fun g hg => (m207 g hg).elim (fun x => .inl (Nat.le_trans fB.size x)) (c213 g)
    have fB := fB.call q188 c213
    refine ol_nil ?_
    obtain rfl := Option.some.inj h
    refine thn_i ?_
    exact ⟨u189, u193, u197, u201, u205, o190, o194, o198, o202, o206, m191, m195, m199, m203, m207, a209, a210, a211, b_0, fB⟩
   refine cw_condF rfl c185 ?_
   refine cw_seq ?_
   refine cw_region ?_
   refine ol_val (v := .bool (decide (t27 = 6))) (by exact xr_eqI rfl Try.underlying3 rfl rfl rfl) rfl rfl rfl ?_
   refine ol_val (v := .bool (decide (t27 = 6))) (by exact xr_assign rfl rfl) rfl rfl rfl ?_
   refine ol_nil ?_
   obtain ⟨x215, j216, h217⟩ := bs h
   refine cw_mid (fun ρ' w' => ∃ v218 : Value, ∃ v222 : Value, ∃ v226 : Value, ∃ v230 : Value, ∃ v234 : Value, ∃ o219 : Own (kI .u64) 22 w' 0 v218 x215.1, ∃ o223 : Own (kI .u64) 22 w' 0 v222 x215.2.1, ∃ o227 : Own (kI .u64) 22 w' 0 v226 x215.2.2.1, ∃ o231 : Own kB 4 w' 0 v230 x215.2.2.2.1, ∃ o235 : Own (kI .i64) 3 w' 0 v234 x215.2.2.2.2.1, ∃ m221 : ∀ g, Value.ownBlock v218 = some g → w.heap.size ≤ g ∨ (g = G_0 ∨ some g = Value.ownBlock V0_0 ∨ some g = Value.ownBlock V0_1 ∨ some g = Value.ownBlock V0_2 ∨ some g = Value.ownBlock V0_3 ∨ some g = Value.ownBlock V0_4), ∃ m225 : ∀ g, Value.ownBlock v222 = some g → w.heap.size ≤ g ∨ (g = G_0 ∨ some g = Value.ownBlock V0_0 ∨ some g = Value.ownBlock V0_1 ∨ some g = Value.ownBlock V0_2 ∨ some g = Value.ownBlock V0_3 ∨ some g = Value.ownBlock V0_4), ∃ m229 : ∀ g, Value.ownBlock v226 = some g → w.heap.size ≤ g ∨ (g = G_0 ∨ some g = Value.ownBlock V0_0 ∨ some g = Value.ownBlock V0_1 ∨ some g = Value.ownBlock V0_2 ∨ some g = Value.ownBlock V0_3 ∨ some g = Value.ownBlock V0_4), ∃ m233 : ∀ g, Value.ownBlock v230 = some g → w.heap.size ≤ g ∨ (g = G_0 ∨ some g = Value.ownBlock V0_0 ∨ some g = Value.ownBlock V0_1 ∨ some g = Value.ownBlock V0_2 ∨ some g = Value.ownBlock V0_3 ∨ some g = Value.ownBlock V0_4), ∃ m237 : ∀ g, Value.ownBlock v234 = some g → w.heap.size ≤ g ∨ (g = G_0 ∨ some g = Value.ownBlock V0_0 ∨ some g = Value.ownBlock V0_1 ∨ some g = Value.ownBlock V0_2 ∨ some g = Value.ownBlock V0_3 ∨ some g = Value.ownBlock V0_4), OffV v218 v222 ∧ OffV v218 v226 ∧ OffV v222 v226 ∧ Blk w' G_0 65 [Seg.cell v218 o219.one, Seg.cell v222 o223.one, Seg.cell v226 o227.one, Seg.cell v230 o231.one, Seg.cell v234 o235.one, Seg.cell (.int .i64 x215.2.2.2.2.2.1), Seg.cell (.int .i64 x215.2.2.2.2.2.2.1), Seg.cell (.int .i64 x215.2.2.2.2.2.2.2)] ∧ Fr (fun j => j = G_0 ∨ some j = Value.ownBlock V0_0 ∨ some j = Value.ownBlock V0_1 ∨ some j = Value.ownBlock V0_2 ∨ some j = Value.ownBlock V0_3 ∨ some j = Value.ownBlock V0_4) w w') ?_ ?_
   ·have h := j216
    rcases is h with ⟨c241, h⟩ | ⟨c241, h⟩
    ·refine cw_condT rfl c241 ?_
     refine cw_region ?_
     refine ol_val (v := .pointer (some ⟨G_0, 0, none⟩)) (by exact xr_move rfl rfl) rfl rfl rfl ?_
     refine ol_val (v := .pointer (some ⟨G19, 3, none⟩)) (by exact xr_fieldAddr (p := 0) (q := 3) rfl fl39_3 rfl) rfl rfl rfl ?_
     refine ol_val (v := V1_0) (by exact xr_load1 (v := V1_0) rfl ag25 rfl (b20.seg 3 rfl rfl)) rfl rfl rfl ?_
     obtain ⟨t242, k243, h⟩ := bs h
     have f268 := (ro_or (ro_eq NR1_0_P0) (ro_or (ro_own NR1_0_R0_0) (ro_or (ro_own NR1_0_R0_1) (ro_or (ro_own NR1_0_R0_2) (ro_or (ro_own NR1_0_R0_3) (ro_own NR1_0_R0_4))))))
     have c269 : ∀ k, (k = G_0 ∨ some k = Value.ownBlock V0_0 ∨ some k = Value.ownBlock V0_1 ∨ some k = Value.ownBlock V0_2 ∨ some k = Value.ownBlock V0_3 ∨ some k = Value.ownBlock V0_4) → (w.heap.size ≤ k ∨ (k = G_0 ∨ some k = Value.ownBlock V0_0 ∨ some k = Value.ownBlock V0_1 ∨ some k = Value.ownBlock V0_2 ∨ some k = Value.ownBlock V0_3 ∨ some k = Value.ownBlock V0_4)) := (cv_or (cv_eq (.inr (.inl rfl))) (cv_or (cv_own M0_0) (cv_or (cv_own M0_1) (cv_or (cv_own M0_2) (cv_or (cv_own M0_3) (cv_own M0_4))))))
     refine ol_op (by exact opv_call rfl cal98 (ac rfl (ac rfl an)) (rickyardref05_Device_Crash.ok fu _ a0 G_0 V0_0 (Own.base O0_0 (Nat.zero_le _)) V0_1 (Own.base O0_1 (Nat.zero_le _)) V0_2 (Own.base O0_2 (Nat.zero_le _)) V0_3 (Own.base O0_3 (Nat.zero_le _)) V0_4 (Own.base O0_4 (Nat.zero_le _)) b_0 a1.L V1_0 (R1_0) A_R0_0_R0_1 A_R0_0_R0_2 A_R0_1_R0_2 NR1_0_P0 NR1_0_R0_0 NR1_0_R0_1 NR1_0_R0_2 NR1_0_R0_3 NR1_0_R0_4 _ k243)) rfl rfl rfl ?_
     rintro _ w270 ⟨u245, u249, u253, u257, u261, o246, m247, o250, m251, o254, m255, o258, m259, o262, m263, a265, a266, a267, rfl, b_0, q244⟩
     have m247 : ∀ g, Value.ownBlock u245 = some g → w.heap.size ≤ g ∨ (g = G_0 ∨ some g = Value.ownBlock V0_0 ∨ some g = Value.ownBlock V0_1 ∨ some g = Value.ownBlock V0_2 ∨ some g = Value.ownBlock V0_3 ∨ some g = Value.ownBlock V0_4) := fun g hg => (m247 g hg).elim (fun x => .inl (Nat.le_trans fB.size x)) (c269 g)
     have m251 : ∀ g, Value.ownBlock u249 = some g → w.heap.size ≤ g ∨ (g = G_0 ∨ some g = Value.ownBlock V0_0 ∨ some g = Value.ownBlock V0_1 ∨ some g = Value.ownBlock V0_2 ∨ some g = Value.ownBlock V0_3 ∨ some g = Value.ownBlock V0_4) := fun g hg => (m251 g hg).elim (fun x => .inl (Nat.le_trans fB.size x)) (c269 g)
     have m255 : ∀ g, Value.ownBlock u253 = some g → w.heap.size ≤ g ∨ (g = G_0 ∨ some g = Value.ownBlock V0_0 ∨ some g = Value.ownBlock V0_1 ∨ some g = Value.ownBlock V0_2 ∨ some g = Value.ownBlock V0_3 ∨ some g = Value.ownBlock V0_4) := fun g hg => (m255 g hg).elim (fun x => .inl (Nat.le_trans fB.size x)) (c269 g)
     have m259 : ∀ g, Value.ownBlock u257 = some g → w.heap.size ≤ g ∨ (g = G_0 ∨ some g = Value.ownBlock V0_0 ∨ some g = Value.ownBlock V0_1 ∨ some g = Value.ownBlock V0_2 ∨ some g = Value.ownBlock V0_3 ∨ some g = Value.ownBlock V0_4) := fun g hg => (m259 g hg).elim (fun x => .inl (Nat.le_trans fB.size x)) (c269 g)
     have m263 : ∀ g, Value.ownBlock u261 = some g → w.heap.size ≤ g ∨ (g = G_0 ∨ some g = Value.ownBlock V0_0 ∨ some g = Value.ownBlock V0_1 ∨ some g = Value.ownBlock V0_2 ∨ some g = Value.ownBlock V0_3 ∨ some g = Value.ownBlock V0_4) := fun g hg => (m263 g hg).elim (fun x => .inl (Nat.le_trans fB.size x)) (c269 g)
     have fB := fB.call q244 c269
     refine ol_nil ?_
     obtain rfl := Option.some.inj h
     refine thn_i ?_
     exact ⟨u245, u249, u253, u257, u261, o246, o250, o254, o258, o262, m247, m251, m255, m259, m263, a265, a266, a267, b_0, fB⟩
    refine cw_condF rfl c241 ?_
    refine cw_skip ?_
    obtain rfl := Option.some.inj h
    refine thn_i ?_
    exact ⟨V0_0, V0_1, V0_2, V0_3, V0_4, O0_0, O0_1, O0_2, O0_3, O0_4, M0_0, M0_1, M0_2, M0_3, M0_4, A_R0_0_R0_1, A_R0_0_R0_2, A_R0_1_R0_2, b_0, fB⟩
   rintro ρ271 w272 ⟨v218, v222, v226, v230, v234, o219, o223, o227, o231, o235, m221, m225, m229, m233, m237, a238, a239, a240, b_0, fB⟩
   have h := h217
   obtain rfl := Option.some.inj h
   refine thn_i ?_
   exact ⟨v218, v222, v226, v230, v234, o219, o223, o227, o231, o235, m221, m225, m229, m233, m237, a238, a239, a240, b_0, fB⟩
  rintro ρ273 w274 ⟨v162, v166, v170, v174, v178, o163, o167, o171, o175, o179, m165, m169, m173, m177, m181, a182, a183, a184, b_0, fB⟩
  have h := h161
  obtain rfl := Option.some.inj h
  refine thn_i ?_
  exact ⟨v162, v166, v170, v174, v178, o163, o167, o171, o175, o179, m165, m169, m173, m177, m181, a182, a183, a184, b_0, fB⟩
 rintro ρ275 w276 ⟨v126, v130, v134, v138, v142, o127, o131, o135, o139, o143, m129, m133, m137, m141, m145, a146, a147, a148, b_0, fB⟩
 have h := h125
 refine blk_i ?_
 refine cw_seq ?_
 refine cw_region ?_
 refine ol_val (v := .int .u64 0) (by exact xr_assign rfl rfl) rfl rfl rfl ?_
 refine ol_val (v := .int .i64 0) (by exact xr_assign rfl rfl) rfl rfl rfl ?_
 refine ol_nil ?_
 refine cw_ret ?_
 repeat (first | with_reducible refine thn_r ?_ | with_reducible refine blk_r ?_)
 obtain rfl := Option.some.inj h
 refine fin_ret2 Try.results45 rfl rfl ?_
 exact ⟨_, rfl, v126, v130, v134, v138, v142, o127, m129, o131, m133, o135, m137, o139, m141, o143, m145, a146, a147, a148, rfl, b_0, fB⟩
def press_Word.f (fu : Nat) (a0 : S_pmem_Device) (a1 : Int) (a2 : Int) (a3 : Int) : Option (Int × S_pmem_Device) := ((press_may.f fu a0 a1 : Option Int).bind fun t7 => (if (!decide (t7 = 0)) = true then some (t7, a0) else (if (if (decide (a2 < 0)) = true then true else (decide (a2 ≥ 8))) = true then some (2, a0) else ((press_store.f fu a0 a1 a2 [a3] : Option (Int × S_pmem_Device)).bind fun t21 => some (t21.1, t21.2)))))
set_option maxRecDepth 100000 in
set_option maxHeartbeats 400000 in
theorem press_Word.ok (fu : Nat) (w : World) (a0 : S_pmem_Device) (G_0 : Nat) (V0_0 : Value) (O0_0 : Own k_pmem_cell 142 w 0 V0_0 a0.cells) (V0_1 : Value) (O0_1 : Own (kI .i64) 3 w 0 V0_1 a0.plan.list) (b_0 : Blk w G_0 139 [Seg.cell V0_0 O0_0.one, Seg.cell V0_1 O0_1.one, Seg.cell (.int .i64 a0.plan.at_), Seg.cell (.bool a0.off), Seg.cell (.bool a0.armed), Seg.cell (.int .i64 a0.left), Seg.cell (.int .i64 a0.steps)]) (a1 : Int) (a2 : Int) (a3 : Int) (r : Int × S_pmem_Device) (h : press_Word.f fu a0 a1 a2 a3 = some r) :
  Calls Try.prog 57 (([.pointer (some ⟨G_0, 0, none⟩), .int .i64 a1, .int .i64 a2, .int .u64 a3] : List Value).toArray) w (fun e w' => ∃ v, e = .returned v ∧ ∃ u1 : Value, ∃ u4 : Value, ∃ o2 : Own k_pmem_cell 142 w' 0 u1 r.2.cells, ∃ m3 : ∀ g, Value.ownBlock u1 = some g → w.heap.size ≤ g ∨ (g = G_0 ∨ some g = Value.ownBlock V0_0 ∨ some g = Value.ownBlock V0_1), ∃ o5 : Own (kI .i64) 3 w' 0 u4 r.2.plan.list, ∃ m6 : ∀ g, Value.ownBlock u4 = some g → w.heap.size ≤ g ∨ (g = G_0 ∨ some g = Value.ownBlock V0_0 ∨ some g = Value.ownBlock V0_1), v = .int .i64 r.1 ∧ Blk w' G_0 139 [Seg.cell u1 o2.one, Seg.cell u4 o5.one, Seg.cell (.int .i64 r.2.plan.at_), Seg.cell (.bool r.2.off), Seg.cell (.bool r.2.armed), Seg.cell (.int .i64 r.2.left), Seg.cell (.int .i64 r.2.steps)] ∧ Fr (fun j => j = G_0 ∨ some j = Value.ownBlock V0_0 ∨ some j = Value.ownBlock V0_1) w w') := by
 unfold press_Word.f at h
 have fB : Fr (fun j => j = G_0 ∨ some j = Value.ownBlock V0_0 ∨ some j = Value.ownBlock V0_1) w w := Fr.refl _ _
 have M0_0 : ∀ g, Value.ownBlock V0_0 = some g → w.heap.size ≤ g ∨ (g = G_0 ∨ some g = Value.ownBlock V0_0 ∨ some g = Value.ownBlock V0_1) := fun g hg => .inr (.inr (.inl hg.symm))
 have M0_1 : ∀ g, Value.ownBlock V0_1 = some g → w.heap.size ≤ g ∨ (g = G_0 ∨ some g = Value.ownBlock V0_0 ∨ some g = Value.ownBlock V0_1) := fun g hg => .inr (.inr (.inr hg.symm))
 refine calls_cw Try.func57 rfl Try.ntmps57 rfl ?_
 refine cw_seq ?_
 refine cw_region ?_
 refine ol_val (v := .int .i64 0) (by exact xr_assign rfl rfl) rfl rfl rfl ?_
 refine ol_nil ?_
 refine cw_seq ?_
 refine cw_seq ?_
 refine cw_region ?_
 refine ol_val (v := .pointer (some ⟨G_0, 0, none⟩)) (by exact xr_move rfl rfl) rfl rfl rfl ?_
 refine ol_val (v := .int .i64 a1) (by exact xr_move rfl rfl) rfl rfl rfl ?_
 obtain ⟨t7, k8, h⟩ := bs h
 refine ol_op (by exact opv_call rfl cal102 (ac rfl (ac rfl an)) (press_may.ok fu _ a0 G_0 V0_0 (O0_0.rd) V0_1 (O0_1.rd) b_0 a1 _ k8)) rfl rfl rfl ?_
 rintro _ w10 ⟨rfl, q9⟩
 have b_0 := b_0.gr q9
 have O0_0 := O0_0.gr q9
 have O0_1 := O0_1.gr q9
 have fB := fB.gr q9
 refine ol_val (v := .int .i64 t7) (by exact xr_assign rfl rfl) rfl rfl rfl ?_
 refine ol_nil ?_
 refine cw_seq ?_
 refine cw_region ?_
 refine ol_val (v := .int .i64 t7) (by exact xr_move rfl rfl) rfl rfl rfl ?_
 refine ol_val (v := .bool (!decide (t7 = 0))) (by exact xr_neI rfl Try.underlying31 rfl rfl rfl) rfl rfl rfl ?_
 refine ol_nil ?_
 rcases is h with ⟨c11, h⟩ | ⟨c11, h⟩
 ·refine cw_condT rfl c11 ?_
  refine cw_seq ?_
  refine cw_region ?_
  refine ol_val (v := .int .i64 t7) (by exact xr_move rfl rfl) rfl rfl rfl ?_
  refine ol_val (v := .int .i64 t7) (by exact xr_assign rfl rfl) rfl rfl rfl ?_
  refine ol_nil ?_
  refine cw_ret ?_
  repeat (first | with_reducible refine thn_r ?_ | with_reducible refine blk_r ?_)
  obtain rfl := Option.some.inj h
  refine fin_ret1 Try.results57 rfl ?_
  exact ⟨_, rfl, V0_0, V0_1, O0_0, M0_0, O0_1, M0_1, rfl, b_0, fB⟩
 refine cw_condF rfl c11 ?_
 refine cw_skip ?_
 refine cw_seq ?_
 refine cw_seq ?_
 refine cw_mid (fun ρ' w' => ρ' 0 = .pointer (some ⟨G_0, 0, none⟩) ∧ ρ' 1 = .int .i64 a1 ∧ ρ' 2 = .int .i64 a2 ∧ ρ' 3 = .int .u64 a3 ∧ ρ' 21 = .bool (if (decide (a2 < 0)) = true then true else (decide (a2 ≥ 8))) ∧ w10 = w') ?_ ?_
 ·skip
  refine cw_region ?_
  refine ol_val (v := .int .i64 a2) (by exact xr_move rfl rfl) rfl rfl rfl ?_
  refine ol_val (v := .bool (decide (a2 < 0))) (by exact xr_lss rfl rfl rfl) rfl rfl rfl ?_
  refine ol_val (v := .bool (decide (a2 < 0))) (by exact xr_move rfl rfl) rfl rfl rfl ?_
  rcases bt (decide (a2 < 0)) with c12 | c12
  ·skip
   refine ol_gskip rfl rfl rfl rfl rfl c12 ?_
   refine ol_gskip rfl rfl rfl rfl rfl c12 ?_
   refine ol_val (v := .bool true) (by exact xr_pickT rfl rfl c12 rfl) rfl rfl rfl ?_
   refine ol_nil ?_
   refine thn_i ?_
   exact ⟨rfl, rfl, rfl, rfl, (rfl).trans (congrArg (fun z => (.bool z : Value)) (show true = (if (decide (a2 < 0)) = true then true else (decide (a2 ≥ 8))) from by rw [ite_t c12])), rfl⟩
  refine ol_gval (v := .int .i64 a2) (by exact xr_move rfl rfl) rfl rfl rfl rfl rfl c12 ?_
  refine ol_gval (v := .bool (decide (a2 ≥ 8))) (by exact xr_geq rfl rfl rfl) rfl rfl rfl rfl rfl c12 ?_
  refine ol_val (v := .bool (decide (a2 ≥ 8))) (by exact xr_pickF rfl rfl c12 rfl) rfl rfl rfl ?_
  refine ol_nil ?_
  refine thn_i ?_
  exact ⟨rfl, rfl, rfl, rfl, (rfl).trans (congrArg (fun z => (.bool z : Value)) (show (decide (a2 ≥ 8)) = (if (decide (a2 < 0)) = true then true else (decide (a2 ≥ 8))) from by rw [ite_f c12])), rfl⟩
 rintro ρ13 _ ⟨e0, e1, e2, e3, e21, rfl⟩
 rcases is h with ⟨c14, h⟩ | ⟨c14, h⟩
 ·refine cw_condT e21 c14 ?_
  refine cw_seq ?_
  refine cw_region ?_
  refine ol_val (v := .int .i64 2) (by exact xr_assign rfl rfl) rfl rfl rfl ?_
  refine ol_nil ?_
  refine cw_ret ?_
  repeat (first | with_reducible refine thn_r ?_ | with_reducible refine blk_r ?_)
  obtain rfl := Option.some.inj h
  refine fin_ret1 Try.results57 rfl ?_
  exact ⟨_, rfl, V0_0, V0_1, O0_0, M0_0, O0_1, M0_1, rfl, b_0, fB⟩
 refine cw_condF e21 c14 ?_
 refine cw_skip ?_
 refine cw_seq ?_
 refine cw_region ?_
 refine ol_val (v := .pointer (some ⟨G_0, 0, none⟩)) (by exact xr_move rfl e0) rfl rfl rfl ?_
 refine ol_val (v := .int .i64 a1) (by exact xr_move rfl e1) rfl rfl rfl ?_
 refine ol_val (v := .int .i64 a2) (by exact xr_move rfl e2) rfl rfl rfl ?_
 refine ol_val (v := .int .u64 a3) (by exact xr_move rfl e3) rfl rfl rfl ?_
 refine ol_op (by exact opv_buildSlice (K := (kI .u64)) (xs := [a3]) (vals := [.int .u64 a3]) rfl Try.underlying46 el22 rfl rfl ⟨rfl, rfl, trivial⟩ rfl rfl rfl fB.size) rfl rfl rfl ?_
 rintro v15 w20 ⟨o17, q16, z18⟩
 have b_0 := b_0.gr q16
 have O0_0 := O0_0.gr q16
 have O0_1 := O0_1.gr q16
 have fB := fB.gr q16
 obtain ⟨t21, k22, h⟩ := bs h
 have c32 : ∀ k, (k = G_0 ∨ some k = Value.ownBlock V0_0 ∨ some k = Value.ownBlock V0_1) → (w.heap.size ≤ k ∨ (k = G_0 ∨ some k = Value.ownBlock V0_0 ∨ some k = Value.ownBlock V0_1)) := (cv_or (cv_eq (.inr (.inl rfl))) (cv_or (cv_own M0_0) (cv_own M0_1)))
 refine ol_op (by exact opv_call rfl cal103 (ac rfl (ac rfl (ac rfl (ac rfl an)))) (press_store.ok fu _ a0 G_0 V0_0 (Own.base O0_0 (Nat.zero_le _)) V0_1 (Own.base O0_1 (Nat.zero_le _)) b_0 a1 a2 [a3] v15 (o17.rd) (OffR.own o17 (off_ty b_0 o17 (by decide))) (OffRV.own o17 (OffV.ty o17 O0_0 (by decide))) (OffRV.own o17 (OffV.ty o17 O0_1 (by decide))) _ k22)) rfl rfl rfl ?_
 rintro _ w33 ⟨u24, u28, o25, m26, o29, m30, rfl, b_0, q23⟩
 have m26 : ∀ g, Value.ownBlock u24 = some g → w.heap.size ≤ g ∨ (g = G_0 ∨ some g = Value.ownBlock V0_0 ∨ some g = Value.ownBlock V0_1) := fun g hg => (m26 g hg).elim (fun x => .inl (Nat.le_trans fB.size x)) (c32 g)
 have m30 : ∀ g, Value.ownBlock u28 = some g → w.heap.size ≤ g ∨ (g = G_0 ∨ some g = Value.ownBlock V0_0 ∨ some g = Value.ownBlock V0_1) := fun g hg => (m30 g hg).elim (fun x => .inl (Nat.le_trans fB.size x)) (c32 g)
 have fB := fB.call q23 c32
 refine ol_val (v := .int .i64 t21.1) (by exact xr_assign rfl rfl) rfl rfl rfl ?_
 refine ol_nil ?_
 refine cw_ret ?_
 repeat (first | with_reducible refine thn_r ?_ | with_reducible refine blk_r ?_)
 obtain rfl := Option.some.inj h
 refine fin_ret1 Try.results57 rfl ?_
 exact ⟨_, rfl, u24, u28, o25, m26, o29, m30, rfl, b_0, fB⟩
def rickyardref01_Number.s0 (fu : Nat) (a0 : List UInt8) : (Int × Int) → Option (Sum Int (Int × Int)) := fun s1 => (if (decide (s1.2 ≥ 0)) = true then (((if (decide (s1.2 < 8)) = true then (if 0 ≤ s1.2 ∧ s1.2 < (List.length a0 : Int) then some ((IntKind.u64.wrap ((IntKind.u64.wrap (s1.1 * 256)) + (IntKind.u64.wrap (ofB (List.getD a0 (Int.toNat s1.2) 0)))))) else none) else some (s1.1)) : Option Int).bind fun x9 => some (Sum.inr (x9, (IntKind.i64.wrap (s1.2 - 1))))) else some (Sum.inl (s1.1)))
def rickyardref01_Number.f (fu : Nat) (a0 : List UInt8) : Option Int := ((loopM (rickyardref01_Number.s0 fu a0) fu (0, (IntKind.i64.wrap ((List.length a0 : Int) - 1)))).bind fun e2 => some (e2))
set_option maxRecDepth 100000 in
set_option maxHeartbeats 400000 in
theorem rickyardref01_Number.ok (fu : Nat) (w : World) (a0 : List UInt8) (r : Int) (h : rickyardref01_Number.f fu a0 = some r) :
  Calls Try.prog 41 (([sv a0] : List Value).toArray) w (fun e w' => ∃ v, e = .returned v ∧ v = .int .u64 r ∧ Gr w w') := by
 unfold rickyardref01_Number.f at h
 have fB : Gr w w := Fr.refl _ _
 refine calls_cw Try.func41 rfl Try.ntmps41 rfl ?_
 refine cw_seq ?_
 refine cw_region ?_
 refine ol_val (v := .int .u64 0) (by exact xr_assign rfl rfl) rfl rfl rfl ?_
 refine ol_nil ?_
 refine cw_seq ?_
 refine cw_region ?_
 refine ol_val (v := .int .u64 0) (by exact xr_assign rfl rfl) rfl rfl rfl ?_
 refine ol_nil ?_
 refine cw_seq ?_
 refine cw_seq ?_
 refine cw_region ?_
 refine ol_val (v := sv a0) (by exact xr_move rfl rfl) rfl rfl rfl ?_
 refine ol_val (v := .int .i64 (List.length a0 : Int)) (by exact xr_lenStr rfl Try.underlying9 rfl) rfl rfl rfl ?_
 refine ol_val (v := .int .i64 (IntKind.i64.wrap ((List.length a0 : Int) - 1))) (by exact xr_sub rfl rfl rfl) rfl rfl rfl ?_
 refine ol_val (v := .int .i64 (IntKind.i64.wrap ((List.length a0 : Int) - 1))) (by exact xr_assign rfl rfl) rfl rfl rfl ?_
 refine ol_nil ?_
 obtain ⟨e2, l3, h4⟩ := bs h
 refine cw_mid (fun ρ' w' => ρ' 3 = .int .u64 e2 ∧ Gr w w') ?_ ?_
 ·refine cw_block ?_
  refine cw_round (fun (s1 : Int × Int) ρ' w' => ρ' 0 = sv a0 ∧ ρ' 3 = .int .u64 s1.1 ∧ ρ' 4 = .int .i64 s1.2 ∧ Gr w w') l3 ?_ ?_
  ·skip
   exact ⟨rfl, rfl, rfl, fB⟩
  rintro s1 x7 ρ5 w6 ⟨e0, e3, e4, fB⟩ h
  unfold rickyardref01_Number.s0 at h
  refine cw_seq ?_
  refine cw_seq ?_
  refine cw_region ?_
  refine ol_val (v := .int .i64 s1.2) (by exact xr_move rfl e4) rfl rfl rfl ?_
  refine ol_val (v := .bool (decide (s1.2 ≥ 0))) (by exact xr_geq rfl rfl rfl) rfl rfl rfl ?_
  refine ol_nil ?_
  rcases is h with ⟨c8, h⟩ | ⟨c8, h⟩
  ·refine cw_condT rfl c8 ?_
   refine cw_skip ?_
   refine cw_seq ?_
   refine cw_block ?_
   refine cw_seq ?_
   refine cw_region ?_
   refine ol_val (v := .int .i64 s1.2) (by exact xr_move rfl e4) rfl rfl rfl ?_
   refine ol_val (v := .bool (decide (s1.2 < 8))) (by exact xr_lss rfl rfl rfl) rfl rfl rfl ?_
   refine ol_nil ?_
   obtain ⟨x9, j10, h11⟩ := bs h
   refine cw_mid (fun ρ' w' => ρ' 0 = sv a0 ∧ ρ' 3 = .int .u64 x9 ∧ ρ' 4 = .int .i64 s1.2 ∧ Gr w w') ?_ ?_
   ·have h := j10
    rcases is h with ⟨c12, h⟩ | ⟨c12, h⟩
    ·refine cw_condT rfl c12 ?_
     refine cw_region ?_
     refine ol_val (v := .int .u64 s1.1) (by exact xr_move rfl e3) rfl rfl rfl ?_
     refine ol_val (v := .int .u64 (IntKind.u64.wrap (s1.1 * 256))) (by exact xr_mul rfl rfl rfl) rfl rfl rfl ?_
     refine ol_val (v := sv a0) (by exact xr_move rfl e0) rfl rfl rfl ?_
     refine ol_val (v := .int .i64 s1.2) (by exact xr_move rfl e4) rfl rfl rfl ?_
     obtain ⟨g13, h⟩ := gs h
     refine ol_val (v := .int .u8 (ofB (List.getD a0 (Int.toNat s1.2) 0))) (by exact xr_indexStr rfl Try.underlying9 rfl rfl g13.1 g13.2) rfl rfl rfl ?_
     refine ol_val (v := .int .u64 (IntKind.u64.wrap (ofB (List.getD a0 (Int.toNat s1.2) 0)))) (by exact xr_conv rfl Try.underlying5 Try.underlying22 rfl) rfl rfl rfl ?_
     refine ol_val (v := .int .u64 (IntKind.u64.wrap ((IntKind.u64.wrap (s1.1 * 256)) + (IntKind.u64.wrap (ofB (List.getD a0 (Int.toNat s1.2) 0)))))) (by exact xr_add rfl rfl rfl) rfl rfl rfl ?_
     refine ol_val (v := .int .u64 (IntKind.u64.wrap ((IntKind.u64.wrap (s1.1 * 256)) + (IntKind.u64.wrap (ofB (List.getD a0 (Int.toNat s1.2) 0)))))) (by exact xr_assign rfl rfl) rfl rfl rfl ?_
     refine ol_nil ?_
     obtain rfl := Option.some.inj h
     refine thn_i ?_
     exact ⟨e0, rfl, e4, fB⟩
    refine cw_condF rfl c12 ?_
    refine cw_skip ?_
    obtain rfl := Option.some.inj h
    refine thn_i ?_
    exact ⟨e0, e3, e4, fB⟩
   rintro ρ14 w15 ⟨e0, e3, e4, fB⟩
   have h := h11
   refine blk_i ?_
   refine cw_region ?_
   refine ol_val (v := .int .i64 s1.2) (by exact xr_move rfl e4) rfl rfl rfl ?_
   refine ol_val (v := .int .i64 (IntKind.i64.wrap (s1.2 - 1))) (by exact xr_sub rfl rfl rfl) rfl rfl rfl ?_
   refine ol_val (v := .int .i64 (IntKind.i64.wrap (s1.2 - 1))) (by exact xr_assign rfl rfl) rfl rfl rfl ?_
   refine ol_nil ?_
   obtain rfl := Option.some.inj h
   refine lp_in ?_
   exact ⟨e0, e3, rfl, fB⟩
  refine cw_condF rfl c8 ?_
  refine cw_exit ?_
  repeat (first | with_reducible refine thn_e ?_ | with_reducible refine blk_e rfl ?_)
  obtain rfl := Option.some.inj h
  refine lp_exit ?_
  rintro rfl
  refine thn_x ?_
  exact ⟨e3, fB⟩
 rintro ρ16 w17 ⟨e3, fB⟩
 have h := h4
 refine cw_seq ?_
 refine cw_region ?_
 refine ol_val (v := .int .u64 e2) (by exact xr_move rfl e3) rfl rfl rfl ?_
 refine ol_val (v := .int .u64 e2) (by exact xr_assign rfl rfl) rfl rfl rfl ?_
 refine ol_nil ?_
 refine cw_ret ?_
 repeat (first | with_reducible refine thn_r ?_ | with_reducible refine blk_r ?_)
 obtain rfl := Option.some.inj h
 refine fin_ret1 Try.results41 rfl ?_
 exact ⟨_, rfl, rfl, fB⟩
def rickyardref15_Lines.f (fu : Nat) (a0 : S_rickyardref05_Device) : Option Int := some ((IntKind.i64.wrap (Int.tdiv (List.length a0.Lasts : Int) 8)))
set_option maxRecDepth 100000 in
set_option maxHeartbeats 400000 in
theorem rickyardref15_Lines.ok (fu : Nat) (w : World) (a0 : S_rickyardref05_Device) (G_0 : Nat) (V0_0 : Value) (R0_0 : Rd (kI .u64) w V0_0 a0.Lasts) (V0_1 : Value) (R0_1 : Rd (kI .u64) w V0_1 a0.Stored) (V0_2 : Value) (R0_2 : Rd (kI .u64) w V0_2 a0.Sent) (V0_3 : Value) (R0_3 : Rd kB w V0_3 a0.Flushed) (V0_4 : Value) (R0_4 : Rd (kI .i64) w V0_4 a0.Plan) (b_0 : Blk w G_0 65 [Seg.cell V0_0 R0_0.one, Seg.cell V0_1 R0_1.one, Seg.cell V0_2 R0_2.one, Seg.cell V0_3 R0_3.one, Seg.cell V0_4 R0_4.one, Seg.cell (.int .i64 a0.Since), Seg.cell (.int .i64 a0.Left), Seg.cell (.int .i64 a0.Steps)]) (r : Int) (h : rickyardref15_Lines.f fu a0 = some r) :
  Calls Try.prog 129 (([.pointer (some ⟨G_0, 0, none⟩)] : List Value).toArray) w (fun e w' => ∃ v, e = .returned v ∧ v = .int .i64 r ∧ Gr w w') := by
 unfold rickyardref15_Lines.f at h
 have fB : Gr w w := Fr.refl _ _
 refine calls_cw Try.func129 rfl Try.ntmps129 rfl ?_
 refine cw_seq ?_
 refine cw_region ?_
 refine ol_val (v := .int .i64 0) (by exact xr_assign rfl rfl) rfl rfl rfl ?_
 refine ol_nil ?_
 refine cw_seq ?_
 refine cw_region ?_
 refine ol_val (v := .pointer (some ⟨G_0, 0, none⟩)) (by exact xr_move rfl rfl) rfl rfl rfl ?_
 refine ol_val (v := .pointer (some ⟨G_0, 0, none⟩)) (by exact xr_nilCheck rfl rfl) rfl rfl rfl ?_
 refine ol_val (v := .pointer (some ⟨G_0, 0, none⟩)) (by exact xr_fieldAddr (p := 0) (q := 0) rfl fl65_0 rfl) rfl rfl rfl ?_
 refine ol_val (v := V0_0) (by exact xr_load1 (v := V0_0) rfl ag46 rfl (b_0.seg 0 rfl rfl)) rfl rfl rfl ?_
 refine ol_val (v := .int .i64 (List.length a0.Lasts : Int)) (by exact xr_lenR rfl Try.underlying46 rfl (R0_0.gr fB)) rfl rfl rfl ?_
 refine ol_val (v := .int .i64 (IntKind.i64.wrap (Int.tdiv (List.length a0.Lasts : Int) 8))) (by exact xr_quo rfl rfl rfl (by decide)) rfl rfl rfl ?_
 refine ol_val (v := .int .i64 (IntKind.i64.wrap (Int.tdiv (List.length a0.Lasts : Int) 8))) (by exact xr_assign rfl rfl) rfl rfl rfl ?_
 refine ol_nil ?_
 refine cw_ret ?_
 repeat (first | with_reducible refine thn_r ?_ | with_reducible refine blk_r ?_)
 obtain rfl := Option.some.inj h
 refine fin_ret1 Try.results129 rfl ?_
 exact ⟨_, rfl, rfl, fB⟩
def rickyardref15_Write.s0 (fu : Nat) (a1 : Int) (a2 : List Int) : (Int × (List Int) × (List Int) × (List Int) × (List Bool) × (List Int) × Int × Int × Int) → Option (Sum (Sum (Int × S_rickyardref05_Device) ((List Int) × (List Int) × (List Int) × (List Bool) × (List Int) × Int × Int × Int)) (Int × (List Int) × (List Int) × (List Int) × (List Bool) × (List Int) × Int × Int × Int)) := fun s31 => (if (decide (s31.1 < 8)) = true then (if (0 : Int) ≤ (IntKind.i64.wrap (8 * s31.1)) ∧ (IntKind.i64.wrap (8 * s31.1)) ≤ (IntKind.i64.wrap ((IntKind.i64.wrap (8 * s31.1)) + 8)) ∧ (IntKind.i64.wrap ((IntKind.i64.wrap (8 * s31.1)) + 8)) ≤ (List.length a2 : Int) then ((rickyardref01_Number.f fu (List.map toB (cut a2 (IntKind.i64.wrap (8 * s31.1)) (IntKind.i64.wrap ((IntKind.i64.wrap (8 * s31.1)) + 8)))) : Option Int).bind fun t93 => ((rickyardref05_Device_Store.f fu (⟨s31.2.1, s31.2.2.1, s31.2.2.2.1, s31.2.2.2.2.1, s31.2.2.2.2.2.1, s31.2.2.2.2.2.2.1, s31.2.2.2.2.2.2.2.1, s31.2.2.2.2.2.2.2.2⟩ : S_rickyardref05_Device) (IntKind.i64.wrap ((IntKind.i64.wrap (8 * a1)) + s31.1)) t93 : Option (Int × S_rickyardref05_Device)).bind fun t97 => (if (!decide (t97.1 = 0)) = true then some (Sum.inl (Sum.inl (t97.1, t97.2))) else some (Sum.inr ((IntKind.i64.wrap (s31.1 + 1)), t97.2.Lasts, t97.2.Stored, t97.2.Sent, t97.2.Flushed, t97.2.Plan, t97.2.Since, t97.2.Left, t97.2.Steps))))) else none) else some (Sum.inl (Sum.inr (s31.2.1, s31.2.2.1, s31.2.2.2.1, s31.2.2.2.2.1, s31.2.2.2.2.2.1, s31.2.2.2.2.2.2.1, s31.2.2.2.2.2.2.2.1, s31.2.2.2.2.2.2.2.2))))
def rickyardref15_Write.f (fu : Nat) (a0 : S_rickyardref05_Device) (a1 : Int) (a2 : List Int) : Option (Int × S_rickyardref05_Device) := (((if (decide (a1 < 0)) = true then some (true) else ((rickyardref15_Lines.f fu a0 : Option Int).bind fun t22 => (if (decide (a1 ≥ t22)) = true then some (true) else some ((!decide ((List.length a2 : Int) = 64)))))) : Option Bool).bind fun x19 => (if x19 = true then some (2, a0) else ((loopM (rickyardref15_Write.s0 fu a1 a2) fu (0, a0.Lasts, a0.Stored, a0.Sent, a0.Flushed, a0.Plan, a0.Since, a0.Left, a0.Steps)).bind fun e32 => match e32 with | Sum.inl p => some p | Sum.inr x35 => ((rickyardref05_Device_Flush.f fu (⟨x35.1, x35.2.1, x35.2.2.1, x35.2.2.2.1, x35.2.2.2.2.1, x35.2.2.2.2.2.1, x35.2.2.2.2.2.2.1, x35.2.2.2.2.2.2.2⟩ : S_rickyardref05_Device) a1 : Option (Int × S_rickyardref05_Device)).bind fun t134 => some (t134.1, t134.2)))))
set_option maxRecDepth 100000 in
set_option maxHeartbeats 400000 in
theorem rickyardref15_Write.ok (fu : Nat) (w : World) (a0 : S_rickyardref05_Device) (G_0 : Nat) (V0_0 : Value) (O0_0 : Own (kI .u64) 22 w 0 V0_0 a0.Lasts) (V0_1 : Value) (O0_1 : Own (kI .u64) 22 w 0 V0_1 a0.Stored) (V0_2 : Value) (O0_2 : Own (kI .u64) 22 w 0 V0_2 a0.Sent) (V0_3 : Value) (O0_3 : Own kB 4 w 0 V0_3 a0.Flushed) (V0_4 : Value) (O0_4 : Own (kI .i64) 3 w 0 V0_4 a0.Plan) (b_0 : Blk w G_0 65 [Seg.cell V0_0 O0_0.one, Seg.cell V0_1 O0_1.one, Seg.cell V0_2 O0_2.one, Seg.cell V0_3 O0_3.one, Seg.cell V0_4 O0_4.one, Seg.cell (.int .i64 a0.Since), Seg.cell (.int .i64 a0.Left), Seg.cell (.int .i64 a0.Steps)]) (a1 : Int) (a2 : List Int) (V2_0 : Value) (R2_0 : Rd (kI .u8) w V2_0 a2) (A_R0_0_R0_1 : OffV V0_0 V0_1) (A_R0_0_R0_2 : OffV V0_0 V0_2) (A_R0_1_R0_2 : OffV V0_1 V0_2) (NR2_0_P0 : OffR V2_0 a2 G_0) (NR2_0_R0_0 : OffRV V2_0 a2 V0_0) (NR2_0_R0_1 : OffRV V2_0 a2 V0_1) (NR2_0_R0_2 : OffRV V2_0 a2 V0_2) (NR2_0_R0_3 : OffRV V2_0 a2 V0_3) (NR2_0_R0_4 : OffRV V2_0 a2 V0_4) (r : Int × S_rickyardref05_Device) (h : rickyardref15_Write.f fu a0 a1 a2 = some r) :
  Calls Try.prog 105 (([.pointer (some ⟨G_0, 0, none⟩), .int .i64 a1, V2_0] : List Value).toArray) w (fun e w' => ∃ v, e = .returned v ∧ ∃ u1 : Value, ∃ u4 : Value, ∃ u7 : Value, ∃ u10 : Value, ∃ u13 : Value, ∃ o2 : Own (kI .u64) 22 w' 0 u1 r.2.Lasts, ∃ m3 : ∀ g, Value.ownBlock u1 = some g → w.heap.size ≤ g ∨ (g = G_0 ∨ some g = Value.ownBlock V0_0 ∨ some g = Value.ownBlock V0_1 ∨ some g = Value.ownBlock V0_2 ∨ some g = Value.ownBlock V0_3 ∨ some g = Value.ownBlock V0_4), ∃ o5 : Own (kI .u64) 22 w' 0 u4 r.2.Stored, ∃ m6 : ∀ g, Value.ownBlock u4 = some g → w.heap.size ≤ g ∨ (g = G_0 ∨ some g = Value.ownBlock V0_0 ∨ some g = Value.ownBlock V0_1 ∨ some g = Value.ownBlock V0_2 ∨ some g = Value.ownBlock V0_3 ∨ some g = Value.ownBlock V0_4), ∃ o8 : Own (kI .u64) 22 w' 0 u7 r.2.Sent, ∃ m9 : ∀ g, Value.ownBlock u7 = some g → w.heap.size ≤ g ∨ (g = G_0 ∨ some g = Value.ownBlock V0_0 ∨ some g = Value.ownBlock V0_1 ∨ some g = Value.ownBlock V0_2 ∨ some g = Value.ownBlock V0_3 ∨ some g = Value.ownBlock V0_4), ∃ o11 : Own kB 4 w' 0 u10 r.2.Flushed, ∃ m12 : ∀ g, Value.ownBlock u10 = some g → w.heap.size ≤ g ∨ (g = G_0 ∨ some g = Value.ownBlock V0_0 ∨ some g = Value.ownBlock V0_1 ∨ some g = Value.ownBlock V0_2 ∨ some g = Value.ownBlock V0_3 ∨ some g = Value.ownBlock V0_4), ∃ o14 : Own (kI .i64) 3 w' 0 u13 r.2.Plan, ∃ m15 : ∀ g, Value.ownBlock u13 = some g → w.heap.size ≤ g ∨ (g = G_0 ∨ some g = Value.ownBlock V0_0 ∨ some g = Value.ownBlock V0_1 ∨ some g = Value.ownBlock V0_2 ∨ some g = Value.ownBlock V0_3 ∨ some g = Value.ownBlock V0_4), ∃ a16 : OffV u1 u4, ∃ a17 : OffV u1 u7, ∃ a18 : OffV u4 u7, v = .int .i64 r.1 ∧ Blk w' G_0 65 [Seg.cell u1 o2.one, Seg.cell u4 o5.one, Seg.cell u7 o8.one, Seg.cell u10 o11.one, Seg.cell u13 o14.one, Seg.cell (.int .i64 r.2.Since), Seg.cell (.int .i64 r.2.Left), Seg.cell (.int .i64 r.2.Steps)] ∧ Fr (fun j => j = G_0 ∨ some j = Value.ownBlock V0_0 ∨ some j = Value.ownBlock V0_1 ∨ some j = Value.ownBlock V0_2 ∨ some j = Value.ownBlock V0_3 ∨ some j = Value.ownBlock V0_4) w w') := by
 unfold rickyardref15_Write.f at h
 have fB : Fr (fun j => j = G_0 ∨ some j = Value.ownBlock V0_0 ∨ some j = Value.ownBlock V0_1 ∨ some j = Value.ownBlock V0_2 ∨ some j = Value.ownBlock V0_3 ∨ some j = Value.ownBlock V0_4) w w := Fr.refl _ _
 have M0_0 : ∀ g, Value.ownBlock V0_0 = some g → w.heap.size ≤ g ∨ (g = G_0 ∨ some g = Value.ownBlock V0_0 ∨ some g = Value.ownBlock V0_1 ∨ some g = Value.ownBlock V0_2 ∨ some g = Value.ownBlock V0_3 ∨ some g = Value.ownBlock V0_4) := fun g hg => .inr (.inr (.inl hg.symm))
 have M0_1 : ∀ g, Value.ownBlock V0_1 = some g → w.heap.size ≤ g ∨ (g = G_0 ∨ some g = Value.ownBlock V0_0 ∨ some g = Value.ownBlock V0_1 ∨ some g = Value.ownBlock V0_2 ∨ some g = Value.ownBlock V0_3 ∨ some g = Value.ownBlock V0_4) := fun g hg => .inr (.inr (.inr (.inl hg.symm)))
 have M0_2 : ∀ g, Value.ownBlock V0_2 = some g → w.heap.size ≤ g ∨ (g = G_0 ∨ some g = Value.ownBlock V0_0 ∨ some g = Value.ownBlock V0_1 ∨ some g = Value.ownBlock V0_2 ∨ some g = Value.ownBlock V0_3 ∨ some g = Value.ownBlock V0_4) := fun g hg => .inr (.inr (.inr (.inr (.inl hg.symm))))
 have M0_3 : ∀ g, Value.ownBlock V0_3 = some g → w.heap.size ≤ g ∨ (g = G_0 ∨ some g = Value.ownBlock V0_0 ∨ some g = Value.ownBlock V0_1 ∨ some g = Value.ownBlock V0_2 ∨ some g = Value.ownBlock V0_3 ∨ some g = Value.ownBlock V0_4) := fun g hg => .inr (.inr (.inr (.inr (.inr (.inl hg.symm)))))
 have M0_4 : ∀ g, Value.ownBlock V0_4 = some g → w.heap.size ≤ g ∨ (g = G_0 ∨ some g = Value.ownBlock V0_0 ∨ some g = Value.ownBlock V0_1 ∨ some g = Value.ownBlock V0_2 ∨ some g = Value.ownBlock V0_3 ∨ some g = Value.ownBlock V0_4) := fun g hg => .inr (.inr (.inr (.inr (.inr (.inr hg.symm)))))
 refine calls_cw Try.func105 rfl Try.ntmps105 rfl ?_
 refine cw_seq ?_
 refine cw_region ?_
 refine ol_val (v := .int .i64 0) (by exact xr_assign rfl rfl) rfl rfl rfl ?_
 refine ol_nil ?_
 refine cw_seq ?_
 refine cw_seq ?_
 obtain ⟨x19, j20, h⟩ := bs h
 refine cw_mid (fun ρ' w' => ρ' 0 = .pointer (some ⟨G_0, 0, none⟩) ∧ ρ' 1 = .int .i64 a1 ∧ ρ' 2 = V2_0 ∧ ρ' 21 = .bool x19 ∧ Gr w w') ?_ ?_
 ·skip
  refine cw_region ?_
  refine ol_val (v := .int .i64 a1) (by exact xr_move rfl rfl) rfl rfl rfl ?_
  refine ol_val (v := .bool (decide (a1 < 0))) (by exact xr_lss rfl rfl rfl) rfl rfl rfl ?_
  refine ol_val (v := .bool (decide (a1 < 0))) (by exact xr_move rfl rfl) rfl rfl rfl ?_
  rcases is j20 with ⟨c21, j20⟩ | ⟨c21, j20⟩
  ·skip
   refine ol_gskip rfl rfl rfl rfl rfl c21 ?_
   refine ol_gskip rfl rfl rfl rfl rfl c21 ?_
   refine ol_gskip rfl rfl rfl rfl rfl c21 ?_
   refine ol_gskip rfl rfl rfl rfl rfl c21 ?_
   refine ol_val (v := .bool true) (by exact xr_pickT rfl rfl c21 rfl) rfl rfl rfl ?_
   refine ol_val (v := .bool true) (by exact xr_move rfl rfl) rfl rfl rfl ?_
   refine ol_gskip rfl rfl rfl rfl rfl rfl ?_
   refine ol_gskip rfl rfl rfl rfl rfl rfl ?_
   refine ol_gskip rfl rfl rfl rfl rfl rfl ?_
   refine ol_val (v := .bool true) (by exact xr_pickT rfl rfl rfl rfl) rfl rfl rfl ?_
   refine ol_nil ?_
   obtain rfl := Option.some.inj j20
   refine thn_i ?_
   exact ⟨rfl, rfl, rfl, rfl, Fr.refl _ _⟩
  refine ol_gval (v := .int .i64 a1) (by exact xr_move rfl rfl) rfl rfl rfl rfl rfl c21 ?_
  refine ol_gval (v := .pointer (some ⟨G_0, 0, none⟩)) (by exact xr_move rfl rfl) rfl rfl rfl rfl rfl c21 ?_
  obtain ⟨t22, k23, j20⟩ := bs j20
  refine ol_gop (by exact opv_call rfl cal129 (ac rfl an) (rickyardref15_Lines.ok fu _ a0 G_0 V0_0 (O0_0.rd) V0_1 (O0_1.rd) V0_2 (O0_2.rd) V0_3 (O0_3.rd) V0_4 (O0_4.rd) b_0 _ k23)) rfl rfl rfl rfl rfl c21 ?_
  rintro _ w25 ⟨rfl, q24⟩
  have b_0 := b_0.gr q24
  have O0_0 := O0_0.gr q24
  have O0_1 := O0_1.gr q24
  have O0_2 := O0_2.gr q24
  have O0_3 := O0_3.gr q24
  have O0_4 := O0_4.gr q24
  have R2_0 := R2_0.gr q24
  have fB := fB.gr q24
  refine ol_gval (v := .bool (decide (a1 ≥ t22))) (by exact xr_geq rfl rfl rfl) rfl rfl rfl rfl rfl c21 ?_
  refine ol_val (v := .bool (decide (a1 ≥ t22))) (by exact xr_pickF rfl rfl c21 rfl) rfl rfl rfl ?_
  refine ol_val (v := .bool (decide (a1 ≥ t22))) (by exact xr_move rfl rfl) rfl rfl rfl ?_
  rcases is j20 with ⟨c26, j20⟩ | ⟨c26, j20⟩
  ·skip
   refine ol_gskip rfl rfl rfl rfl rfl c26 ?_
   refine ol_gskip rfl rfl rfl rfl rfl c26 ?_
   refine ol_gskip rfl rfl rfl rfl rfl c26 ?_
   refine ol_val (v := .bool true) (by exact xr_pickT rfl rfl c26 rfl) rfl rfl rfl ?_
   refine ol_nil ?_
   obtain rfl := Option.some.inj j20
   refine thn_i ?_
   exact ⟨rfl, rfl, rfl, rfl, q24⟩
  refine ol_gval (v := V2_0) (by exact xr_move rfl rfl) rfl rfl rfl rfl rfl c26 ?_
  refine ol_gval (v := .int .i64 (List.length a2 : Int)) (by exact xr_lenR rfl Try.underlying43 rfl R2_0) rfl rfl rfl rfl rfl c26 ?_
  refine ol_gval (v := .bool (!decide ((List.length a2 : Int) = 64))) (by exact xr_neI rfl Try.underlying3 rfl rfl rfl) rfl rfl rfl rfl rfl c26 ?_
  refine ol_val (v := .bool (!decide ((List.length a2 : Int) = 64))) (by exact xr_pickF rfl rfl c26 rfl) rfl rfl rfl ?_
  refine ol_nil ?_
  obtain rfl := Option.some.inj j20
  refine thn_i ?_
  exact ⟨rfl, rfl, rfl, rfl, q24⟩
 rintro ρ27 w28 ⟨e0, e1, e2, e21, q29⟩
 have b_0 := b_0.gr q29
 have O0_0 := O0_0.gr q29
 have O0_1 := O0_1.gr q29
 have O0_2 := O0_2.gr q29
 have O0_3 := O0_3.gr q29
 have O0_4 := O0_4.gr q29
 have R2_0 := R2_0.gr q29
 have fB := fB.gr q29
 rcases is h with ⟨c30, h⟩ | ⟨c30, h⟩
 ·refine cw_condT e21 c30 ?_
  refine cw_seq ?_
  refine cw_region ?_
  refine ol_val (v := .int .i64 2) (by exact xr_assign rfl rfl) rfl rfl rfl ?_
  refine ol_nil ?_
  refine cw_ret ?_
  repeat (first | with_reducible refine thn_r ?_ | with_reducible refine blk_r ?_)
  obtain rfl := Option.some.inj h
  refine fin_ret1 Try.results105 rfl ?_
  exact ⟨_, rfl, V0_0, V0_1, V0_2, V0_3, V0_4, O0_0, M0_0, O0_1, M0_1, O0_2, M0_2, O0_3, M0_3, O0_4, M0_4, A_R0_0_R0_1, A_R0_0_R0_2, A_R0_1_R0_2, rfl, b_0, fB⟩
 refine cw_condF e21 c30 ?_
 refine cw_skip ?_
 refine cw_seq ?_
 refine cw_seq ?_
 refine cw_region ?_
 refine ol_val (v := .int .i64 0) (by exact xr_assign rfl rfl) rfl rfl rfl ?_
 refine ol_nil ?_
 obtain ⟨e32, l33, h34⟩ := bs h
 refine cw_mid (fun ρ' w' => ∃ x35, e32 = Sum.inr x35 ∧ ∃ v36 : Value, ∃ v40 : Value, ∃ v44 : Value, ∃ v48 : Value, ∃ v52 : Value, ∃ o37 : Own (kI .u64) 22 w' 0 v36 x35.1, ∃ o41 : Own (kI .u64) 22 w' 0 v40 x35.2.1, ∃ o45 : Own (kI .u64) 22 w' 0 v44 x35.2.2.1, ∃ o49 : Own kB 4 w' 0 v48 x35.2.2.2.1, ∃ o53 : Own (kI .i64) 3 w' 0 v52 x35.2.2.2.2.1, ∃ m39 : ∀ g, Value.ownBlock v36 = some g → w.heap.size ≤ g ∨ (g = G_0 ∨ some g = Value.ownBlock V0_0 ∨ some g = Value.ownBlock V0_1 ∨ some g = Value.ownBlock V0_2 ∨ some g = Value.ownBlock V0_3 ∨ some g = Value.ownBlock V0_4), ∃ m43 : ∀ g, Value.ownBlock v40 = some g → w.heap.size ≤ g ∨ (g = G_0 ∨ some g = Value.ownBlock V0_0 ∨ some g = Value.ownBlock V0_1 ∨ some g = Value.ownBlock V0_2 ∨ some g = Value.ownBlock V0_3 ∨ some g = Value.ownBlock V0_4), ∃ m47 : ∀ g, Value.ownBlock v44 = some g → w.heap.size ≤ g ∨ (g = G_0 ∨ some g = Value.ownBlock V0_0 ∨ some g = Value.ownBlock V0_1 ∨ some g = Value.ownBlock V0_2 ∨ some g = Value.ownBlock V0_3 ∨ some g = Value.ownBlock V0_4), ∃ m51 : ∀ g, Value.ownBlock v48 = some g → w.heap.size ≤ g ∨ (g = G_0 ∨ some g = Value.ownBlock V0_0 ∨ some g = Value.ownBlock V0_1 ∨ some g = Value.ownBlock V0_2 ∨ some g = Value.ownBlock V0_3 ∨ some g = Value.ownBlock V0_4), ∃ m55 : ∀ g, Value.ownBlock v52 = some g → w.heap.size ≤ g ∨ (g = G_0 ∨ some g = Value.ownBlock V0_0 ∨ some g = Value.ownBlock V0_1 ∨ some g = Value.ownBlock V0_2 ∨ some g = Value.ownBlock V0_3 ∨ some g = Value.ownBlock V0_4), OffV v36 v40 ∧ OffV v36 v44 ∧ OffV v40 v44 ∧ ρ' 0 = .pointer (some ⟨G_0, 0, none⟩) ∧ ρ' 1 = .int .i64 a1 ∧ Blk w' G_0 65 [Seg.cell v36 o37.one, Seg.cell v40 o41.one, Seg.cell v44 o45.one, Seg.cell v48 o49.one, Seg.cell v52 o53.one, Seg.cell (.int .i64 x35.2.2.2.2.2.1), Seg.cell (.int .i64 x35.2.2.2.2.2.2.1), Seg.cell (.int .i64 x35.2.2.2.2.2.2.2)] ∧ Fr (fun j => j = G_0 ∨ some j = Value.ownBlock V0_0 ∨ some j = Value.ownBlock V0_1 ∨ some j = Value.ownBlock V0_2 ∨ some j = Value.ownBlock V0_3 ∨ some j = Value.ownBlock V0_4) w w') ?_ ?_
 ·refine cw_block ?_
  refine cw_round (fun (s31 : Int × (List Int) × (List Int) × (List Int) × (List Bool) × (List Int) × Int × Int × Int) ρ' w' => ∃ v59 : Value, ∃ v63 : Value, ∃ v67 : Value, ∃ v71 : Value, ∃ v75 : Value, ∃ o60 : Own (kI .u64) 22 w' 0 v59 s31.2.1, ∃ o64 : Own (kI .u64) 22 w' 0 v63 s31.2.2.1, ∃ o68 : Own (kI .u64) 22 w' 0 v67 s31.2.2.2.1, ∃ o72 : Own kB 4 w' 0 v71 s31.2.2.2.2.1, ∃ o76 : Own (kI .i64) 3 w' 0 v75 s31.2.2.2.2.2.1, ∃ m62 : ∀ g, Value.ownBlock v59 = some g → w.heap.size ≤ g ∨ (g = G_0 ∨ some g = Value.ownBlock V0_0 ∨ some g = Value.ownBlock V0_1 ∨ some g = Value.ownBlock V0_2 ∨ some g = Value.ownBlock V0_3 ∨ some g = Value.ownBlock V0_4), ∃ m66 : ∀ g, Value.ownBlock v63 = some g → w.heap.size ≤ g ∨ (g = G_0 ∨ some g = Value.ownBlock V0_0 ∨ some g = Value.ownBlock V0_1 ∨ some g = Value.ownBlock V0_2 ∨ some g = Value.ownBlock V0_3 ∨ some g = Value.ownBlock V0_4), ∃ m70 : ∀ g, Value.ownBlock v67 = some g → w.heap.size ≤ g ∨ (g = G_0 ∨ some g = Value.ownBlock V0_0 ∨ some g = Value.ownBlock V0_1 ∨ some g = Value.ownBlock V0_2 ∨ some g = Value.ownBlock V0_3 ∨ some g = Value.ownBlock V0_4), ∃ m74 : ∀ g, Value.ownBlock v71 = some g → w.heap.size ≤ g ∨ (g = G_0 ∨ some g = Value.ownBlock V0_0 ∨ some g = Value.ownBlock V0_1 ∨ some g = Value.ownBlock V0_2 ∨ some g = Value.ownBlock V0_3 ∨ some g = Value.ownBlock V0_4), ∃ m78 : ∀ g, Value.ownBlock v75 = some g → w.heap.size ≤ g ∨ (g = G_0 ∨ some g = Value.ownBlock V0_0 ∨ some g = Value.ownBlock V0_1 ∨ some g = Value.ownBlock V0_2 ∨ some g = Value.ownBlock V0_3 ∨ some g = Value.ownBlock V0_4), ∃ R2_0 : Rd (kI .u8) w' V2_0 a2, OffV v59 v63 ∧ OffV v59 v67 ∧ OffV v63 v67 ∧ OffRV V2_0 a2 v59 ∧ OffRV V2_0 a2 v63 ∧ OffRV V2_0 a2 v67 ∧ OffRV V2_0 a2 v71 ∧ OffRV V2_0 a2 v75 ∧ ρ' 0 = .pointer (some ⟨G_0, 0, none⟩) ∧ ρ' 1 = .int .i64 a1 ∧ ρ' 2 = V2_0 ∧ ρ' 7 = .int .i64 s31.1 ∧ Blk w' G_0 65 [Seg.cell v59 o60.one, Seg.cell v63 o64.one, Seg.cell v67 o68.one, Seg.cell v71 o72.one, Seg.cell v75 o76.one, Seg.cell (.int .i64 s31.2.2.2.2.2.2.1), Seg.cell (.int .i64 s31.2.2.2.2.2.2.2.1), Seg.cell (.int .i64 s31.2.2.2.2.2.2.2.2)] ∧ Fr (fun j => j = G_0 ∨ some j = Value.ownBlock V0_0 ∨ some j = Value.ownBlock V0_1 ∨ some j = Value.ownBlock V0_2 ∨ some j = Value.ownBlock V0_3 ∨ some j = Value.ownBlock V0_4) w w') l33 ?_ ?_
  ·skip
   exact ⟨V0_0, V0_1, V0_2, V0_3, V0_4, O0_0, O0_1, O0_2, O0_3, O0_4, M0_0, M0_1, M0_2, M0_3, M0_4, R2_0, A_R0_0_R0_1, A_R0_0_R0_2, A_R0_1_R0_2, NR2_0_R0_0, NR2_0_R0_1, NR2_0_R0_2, NR2_0_R0_3, NR2_0_R0_4, e0, e1, e2, rfl, b_0, fB⟩
  rintro s31 x89 ρ87 w88 ⟨v59, v63, v67, v71, v75, o60, o64, o68, o72, o76, m62, m66, m70, m74, m78, R2_0, a79, a80, a81, a82, a83, a84, a85, a86, e0, e1, e2, e7, b_0, fB⟩ h
  unfold rickyardref15_Write.s0 at h
  refine cw_seq ?_
  refine cw_seq ?_
  refine cw_region ?_
  refine ol_val (v := .int .i64 s31.1) (by exact xr_move rfl e7) rfl rfl rfl ?_
  refine ol_val (v := .bool (decide (s31.1 < 8))) (by exact xr_lss rfl rfl rfl) rfl rfl rfl ?_
  refine ol_nil ?_
  rcases is h with ⟨c90, h⟩ | ⟨c90, h⟩
  ·refine cw_condT rfl c90 ?_
   refine cw_skip ?_
   refine cw_seq ?_
   refine cw_block ?_
   refine cw_seq ?_
   refine cw_region ?_
   refine ol_val (v := .pointer (some ⟨G_0, 0, none⟩)) (by exact xr_move rfl e0) rfl rfl rfl ?_
   refine ol_val (v := .int .i64 a1) (by exact xr_move rfl e1) rfl rfl rfl ?_
   refine ol_val (v := .int .i64 (IntKind.i64.wrap (8 * a1))) (by exact xr_mul rfl rfl rfl) rfl rfl rfl ?_
   refine ol_val (v := .int .i64 s31.1) (by exact xr_move rfl e7) rfl rfl rfl ?_
   refine ol_val (v := .int .i64 (IntKind.i64.wrap ((IntKind.i64.wrap (8 * a1)) + s31.1))) (by exact xr_add rfl rfl rfl) rfl rfl rfl ?_
   refine ol_val (v := V2_0) (by exact xr_move rfl e2) rfl rfl rfl ?_
   refine ol_val (v := .int .i64 s31.1) (by exact xr_move rfl e7) rfl rfl rfl ?_
   refine ol_val (v := .int .i64 (IntKind.i64.wrap (8 * s31.1))) (by exact xr_mul rfl rfl rfl) rfl rfl rfl ?_
   refine ol_val (v := .int .i64 s31.1) (by exact xr_move rfl e7) rfl rfl rfl ?_
   refine ol_val (v := .int .i64 (IntKind.i64.wrap (8 * s31.1))) (by exact xr_mul rfl rfl rfl) rfl rfl rfl ?_
   refine ol_val (v := .int .i64 (IntKind.i64.wrap ((IntKind.i64.wrap (8 * s31.1)) + 8))) (by exact xr_add rfl rfl rfl) rfl rfl rfl ?_
   obtain ⟨g92, h⟩ := gs h
   refine ol_val (v := subv 1 V2_0 (Int.toNat (IntKind.i64.wrap (8 * s31.1))) (Int.toNat (IntKind.i64.wrap ((IntKind.i64.wrap (8 * s31.1)) + 8)))) (by exact xr_slice_lh (K := (kI .u8)) (v := V2_0) rfl Try.underlying43 sz5 rfl R2_0 rfl rfl g92.1 g92.2.1 g92.2.2) rfl rfl rfl ?_
   have r91 : Rd (kI .u8) w88 (subv 1 V2_0 (Int.toNat (IntKind.i64.wrap (8 * s31.1))) (Int.toNat (IntKind.i64.wrap ((IntKind.i64.wrap (8 * s31.1)) + 8)))) (cut a2 (IntKind.i64.wrap (8 * s31.1)) (IntKind.i64.wrap ((IntKind.i64.wrap (8 * s31.1)) + 8))) := R2_0.cut (lo := (IntKind.i64.wrap (8 * s31.1))) (hi := (IntKind.i64.wrap ((IntKind.i64.wrap (8 * s31.1)) + 8))) g92.1 g92.2.1 g92.2.2
   refine ol_val (v := sv (List.map toB (cut a2 (IntKind.i64.wrap (8 * s31.1)) (IntKind.i64.wrap ((IntKind.i64.wrap (8 * s31.1)) + 8))))) (by exact xr_toStr rfl Try.underlying43 Try.underlying5 Try.underlying9 rfl r91) rfl rfl rfl ?_
   obtain ⟨t93, k94, h⟩ := bs h
   refine ol_op (by exact opv_call rfl cal41 (ac rfl an) (rickyardref01_Number.ok fu _ (List.map toB (cut a2 (IntKind.i64.wrap (8 * s31.1)) (IntKind.i64.wrap ((IntKind.i64.wrap (8 * s31.1)) + 8)))) _ k94)) rfl rfl rfl ?_
   rintro _ w96 ⟨rfl, q95⟩
   have b_0 := b_0.gr q95
   have o60 := o60.gr q95
   have o64 := o64.gr q95
   have o68 := o68.gr q95
   have o72 := o72.gr q95
   have o76 := o76.gr q95
   have R2_0 := R2_0.gr q95
   have fB := fB.gr q95
   obtain ⟨t97, k98, h⟩ := bs h
   have f123 := (ro_or (ro_eq NR2_0_P0) (ro_or (ro_own a82) (ro_or (ro_own a83) (ro_or (ro_own a84) (ro_or (ro_own a85) (ro_own a86))))))
   have c124 : ∀ k, (k = G_0 ∨ some k = Value.ownBlock v59 ∨ some k = Value.ownBlock v63 ∨ some k = Value.ownBlock v67 ∨ some k = Value.ownBlock v71 ∨ some k = Value.ownBlock v75) → (w.heap.size ≤ k ∨ (k = G_0 ∨ some k = Value.ownBlock V0_0 ∨ some k = Value.ownBlock V0_1 ∨ some k = Value.ownBlock V0_2 ∨ some k = Value.ownBlock V0_3 ∨ some k = Value.ownBlock V0_4)) := (cv_or (cv_eq (.inr (.inl rfl))) (cv_or (cv_own m62) (cv_or (cv_own m66) (cv_or (cv_own m70) (cv_or (cv_own m74) (cv_own m78))))))
   refine ol_op (by exact opv_call rfl cal92 (ac rfl (ac rfl (ac rfl an))) (rickyardref05_Device_Store.ok fu _ (⟨s31.2.1, s31.2.2.1, s31.2.2.2.1, s31.2.2.2.2.1, s31.2.2.2.2.2.1, s31.2.2.2.2.2.2.1, s31.2.2.2.2.2.2.2.1, s31.2.2.2.2.2.2.2.2⟩ : S_rickyardref05_Device) G_0 v59 (Own.base o60 (Nat.zero_le _)) v63 (Own.base o64 (Nat.zero_le _)) v67 (Own.base o68 (Nat.zero_le _)) v71 (Own.base o72 (Nat.zero_le _)) v75 (Own.base o76 (Nat.zero_le _)) b_0 (IntKind.i64.wrap ((IntKind.i64.wrap (8 * a1)) + s31.1)) t93 a79 a80 a81 _ k98)) rfl rfl rfl ?_
   rintro _ w125 ⟨u100, u104, u108, u112, u116, o101, m102, o105, m106, o109, m110, o113, m114, o117, m118, a120, a121, a122, rfl, b_0, q99⟩
   have a126 := orv_new R2_0 rfl f123 m102
   have a127 := orv_new R2_0 rfl f123 m106
   have a128 := orv_new R2_0 rfl f123 m110
   have a129 := orv_new R2_0 rfl f123 m114
   have a130 := orv_new R2_0 rfl f123 m118
   have m102 : ∀ g, Value.ownBlock u100 = some g → w.heap.size ≤ g ∨ (g = G_0 ∨ some g = Value.ownBlock V0_0 ∨ some g = Value.ownBlock V0_1 ∨ some g = Value.ownBlock V0_2 ∨ some g = Value.ownBlock V0_3 ∨ some g = Value.ownBlock V0_4) := fun g hg => (m102 g hg).elim (fun x => .inl (Nat.le_trans fB.size x)) (c124 g)
   have m106 : ∀ g, Value.ownBlock u104 = some g → w.heap.size ≤ g ∨ (g = G_0 ∨ some g = Value.ownBlock V0_0 ∨ some g = Value.ownBlock V0_1 ∨ some g = Value.ownBlock V0_2 ∨ some g = Value.ownBlock V0_3 ∨ some g = Value.ownBlock V0_4) := fun g hg => (m106 g hg).elim (fun x => .inl (Nat.le_trans fB.size x)) (c124 g)
   have m110 : ∀ g, Value.ownBlock u108 = some g → w.heap.size ≤ g ∨ (g = G_0 ∨ some g = Value.ownBlock V0_0 ∨ some g = Value.ownBlock V0_1 ∨ some g = Value.ownBlock V0_2 ∨ some g = Value.ownBlock V0_3 ∨ some g = Value.ownBlock V0_4) := fun g hg => (m110 g hg).elim (fun x => .inl (Nat.le_trans fB.size x)) (c124 g)
   have m114 : ∀ g, Value.ownBlock u112 = some g → w.heap.size ≤ g ∨ (g = G_0 ∨ some g = Value.ownBlock V0_0 ∨ some g = Value.ownBlock V0_1 ∨ some g = Value.ownBlock V0_2 ∨ some g = Value.ownBlock V0_3 ∨ some g = Value.ownBlock V0_4) := fun g hg => (m114 g hg).elim (fun x => .inl (Nat.le_trans fB.size x)) (c124 g)
   have m118 : ∀ g, Value.ownBlock u116 = some g → w.heap.size ≤ g ∨ (g = G_0 ∨ some g = Value.ownBlock V0_0 ∨ some g = Value.ownBlock V0_1 ∨ some g = Value.ownBlock V0_2 ∨ some g = Value.ownBlock V0_3 ∨ some g = Value.ownBlock V0_4) := fun g hg => (m118 g hg).elim (fun x => .inl (Nat.le_trans fB.size x)) (c124 g)
   have R2_0 := R2_0.fr q99 f123
   have fB := fB.call q99 c124
   refine ol_val (v := .int .i64 t97.1) (by exact xr_assign rfl rfl) rfl rfl rfl ?_
   refine ol_nil ?_
   refine cw_seq ?_
   refine cw_region ?_
   refine ol_val (v := .int .i64 t97.1) (by exact xr_move rfl rfl) rfl rfl rfl ?_
   refine ol_val (v := .bool (!decide (t97.1 = 0))) (by exact xr_neI rfl Try.underlying3 rfl rfl rfl) rfl rfl rfl ?_
   refine ol_nil ?_
   rcases is h with ⟨c131, h⟩ | ⟨c131, h⟩
   ·refine cw_condT rfl c131 ?_
    refine cw_seq ?_
    refine cw_region ?_
    refine ol_val (v := .int .i64 t97.1) (by exact xr_move rfl rfl) rfl rfl rfl ?_
    refine ol_val (v := .int .i64 t97.1) (by exact xr_assign rfl rfl) rfl rfl rfl ?_
    refine ol_nil ?_
    refine cw_ret ?_
    repeat (first | with_reducible refine thn_r ?_ | with_reducible refine blk_r ?_)
    obtain rfl := Option.some.inj h
    refine lp_ret ?_
    rintro rfl
    repeat (first | with_reducible refine thn_r ?_ | with_reducible refine blk_r ?_)
    have h := h34
    obtain rfl := Option.some.inj h
    refine fin_ret1 Try.results105 rfl ?_
    exact ⟨_, rfl, u100, u104, u108, u112, u116, o101, m102, o105, m106, o109, m110, o113, m114, o117, m118, a120, a121, a122, rfl, b_0, fB⟩
   refine cw_condF rfl c131 ?_
   refine cw_skip ?_
   refine blk_i ?_
   refine cw_region ?_
   refine ol_val (v := .int .i64 s31.1) (by exact xr_move rfl e7) rfl rfl rfl ?_
   refine ol_val (v := .int .i64 (IntKind.i64.wrap (s31.1 + 1))) (by exact xr_add rfl rfl rfl) rfl rfl rfl ?_
   refine ol_val (v := .int .i64 (IntKind.i64.wrap (s31.1 + 1))) (by exact xr_assign rfl rfl) rfl rfl rfl ?_
   refine ol_nil ?_
   obtain rfl := Option.some.inj h
   refine lp_in ?_
   exact ⟨u100, u104, u108, u112, u116, o101, o105, o109, o113, o117, m102, m106, m110, m114, m118, R2_0, a120, a121, a122, a126, a127, a128, a129, a130, e0, e1, e2, rfl, b_0, fB⟩
  refine cw_condF rfl c90 ?_
  refine cw_exit ?_
  repeat (first | with_reducible refine thn_e ?_ | with_reducible refine blk_e rfl ?_)
  obtain rfl := Option.some.inj h
  refine lp_exit ?_
  rintro rfl
  refine thn_x ?_
  exact ⟨_, rfl, v59, v63, v67, v71, v75, o60, o64, o68, o72, o76, m62, m66, m70, m74, m78, a79, a80, a81, e0, e1, b_0, fB⟩
 rintro ρ132 w133 ⟨x35, rfl, v36, v40, v44, v48, v52, o37, o41, o45, o49, o53, m39, m43, m47, m51, m55, a56, a57, a58, e0, e1, b_0, fB⟩
 have h := h34
 refine cw_seq ?_
 refine cw_region ?_
 refine ol_val (v := .pointer (some ⟨G_0, 0, none⟩)) (by exact xr_move rfl e0) rfl rfl rfl ?_
 refine ol_val (v := .int .i64 a1) (by exact xr_move rfl e1) rfl rfl rfl ?_
 obtain ⟨t134, k135, h⟩ := bs h
 have c160 : ∀ k, (k = G_0 ∨ some k = Value.ownBlock v36 ∨ some k = Value.ownBlock v40 ∨ some k = Value.ownBlock v44 ∨ some k = Value.ownBlock v48 ∨ some k = Value.ownBlock v52) → (w.heap.size ≤ k ∨ (k = G_0 ∨ some k = Value.ownBlock V0_0 ∨ some k = Value.ownBlock V0_1 ∨ some k = Value.ownBlock V0_2 ∨ some k = Value.ownBlock V0_3 ∨ some k = Value.ownBlock V0_4)) := (cv_or (cv_eq (.inr (.inl rfl))) (cv_or (cv_own m39) (cv_or (cv_own m43) (cv_or (cv_own m47) (cv_or (cv_own m51) (cv_own m55))))))
 refine ol_op (by exact opv_call rfl cal94 (ac rfl (ac rfl an)) (rickyardref05_Device_Flush.ok fu _ (⟨x35.1, x35.2.1, x35.2.2.1, x35.2.2.2.1, x35.2.2.2.2.1, x35.2.2.2.2.2.1, x35.2.2.2.2.2.2.1, x35.2.2.2.2.2.2.2⟩ : S_rickyardref05_Device) G_0 v36 (Own.base o37 (Nat.zero_le _)) v40 (Own.base o41 (Nat.zero_le _)) v44 (Own.base o45 (Nat.zero_le _)) v48 (Own.base o49 (Nat.zero_le _)) v52 (Own.base o53 (Nat.zero_le _)) b_0 a1 a56 a57 a58 _ k135)) rfl rfl rfl ?_
 rintro _ w161 ⟨u137, u141, u145, u149, u153, o138, m139, o142, m143, o146, m147, o150, m151, o154, m155, a157, a158, a159, rfl, b_0, q136⟩
 have m139 : ∀ g, Value.ownBlock u137 = some g → w.heap.size ≤ g ∨ (g = G_0 ∨ some g = Value.ownBlock V0_0 ∨ some g = Value.ownBlock V0_1 ∨ some g = Value.ownBlock V0_2 ∨ some g = Value.ownBlock V0_3 ∨ some g = Value.ownBlock V0_4) := fun g hg => (m139 g hg).elim (fun x => .inl (Nat.le_trans fB.size x)) (c160 g)
 have m143 : ∀ g, Value.ownBlock u141 = some g → w.heap.size ≤ g ∨ (g = G_0 ∨ some g = Value.ownBlock V0_0 ∨ some g = Value.ownBlock V0_1 ∨ some g = Value.ownBlock V0_2 ∨ some g = Value.ownBlock V0_3 ∨ some g = Value.ownBlock V0_4) := fun g hg => (m143 g hg).elim (fun x => .inl (Nat.le_trans fB.size x)) (c160 g)
 have m147 : ∀ g, Value.ownBlock u145 = some g → w.heap.size ≤ g ∨ (g = G_0 ∨ some g = Value.ownBlock V0_0 ∨ some g = Value.ownBlock V0_1 ∨ some g = Value.ownBlock V0_2 ∨ some g = Value.ownBlock V0_3 ∨ some g = Value.ownBlock V0_4) := fun g hg => (m147 g hg).elim (fun x => .inl (Nat.le_trans fB.size x)) (c160 g)
 have m151 : ∀ g, Value.ownBlock u149 = some g → w.heap.size ≤ g ∨ (g = G_0 ∨ some g = Value.ownBlock V0_0 ∨ some g = Value.ownBlock V0_1 ∨ some g = Value.ownBlock V0_2 ∨ some g = Value.ownBlock V0_3 ∨ some g = Value.ownBlock V0_4) := fun g hg => (m151 g hg).elim (fun x => .inl (Nat.le_trans fB.size x)) (c160 g)
 have m155 : ∀ g, Value.ownBlock u153 = some g → w.heap.size ≤ g ∨ (g = G_0 ∨ some g = Value.ownBlock V0_0 ∨ some g = Value.ownBlock V0_1 ∨ some g = Value.ownBlock V0_2 ∨ some g = Value.ownBlock V0_3 ∨ some g = Value.ownBlock V0_4) := fun g hg => (m155 g hg).elim (fun x => .inl (Nat.le_trans fB.size x)) (c160 g)
 have fB := fB.call q136 c160
 refine ol_val (v := .int .i64 t134.1) (by exact xr_assign rfl rfl) rfl rfl rfl ?_
 refine ol_nil ?_
 refine cw_ret ?_
 repeat (first | with_reducible refine thn_r ?_ | with_reducible refine blk_r ?_)
 obtain rfl := Option.some.inj h
 refine fin_ret1 Try.results105 rfl ?_
 exact ⟨_, rfl, u137, u141, u145, u149, u153, o138, m139, o142, m143, o146, m147, o150, m151, o154, m155, a157, a158, a159, rfl, b_0, fB⟩
def rickyardref15_Word.f (fu : Nat) (a0 : S_rickyardref05_Device) (a1 : Int) (a2 : Int) (a3 : Int) : Option (Int × S_rickyardref05_Device) := (((if (decide (a1 < 0)) = true then some (true) else ((rickyardref15_Lines.f fu a0 : Option Int).bind fun t22 => (if (decide (a1 ≥ t22)) = true then some (true) else (if (decide (a2 < 0)) = true then some (true) else some ((decide (a2 > 7))))))) : Option Bool).bind fun x19 => (if x19 = true then some (2, a0) else ((rickyardref05_Device_Store.f fu a0 (IntKind.i64.wrap ((IntKind.i64.wrap (8 * a1)) + a2)) a3 : Option (Int × S_rickyardref05_Device)).bind fun t32 => (if (!decide (t32.1 = 0)) = true then some (t32.1, t32.2) else ((rickyardref05_Device_Flush.f fu t32.2 a1 : Option (Int × S_rickyardref05_Device)).bind fun t61 => some (t61.1, t61.2))))))
set_option maxRecDepth 100000 in
set_option maxHeartbeats 400000 in
theorem rickyardref15_Word.ok (fu : Nat) (w : World) (a0 : S_rickyardref05_Device) (G_0 : Nat) (V0_0 : Value) (O0_0 : Own (kI .u64) 22 w 0 V0_0 a0.Lasts) (V0_1 : Value) (O0_1 : Own (kI .u64) 22 w 0 V0_1 a0.Stored) (V0_2 : Value) (O0_2 : Own (kI .u64) 22 w 0 V0_2 a0.Sent) (V0_3 : Value) (O0_3 : Own kB 4 w 0 V0_3 a0.Flushed) (V0_4 : Value) (O0_4 : Own (kI .i64) 3 w 0 V0_4 a0.Plan) (b_0 : Blk w G_0 65 [Seg.cell V0_0 O0_0.one, Seg.cell V0_1 O0_1.one, Seg.cell V0_2 O0_2.one, Seg.cell V0_3 O0_3.one, Seg.cell V0_4 O0_4.one, Seg.cell (.int .i64 a0.Since), Seg.cell (.int .i64 a0.Left), Seg.cell (.int .i64 a0.Steps)]) (a1 : Int) (a2 : Int) (a3 : Int) (A_R0_0_R0_1 : OffV V0_0 V0_1) (A_R0_0_R0_2 : OffV V0_0 V0_2) (A_R0_1_R0_2 : OffV V0_1 V0_2) (r : Int × S_rickyardref05_Device) (h : rickyardref15_Word.f fu a0 a1 a2 a3 = some r) :
  Calls Try.prog 106 (([.pointer (some ⟨G_0, 0, none⟩), .int .i64 a1, .int .i64 a2, .int .u64 a3] : List Value).toArray) w (fun e w' => ∃ v, e = .returned v ∧ ∃ u1 : Value, ∃ u4 : Value, ∃ u7 : Value, ∃ u10 : Value, ∃ u13 : Value, ∃ o2 : Own (kI .u64) 22 w' 0 u1 r.2.Lasts, ∃ m3 : ∀ g, Value.ownBlock u1 = some g → w.heap.size ≤ g ∨ (g = G_0 ∨ some g = Value.ownBlock V0_0 ∨ some g = Value.ownBlock V0_1 ∨ some g = Value.ownBlock V0_2 ∨ some g = Value.ownBlock V0_3 ∨ some g = Value.ownBlock V0_4), ∃ o5 : Own (kI .u64) 22 w' 0 u4 r.2.Stored, ∃ m6 : ∀ g, Value.ownBlock u4 = some g → w.heap.size ≤ g ∨ (g = G_0 ∨ some g = Value.ownBlock V0_0 ∨ some g = Value.ownBlock V0_1 ∨ some g = Value.ownBlock V0_2 ∨ some g = Value.ownBlock V0_3 ∨ some g = Value.ownBlock V0_4), ∃ o8 : Own (kI .u64) 22 w' 0 u7 r.2.Sent, ∃ m9 : ∀ g, Value.ownBlock u7 = some g → w.heap.size ≤ g ∨ (g = G_0 ∨ some g = Value.ownBlock V0_0 ∨ some g = Value.ownBlock V0_1 ∨ some g = Value.ownBlock V0_2 ∨ some g = Value.ownBlock V0_3 ∨ some g = Value.ownBlock V0_4), ∃ o11 : Own kB 4 w' 0 u10 r.2.Flushed, ∃ m12 : ∀ g, Value.ownBlock u10 = some g → w.heap.size ≤ g ∨ (g = G_0 ∨ some g = Value.ownBlock V0_0 ∨ some g = Value.ownBlock V0_1 ∨ some g = Value.ownBlock V0_2 ∨ some g = Value.ownBlock V0_3 ∨ some g = Value.ownBlock V0_4), ∃ o14 : Own (kI .i64) 3 w' 0 u13 r.2.Plan, ∃ m15 : ∀ g, Value.ownBlock u13 = some g → w.heap.size ≤ g ∨ (g = G_0 ∨ some g = Value.ownBlock V0_0 ∨ some g = Value.ownBlock V0_1 ∨ some g = Value.ownBlock V0_2 ∨ some g = Value.ownBlock V0_3 ∨ some g = Value.ownBlock V0_4), ∃ a16 : OffV u1 u4, ∃ a17 : OffV u1 u7, ∃ a18 : OffV u4 u7, v = .int .i64 r.1 ∧ Blk w' G_0 65 [Seg.cell u1 o2.one, Seg.cell u4 o5.one, Seg.cell u7 o8.one, Seg.cell u10 o11.one, Seg.cell u13 o14.one, Seg.cell (.int .i64 r.2.Since), Seg.cell (.int .i64 r.2.Left), Seg.cell (.int .i64 r.2.Steps)] ∧ Fr (fun j => j = G_0 ∨ some j = Value.ownBlock V0_0 ∨ some j = Value.ownBlock V0_1 ∨ some j = Value.ownBlock V0_2 ∨ some j = Value.ownBlock V0_3 ∨ some j = Value.ownBlock V0_4) w w') := by
 unfold rickyardref15_Word.f at h
 have fB : Fr (fun j => j = G_0 ∨ some j = Value.ownBlock V0_0 ∨ some j = Value.ownBlock V0_1 ∨ some j = Value.ownBlock V0_2 ∨ some j = Value.ownBlock V0_3 ∨ some j = Value.ownBlock V0_4) w w := Fr.refl _ _
 have M0_0 : ∀ g, Value.ownBlock V0_0 = some g → w.heap.size ≤ g ∨ (g = G_0 ∨ some g = Value.ownBlock V0_0 ∨ some g = Value.ownBlock V0_1 ∨ some g = Value.ownBlock V0_2 ∨ some g = Value.ownBlock V0_3 ∨ some g = Value.ownBlock V0_4) := fun g hg => .inr (.inr (.inl hg.symm))
 have M0_1 : ∀ g, Value.ownBlock V0_1 = some g → w.heap.size ≤ g ∨ (g = G_0 ∨ some g = Value.ownBlock V0_0 ∨ some g = Value.ownBlock V0_1 ∨ some g = Value.ownBlock V0_2 ∨ some g = Value.ownBlock V0_3 ∨ some g = Value.ownBlock V0_4) := fun g hg => .inr (.inr (.inr (.inl hg.symm)))
 have M0_2 : ∀ g, Value.ownBlock V0_2 = some g → w.heap.size ≤ g ∨ (g = G_0 ∨ some g = Value.ownBlock V0_0 ∨ some g = Value.ownBlock V0_1 ∨ some g = Value.ownBlock V0_2 ∨ some g = Value.ownBlock V0_3 ∨ some g = Value.ownBlock V0_4) := fun g hg => .inr (.inr (.inr (.inr (.inl hg.symm))))
 have M0_3 : ∀ g, Value.ownBlock V0_3 = some g → w.heap.size ≤ g ∨ (g = G_0 ∨ some g = Value.ownBlock V0_0 ∨ some g = Value.ownBlock V0_1 ∨ some g = Value.ownBlock V0_2 ∨ some g = Value.ownBlock V0_3 ∨ some g = Value.ownBlock V0_4) := fun g hg => .inr (.inr (.inr (.inr (.inr (.inl hg.symm)))))
 have M0_4 : ∀ g, Value.ownBlock V0_4 = some g → w.heap.size ≤ g ∨ (g = G_0 ∨ some g = Value.ownBlock V0_0 ∨ some g = Value.ownBlock V0_1 ∨ some g = Value.ownBlock V0_2 ∨ some g = Value.ownBlock V0_3 ∨ some g = Value.ownBlock V0_4) := fun g hg => .inr (.inr (.inr (.inr (.inr (.inr hg.symm)))))
 refine calls_cw Try.func106 rfl Try.ntmps106 rfl ?_
 refine cw_seq ?_
 refine cw_region ?_
 refine ol_val (v := .int .i64 0) (by exact xr_assign rfl rfl) rfl rfl rfl ?_
 refine ol_nil ?_
 refine cw_seq ?_
 refine cw_seq ?_
 obtain ⟨x19, j20, h⟩ := bs h
 refine cw_mid (fun ρ' w' => ρ' 0 = .pointer (some ⟨G_0, 0, none⟩) ∧ ρ' 1 = .int .i64 a1 ∧ ρ' 2 = .int .i64 a2 ∧ ρ' 3 = .int .u64 a3 ∧ ρ' 25 = .bool x19 ∧ Gr w w') ?_ ?_
 ·skip
  refine cw_region ?_
  refine ol_val (v := .int .i64 a1) (by exact xr_move rfl rfl) rfl rfl rfl ?_
  refine ol_val (v := .bool (decide (a1 < 0))) (by exact xr_lss rfl rfl rfl) rfl rfl rfl ?_
  refine ol_val (v := .bool (decide (a1 < 0))) (by exact xr_move rfl rfl) rfl rfl rfl ?_
  rcases is j20 with ⟨c21, j20⟩ | ⟨c21, j20⟩
  ·skip
   refine ol_gskip rfl rfl rfl rfl rfl c21 ?_
   refine ol_gskip rfl rfl rfl rfl rfl c21 ?_
   refine ol_gskip rfl rfl rfl rfl rfl c21 ?_
   refine ol_gskip rfl rfl rfl rfl rfl c21 ?_
   refine ol_val (v := .bool true) (by exact xr_pickT rfl rfl c21 rfl) rfl rfl rfl ?_
   refine ol_val (v := .bool true) (by exact xr_move rfl rfl) rfl rfl rfl ?_
   refine ol_gskip rfl rfl rfl rfl rfl rfl ?_
   refine ol_gskip rfl rfl rfl rfl rfl rfl ?_
   refine ol_val (v := .bool true) (by exact xr_pickT rfl rfl rfl rfl) rfl rfl rfl ?_
   refine ol_val (v := .bool true) (by exact xr_move rfl rfl) rfl rfl rfl ?_
   refine ol_gskip rfl rfl rfl rfl rfl rfl ?_
   refine ol_gskip rfl rfl rfl rfl rfl rfl ?_
   refine ol_val (v := .bool true) (by exact xr_pickT rfl rfl rfl rfl) rfl rfl rfl ?_
   refine ol_nil ?_
   obtain rfl := Option.some.inj j20
   refine thn_i ?_
   exact ⟨rfl, rfl, rfl, rfl, rfl, Fr.refl _ _⟩
  refine ol_gval (v := .int .i64 a1) (by exact xr_move rfl rfl) rfl rfl rfl rfl rfl c21 ?_
  refine ol_gval (v := .pointer (some ⟨G_0, 0, none⟩)) (by exact xr_move rfl rfl) rfl rfl rfl rfl rfl c21 ?_
  obtain ⟨t22, k23, j20⟩ := bs j20
  refine ol_gop (by exact opv_call rfl cal129 (ac rfl an) (rickyardref15_Lines.ok fu _ a0 G_0 V0_0 (O0_0.rd) V0_1 (O0_1.rd) V0_2 (O0_2.rd) V0_3 (O0_3.rd) V0_4 (O0_4.rd) b_0 _ k23)) rfl rfl rfl rfl rfl c21 ?_
  rintro _ w25 ⟨rfl, q24⟩
  have b_0 := b_0.gr q24
  have O0_0 := O0_0.gr q24
  have O0_1 := O0_1.gr q24
  have O0_2 := O0_2.gr q24
  have O0_3 := O0_3.gr q24
  have O0_4 := O0_4.gr q24
  have fB := fB.gr q24
  refine ol_gval (v := .bool (decide (a1 ≥ t22))) (by exact xr_geq rfl rfl rfl) rfl rfl rfl rfl rfl c21 ?_
  refine ol_val (v := .bool (decide (a1 ≥ t22))) (by exact xr_pickF rfl rfl c21 rfl) rfl rfl rfl ?_
  refine ol_val (v := .bool (decide (a1 ≥ t22))) (by exact xr_move rfl rfl) rfl rfl rfl ?_
  rcases is j20 with ⟨c26, j20⟩ | ⟨c26, j20⟩
  ·skip
   refine ol_gskip rfl rfl rfl rfl rfl c26 ?_
   refine ol_gskip rfl rfl rfl rfl rfl c26 ?_
   refine ol_val (v := .bool true) (by exact xr_pickT rfl rfl c26 rfl) rfl rfl rfl ?_
   refine ol_val (v := .bool true) (by exact xr_move rfl rfl) rfl rfl rfl ?_
   refine ol_gskip rfl rfl rfl rfl rfl rfl ?_
   refine ol_gskip rfl rfl rfl rfl rfl rfl ?_
   refine ol_val (v := .bool true) (by exact xr_pickT rfl rfl rfl rfl) rfl rfl rfl ?_
   refine ol_nil ?_
   obtain rfl := Option.some.inj j20
   refine thn_i ?_
   exact ⟨rfl, rfl, rfl, rfl, rfl, q24⟩
  refine ol_gval (v := .int .i64 a2) (by exact xr_move rfl rfl) rfl rfl rfl rfl rfl c26 ?_
  refine ol_gval (v := .bool (decide (a2 < 0))) (by exact xr_lss rfl rfl rfl) rfl rfl rfl rfl rfl c26 ?_
  refine ol_val (v := .bool (decide (a2 < 0))) (by exact xr_pickF rfl rfl c26 rfl) rfl rfl rfl ?_
  refine ol_val (v := .bool (decide (a2 < 0))) (by exact xr_move rfl rfl) rfl rfl rfl ?_
  rcases is j20 with ⟨c27, j20⟩ | ⟨c27, j20⟩
  ·skip
   refine ol_gskip rfl rfl rfl rfl rfl c27 ?_
   refine ol_gskip rfl rfl rfl rfl rfl c27 ?_
   refine ol_val (v := .bool true) (by exact xr_pickT rfl rfl c27 rfl) rfl rfl rfl ?_
   refine ol_nil ?_
   obtain rfl := Option.some.inj j20
   refine thn_i ?_
   exact ⟨rfl, rfl, rfl, rfl, rfl, q24⟩
  refine ol_gval (v := .int .i64 a2) (by exact xr_move rfl rfl) rfl rfl rfl rfl rfl c27 ?_
  refine ol_gval (v := .bool (decide (a2 > 7))) (by exact xr_gtr rfl rfl rfl) rfl rfl rfl rfl rfl c27 ?_
  refine ol_val (v := .bool (decide (a2 > 7))) (by exact xr_pickF rfl rfl c27 rfl) rfl rfl rfl ?_
  refine ol_nil ?_
  obtain rfl := Option.some.inj j20
  refine thn_i ?_
  exact ⟨rfl, rfl, rfl, rfl, rfl, q24⟩
 rintro ρ28 w29 ⟨e0, e1, e2, e3, e25, q30⟩
 have b_0 := b_0.gr q30
 have O0_0 := O0_0.gr q30
 have O0_1 := O0_1.gr q30
 have O0_2 := O0_2.gr q30
 have O0_3 := O0_3.gr q30
 have O0_4 := O0_4.gr q30
 have fB := fB.gr q30
 rcases is h with ⟨c31, h⟩ | ⟨c31, h⟩
 ·refine cw_condT e25 c31 ?_
  refine cw_seq ?_
  refine cw_region ?_
  refine ol_val (v := .int .i64 2) (by exact xr_assign rfl rfl) rfl rfl rfl ?_
  refine ol_nil ?_
  refine cw_ret ?_
  repeat (first | with_reducible refine thn_r ?_ | with_reducible refine blk_r ?_)
  obtain rfl := Option.some.inj h
  refine fin_ret1 Try.results106 rfl ?_
  exact ⟨_, rfl, V0_0, V0_1, V0_2, V0_3, V0_4, O0_0, M0_0, O0_1, M0_1, O0_2, M0_2, O0_3, M0_3, O0_4, M0_4, A_R0_0_R0_1, A_R0_0_R0_2, A_R0_1_R0_2, rfl, b_0, fB⟩
 refine cw_condF e25 c31 ?_
 refine cw_skip ?_
 refine cw_seq ?_
 refine cw_region ?_
 refine ol_val (v := .pointer (some ⟨G_0, 0, none⟩)) (by exact xr_move rfl e0) rfl rfl rfl ?_
 refine ol_val (v := .int .i64 a1) (by exact xr_move rfl e1) rfl rfl rfl ?_
 refine ol_val (v := .int .i64 (IntKind.i64.wrap (8 * a1))) (by exact xr_mul rfl rfl rfl) rfl rfl rfl ?_
 refine ol_val (v := .int .i64 a2) (by exact xr_move rfl e2) rfl rfl rfl ?_
 refine ol_val (v := .int .i64 (IntKind.i64.wrap ((IntKind.i64.wrap (8 * a1)) + a2))) (by exact xr_add rfl rfl rfl) rfl rfl rfl ?_
 refine ol_val (v := .int .u64 a3) (by exact xr_move rfl e3) rfl rfl rfl ?_
 obtain ⟨t32, k33, h⟩ := bs h
 have c58 : ∀ k, (k = G_0 ∨ some k = Value.ownBlock V0_0 ∨ some k = Value.ownBlock V0_1 ∨ some k = Value.ownBlock V0_2 ∨ some k = Value.ownBlock V0_3 ∨ some k = Value.ownBlock V0_4) → (w.heap.size ≤ k ∨ (k = G_0 ∨ some k = Value.ownBlock V0_0 ∨ some k = Value.ownBlock V0_1 ∨ some k = Value.ownBlock V0_2 ∨ some k = Value.ownBlock V0_3 ∨ some k = Value.ownBlock V0_4)) := (cv_or (cv_eq (.inr (.inl rfl))) (cv_or (cv_own M0_0) (cv_or (cv_own M0_1) (cv_or (cv_own M0_2) (cv_or (cv_own M0_3) (cv_own M0_4))))))
 refine ol_op (by exact opv_call rfl cal92 (ac rfl (ac rfl (ac rfl an))) (rickyardref05_Device_Store.ok fu _ a0 G_0 V0_0 (Own.base O0_0 (Nat.zero_le _)) V0_1 (Own.base O0_1 (Nat.zero_le _)) V0_2 (Own.base O0_2 (Nat.zero_le _)) V0_3 (Own.base O0_3 (Nat.zero_le _)) V0_4 (Own.base O0_4 (Nat.zero_le _)) b_0 (IntKind.i64.wrap ((IntKind.i64.wrap (8 * a1)) + a2)) a3 A_R0_0_R0_1 A_R0_0_R0_2 A_R0_1_R0_2 _ k33)) rfl rfl rfl ?_
 rintro _ w59 ⟨u35, u39, u43, u47, u51, o36, m37, o40, m41, o44, m45, o48, m49, o52, m53, a55, a56, a57, rfl, b_0, q34⟩
 have m37 : ∀ g, Value.ownBlock u35 = some g → w.heap.size ≤ g ∨ (g = G_0 ∨ some g = Value.ownBlock V0_0 ∨ some g = Value.ownBlock V0_1 ∨ some g = Value.ownBlock V0_2 ∨ some g = Value.ownBlock V0_3 ∨ some g = Value.ownBlock V0_4) := fun g hg => (m37 g hg).elim (fun x => .inl (Nat.le_trans fB.size x)) (c58 g)
 have m41 : ∀ g, Value.ownBlock u39 = some g → w.heap.size ≤ g ∨ (g = G_0 ∨ some g = Value.ownBlock V0_0 ∨ some g = Value.ownBlock V0_1 ∨ some g = Value.ownBlock V0_2 ∨ some g = Value.ownBlock V0_3 ∨ some g = Value.ownBlock V0_4) := fun g hg => (m41 g hg).elim (fun x => .inl (Nat.le_trans fB.size x)) (c58 g)
 have m45 : ∀ g, Value.ownBlock u43 = some g → w.heap.size ≤ g ∨ (g = G_0 ∨ some g = Value.ownBlock V0_0 ∨ some g = Value.ownBlock V0_1 ∨ some g = Value.ownBlock V0_2 ∨ some g = Value.ownBlock V0_3 ∨ some g = Value.ownBlock V0_4) := fun g hg => (m45 g hg).elim (fun x => .inl (Nat.le_trans fB.size x)) (c58 g)
 have m49 : ∀ g, Value.ownBlock u47 = some g → w.heap.size ≤ g ∨ (g = G_0 ∨ some g = Value.ownBlock V0_0 ∨ some g = Value.ownBlock V0_1 ∨ some g = Value.ownBlock V0_2 ∨ some g = Value.ownBlock V0_3 ∨ some g = Value.ownBlock V0_4) := fun g hg => (m49 g hg).elim (fun x => .inl (Nat.le_trans fB.size x)) (c58 g)
 have m53 : ∀ g, Value.ownBlock u51 = some g → w.heap.size ≤ g ∨ (g = G_0 ∨ some g = Value.ownBlock V0_0 ∨ some g = Value.ownBlock V0_1 ∨ some g = Value.ownBlock V0_2 ∨ some g = Value.ownBlock V0_3 ∨ some g = Value.ownBlock V0_4) := fun g hg => (m53 g hg).elim (fun x => .inl (Nat.le_trans fB.size x)) (c58 g)
 have fB := fB.call q34 c58
 refine ol_val (v := .int .i64 t32.1) (by exact xr_assign rfl rfl) rfl rfl rfl ?_
 refine ol_nil ?_
 refine cw_seq ?_
 refine cw_seq ?_
 refine cw_region ?_
 refine ol_val (v := .int .i64 t32.1) (by exact xr_move rfl rfl) rfl rfl rfl ?_
 refine ol_val (v := .bool (!decide (t32.1 = 0))) (by exact xr_neI rfl Try.underlying3 rfl rfl rfl) rfl rfl rfl ?_
 refine ol_nil ?_
 rcases is h with ⟨c60, h⟩ | ⟨c60, h⟩
 ·refine cw_condT rfl c60 ?_
  refine cw_seq ?_
  refine cw_region ?_
  refine ol_val (v := .int .i64 t32.1) (by exact xr_move rfl rfl) rfl rfl rfl ?_
  refine ol_val (v := .int .i64 t32.1) (by exact xr_assign rfl rfl) rfl rfl rfl ?_
  refine ol_nil ?_
  refine cw_ret ?_
  repeat (first | with_reducible refine thn_r ?_ | with_reducible refine blk_r ?_)
  obtain rfl := Option.some.inj h
  refine fin_ret1 Try.results106 rfl ?_
  exact ⟨_, rfl, u35, u39, u43, u47, u51, o36, m37, o40, m41, o44, m45, o48, m49, o52, m53, a55, a56, a57, rfl, b_0, fB⟩
 refine cw_condF rfl c60 ?_
 refine cw_skip ?_
 refine cw_seq ?_
 refine cw_region ?_
 refine ol_val (v := .pointer (some ⟨G_0, 0, none⟩)) (by exact xr_move rfl e0) rfl rfl rfl ?_
 refine ol_val (v := .int .i64 a1) (by exact xr_move rfl e1) rfl rfl rfl ?_
 obtain ⟨t61, k62, h⟩ := bs h
 have c87 : ∀ k, (k = G_0 ∨ some k = Value.ownBlock u35 ∨ some k = Value.ownBlock u39 ∨ some k = Value.ownBlock u43 ∨ some k = Value.ownBlock u47 ∨ some k = Value.ownBlock u51) → (w.heap.size ≤ k ∨ (k = G_0 ∨ some k = Value.ownBlock V0_0 ∨ some k = Value.ownBlock V0_1 ∨ some k = Value.ownBlock V0_2 ∨ some k = Value.ownBlock V0_3 ∨ some k = Value.ownBlock V0_4)) := (cv_or (cv_eq (.inr (.inl rfl))) (cv_or (cv_own m37) (cv_or (cv_own m41) (cv_or (cv_own m45) (cv_or (cv_own m49) (cv_own m53))))))
 refine ol_op (by exact opv_call rfl cal94 (ac rfl (ac rfl an)) (rickyardref05_Device_Flush.ok fu _ t32.2 G_0 u35 (Own.base o36 (Nat.zero_le _)) u39 (Own.base o40 (Nat.zero_le _)) u43 (Own.base o44 (Nat.zero_le _)) u47 (Own.base o48 (Nat.zero_le _)) u51 (Own.base o52 (Nat.zero_le _)) b_0 a1 a55 a56 a57 _ k62)) rfl rfl rfl ?_
 rintro _ w88 ⟨u64, u68, u72, u76, u80, o65, m66, o69, m70, o73, m74, o77, m78, o81, m82, a84, a85, a86, rfl, b_0, q63⟩
 have m66 : ∀ g, Value.ownBlock u64 = some g → w.heap.size ≤ g ∨ (g = G_0 ∨ some g = Value.ownBlock V0_0 ∨ some g = Value.ownBlock V0_1 ∨ some g = Value.ownBlock V0_2 ∨ some g = Value.ownBlock V0_3 ∨ some g = Value.ownBlock V0_4) := fun g hg => (m66 g hg).elim (fun x => .inl (Nat.le_trans fB.size x)) (c87 g)
 have m70 : ∀ g, Value.ownBlock u68 = some g → w.heap.size ≤ g ∨ (g = G_0 ∨ some g = Value.ownBlock V0_0 ∨ some g = Value.ownBlock V0_1 ∨ some g = Value.ownBlock V0_2 ∨ some g = Value.ownBlock V0_3 ∨ some g = Value.ownBlock V0_4) := fun g hg => (m70 g hg).elim (fun x => .inl (Nat.le_trans fB.size x)) (c87 g)
 have m74 : ∀ g, Value.ownBlock u72 = some g → w.heap.size ≤ g ∨ (g = G_0 ∨ some g = Value.ownBlock V0_0 ∨ some g = Value.ownBlock V0_1 ∨ some g = Value.ownBlock V0_2 ∨ some g = Value.ownBlock V0_3 ∨ some g = Value.ownBlock V0_4) := fun g hg => (m74 g hg).elim (fun x => .inl (Nat.le_trans fB.size x)) (c87 g)
 have m78 : ∀ g, Value.ownBlock u76 = some g → w.heap.size ≤ g ∨ (g = G_0 ∨ some g = Value.ownBlock V0_0 ∨ some g = Value.ownBlock V0_1 ∨ some g = Value.ownBlock V0_2 ∨ some g = Value.ownBlock V0_3 ∨ some g = Value.ownBlock V0_4) := fun g hg => (m78 g hg).elim (fun x => .inl (Nat.le_trans fB.size x)) (c87 g)
 have m82 : ∀ g, Value.ownBlock u80 = some g → w.heap.size ≤ g ∨ (g = G_0 ∨ some g = Value.ownBlock V0_0 ∨ some g = Value.ownBlock V0_1 ∨ some g = Value.ownBlock V0_2 ∨ some g = Value.ownBlock V0_3 ∨ some g = Value.ownBlock V0_4) := fun g hg => (m82 g hg).elim (fun x => .inl (Nat.le_trans fB.size x)) (c87 g)
 have fB := fB.call q63 c87
 refine ol_val (v := .int .i64 t61.1) (by exact xr_assign rfl rfl) rfl rfl rfl ?_
 refine ol_nil ?_
 refine cw_ret ?_
 repeat (first | with_reducible refine thn_r ?_ | with_reducible refine blk_r ?_)
 obtain rfl := Option.some.inj h
 refine fin_ret1 Try.results106 rfl ?_
 exact ⟨_, rfl, u64, u68, u72, u76, u80, o65, m66, o69, m70, o73, m74, o77, m78, o81, m82, a84, a85, a86, rfl, b_0, fB⟩
def rickyardref01_Octet.s0 (fu : Nat) (a1 : Int) : (Int × Int) → Option (Sum Int (Int × Int)) := fun s1 => (if (decide (s1.2 < a1)) = true then some (Sum.inr ((IntKind.u64.wrap (Int.tdiv s1.1 256)), (IntKind.i64.wrap (s1.2 + 1)))) else some (Sum.inl (s1.1)))
def rickyardref01_Octet.f (fu : Nat) (a0 : Int) (a1 : Int) : Option Int := ((loopM (rickyardref01_Octet.s0 fu a1) fu (a0, 0)).bind fun e2 => some ((IntKind.u8.wrap (Int.tmod e2 256))))
set_option maxRecDepth 100000 in
set_option maxHeartbeats 400000 in
theorem rickyardref01_Octet.ok (fu : Nat) (w : World) (a0 : Int) (a1 : Int) (r : Int) (h : rickyardref01_Octet.f fu a0 a1 = some r) :
  Calls Try.prog 137 (([.int .u64 a0, .int .i64 a1] : List Value).toArray) w (fun e w' => ∃ v, e = .returned v ∧ v = .int .u8 r ∧ Gr w w') := by
 unfold rickyardref01_Octet.f at h
 have fB : Gr w w := Fr.refl _ _
 refine calls_cw Try.func137 rfl Try.ntmps137 rfl ?_
 refine cw_seq ?_
 refine cw_region ?_
 refine ol_val (v := .int .u8 0) (by exact xr_assign rfl rfl) rfl rfl rfl ?_
 refine ol_nil ?_
 refine cw_seq ?_
 refine cw_seq ?_
 refine cw_region ?_
 refine ol_val (v := .int .i64 0) (by exact xr_assign rfl rfl) rfl rfl rfl ?_
 refine ol_nil ?_
 obtain ⟨e2, l3, h4⟩ := bs h
 refine cw_mid (fun ρ' w' => ρ' 0 = .int .u64 e2 ∧ Gr w w') ?_ ?_
 ·refine cw_block ?_
  refine cw_round (fun (s1 : Int × Int) ρ' w' => ρ' 0 = .int .u64 s1.1 ∧ ρ' 1 = .int .i64 a1 ∧ ρ' 5 = .int .i64 s1.2 ∧ Gr w w') l3 ?_ ?_
  ·skip
   exact ⟨rfl, rfl, rfl, fB⟩
  rintro s1 x7 ρ5 w6 ⟨e0, e1, e5, fB⟩ h
  unfold rickyardref01_Octet.s0 at h
  refine cw_seq ?_
  refine cw_seq ?_
  refine cw_region ?_
  refine ol_val (v := .int .i64 s1.2) (by exact xr_move rfl e5) rfl rfl rfl ?_
  refine ol_val (v := .int .i64 a1) (by exact xr_move rfl e1) rfl rfl rfl ?_
  refine ol_val (v := .bool (decide (s1.2 < a1))) (by exact xr_lss rfl rfl rfl) rfl rfl rfl ?_
  refine ol_nil ?_
  rcases is h with ⟨c8, h⟩ | ⟨c8, h⟩
  ·refine cw_condT rfl c8 ?_
   refine cw_skip ?_
   refine cw_seq ?_
   refine cw_block ?_
   refine cw_region ?_
   refine ol_val (v := .int .u64 s1.1) (by exact xr_move rfl e0) rfl rfl rfl ?_
   refine ol_val (v := .int .u64 (IntKind.u64.wrap (Int.tdiv s1.1 256))) (by exact xr_quo rfl rfl rfl (by decide)) rfl rfl rfl ?_
   refine ol_val (v := .int .u64 (IntKind.u64.wrap (Int.tdiv s1.1 256))) (by exact xr_assign rfl rfl) rfl rfl rfl ?_
   refine ol_nil ?_
   refine blk_i ?_
   refine cw_region ?_
   refine ol_val (v := .int .i64 s1.2) (by exact xr_move rfl e5) rfl rfl rfl ?_
   refine ol_val (v := .int .i64 (IntKind.i64.wrap (s1.2 + 1))) (by exact xr_add rfl rfl rfl) rfl rfl rfl ?_
   refine ol_val (v := .int .i64 (IntKind.i64.wrap (s1.2 + 1))) (by exact xr_assign rfl rfl) rfl rfl rfl ?_
   refine ol_nil ?_
   obtain rfl := Option.some.inj h
   refine lp_in ?_
   exact ⟨rfl, e1, rfl, fB⟩
  refine cw_condF rfl c8 ?_
  refine cw_exit ?_
  repeat (first | with_reducible refine thn_e ?_ | with_reducible refine blk_e rfl ?_)
  obtain rfl := Option.some.inj h
  refine lp_exit ?_
  rintro rfl
  refine thn_x ?_
  exact ⟨e0, fB⟩
 rintro ρ9 w10 ⟨e0, fB⟩
 have h := h4
 refine cw_seq ?_
 refine cw_region ?_
 refine ol_val (v := .int .u64 e2) (by exact xr_move rfl e0) rfl rfl rfl ?_
 refine ol_val (v := .int .u64 (Int.tmod e2 256)) (by exact xr_rem rfl rfl rfl (by decide)) rfl rfl rfl ?_
 refine ol_val (v := .int .u8 (IntKind.u8.wrap (Int.tmod e2 256))) (by exact xr_conv rfl Try.underlying22 Try.underlying5 rfl) rfl rfl rfl ?_
 refine ol_val (v := .int .u8 (IntKind.u8.wrap (Int.tmod e2 256))) (by exact xr_assign rfl rfl) rfl rfl rfl ?_
 refine ol_nil ?_
 refine cw_ret ?_
 repeat (first | with_reducible refine thn_r ?_ | with_reducible refine blk_r ?_)
 obtain rfl := Option.some.inj h
 refine fin_ret1 Try.results137 rfl ?_
 exact ⟨_, rfl, rfl, fB⟩
def rickyardref01_Lay.s0 (fu : Nat) (a0 : Int) (a1 : Int) : ((List UInt8) × Int) → Option (Sum (List UInt8) ((List UInt8) × Int)) := fun s1 => (if (decide (s1.2 < a1)) = true then ((rickyardref01_Octet.f fu a0 s1.2 : Option Int).bind fun t9 => (if List.length s1.1 + List.length (List.map toB [t9]) ≤ LIM then some (Sum.inr ((s1.1 ++ (List.map toB [t9])), (IntKind.i64.wrap (s1.2 + 1)))) else none)) else some (Sum.inl (s1.1)))
def rickyardref01_Lay.f (fu : Nat) (a0 : Int) (a1 : Int) : Option (List UInt8) := ((loopM (rickyardref01_Lay.s0 fu a0 a1) fu ([], 0)).bind fun e2 => some (e2))
set_option maxRecDepth 100000 in
set_option maxHeartbeats 400000 in
theorem rickyardref01_Lay.ok (fu : Nat) (w : World) (a0 : Int) (a1 : Int) (r : (List UInt8)) (h : rickyardref01_Lay.f fu a0 a1 = some r) :
  Calls Try.prog 117 (([.int .u64 a0, .int .i64 a1] : List Value).toArray) w (fun e w' => ∃ v, e = .returned v ∧ v = sv r ∧ Gr w w') := by
 unfold rickyardref01_Lay.f at h
 have fB : Gr w w := Fr.refl _ _
 refine calls_cw Try.func117 rfl Try.ntmps117 rfl ?_
 refine cw_seq ?_
 refine cw_region ?_
 refine ol_val (v := sv []) (by exact xr_assign rfl rfl) rfl rfl rfl ?_
 refine ol_nil ?_
 refine cw_seq ?_
 refine cw_region ?_
 refine ol_val (v := sv []) (by exact xr_assign rfl rfl) rfl rfl rfl ?_
 refine ol_nil ?_
 refine cw_seq ?_
 refine cw_seq ?_
 refine cw_region ?_
 refine ol_val (v := .int .i64 0) (by exact xr_assign rfl rfl) rfl rfl rfl ?_
 refine ol_nil ?_
 obtain ⟨e2, l3, h4⟩ := bs h
 refine cw_mid (fun ρ' w' => ρ' 5 = sv e2 ∧ Gr w w') ?_ ?_
 ·refine cw_block ?_
  refine cw_round (fun (s1 : (List UInt8) × Int) ρ' w' => ρ' 0 = .int .u64 a0 ∧ ρ' 1 = .int .i64 a1 ∧ ρ' 5 = sv s1.1 ∧ ρ' 6 = .int .i64 s1.2 ∧ Gr w w') l3 ?_ ?_
  ·skip
   exact ⟨rfl, rfl, rfl, rfl, fB⟩
  rintro s1 x7 ρ5 w6 ⟨e0, e1, e5, e6, fB⟩ h
  unfold rickyardref01_Lay.s0 at h
  refine cw_seq ?_
  refine cw_seq ?_
  refine cw_region ?_
  refine ol_val (v := .int .i64 s1.2) (by exact xr_move rfl e6) rfl rfl rfl ?_
  refine ol_val (v := .int .i64 a1) (by exact xr_move rfl e1) rfl rfl rfl ?_
  refine ol_val (v := .bool (decide (s1.2 < a1))) (by exact xr_lss rfl rfl rfl) rfl rfl rfl ?_
  refine ol_nil ?_
  rcases is h with ⟨c8, h⟩ | ⟨c8, h⟩
  ·refine cw_condT rfl c8 ?_
   refine cw_skip ?_
   refine cw_seq ?_
   refine cw_block ?_
   refine cw_region ?_
   refine ol_val (v := sv s1.1) (by exact xr_move rfl e5) rfl rfl rfl ?_
   refine ol_val (v := .int .u64 a0) (by exact xr_move rfl e0) rfl rfl rfl ?_
   refine ol_val (v := .int .i64 s1.2) (by exact xr_move rfl e6) rfl rfl rfl ?_
   obtain ⟨t9, k10, h⟩ := bs h
   refine ol_op (by exact opv_call rfl cal137 (ac rfl (ac rfl an)) (rickyardref01_Octet.ok fu _ a0 s1.2 _ k10)) rfl rfl rfl ?_
   rintro _ w12 ⟨rfl, q11⟩
   have fB := fB.gr q11
   refine ol_op (by exact opv_buildSlice (K := (kI .u8)) (xs := [t9]) (vals := [.int .u8 t9]) rfl Try.underlying43 el5 rfl rfl ⟨rfl, rfl, trivial⟩ rfl rfl rfl fB.size) rfl rfl rfl ?_
   rintro v13 w18 ⟨o15, q14, z16⟩
   have fB := fB.gr q14
   refine ol_val (v := sv (List.map toB [t9])) (by exact xr_toStr rfl Try.underlying43 Try.underlying5 Try.underlying9 rfl o15.rd) rfl rfl rfl ?_
   obtain ⟨g19, h⟩ := gs h
   refine ol_val (v := sv (s1.1 ++ (List.map toB [t9]))) (by exact xr_addStr rfl rfl rfl g19) rfl rfl rfl ?_
   refine ol_val (v := sv (s1.1 ++ (List.map toB [t9]))) (by exact xr_assign rfl rfl) rfl rfl rfl ?_
   refine ol_nil ?_
   refine blk_i ?_
   refine cw_region ?_
   refine ol_val (v := .int .i64 s1.2) (by exact xr_move rfl e6) rfl rfl rfl ?_
   refine ol_val (v := .int .i64 (IntKind.i64.wrap (s1.2 + 1))) (by exact xr_add rfl rfl rfl) rfl rfl rfl ?_
   refine ol_val (v := .int .i64 (IntKind.i64.wrap (s1.2 + 1))) (by exact xr_assign rfl rfl) rfl rfl rfl ?_
   refine ol_nil ?_
   obtain rfl := Option.some.inj h
   refine lp_in ?_
   exact ⟨e0, e1, rfl, rfl, fB⟩
  refine cw_condF rfl c8 ?_
  refine cw_exit ?_
  repeat (first | with_reducible refine thn_e ?_ | with_reducible refine blk_e rfl ?_)
  obtain rfl := Option.some.inj h
  refine lp_exit ?_
  rintro rfl
  refine thn_x ?_
  exact ⟨e5, fB⟩
 rintro ρ20 w21 ⟨e5, fB⟩
 have h := h4
 refine cw_seq ?_
 refine cw_region ?_
 refine ol_val (v := sv e2) (by exact xr_move rfl e5) rfl rfl rfl ?_
 refine ol_val (v := sv e2) (by exact xr_assign rfl rfl) rfl rfl rfl ?_
 refine ol_nil ?_
 refine cw_ret ?_
 repeat (first | with_reducible refine thn_r ?_ | with_reducible refine blk_r ?_)
 obtain rfl := Option.some.inj h
 refine fin_ret1 Try.results117 rfl ?_
 exact ⟨_, rfl, rfl, fB⟩
def rickyardref15_Read.s0 (fu : Nat) (a0 : S_rickyardref05_Device) (a1 : Int) : ((List UInt8) × Int) → Option (Sum (Sum ((List UInt8) × Int) (List UInt8)) ((List UInt8) × Int)) := fun s12 => (if (decide (s12.2 < 8)) = true then ((rickyardref05_Device_Load.f fu a0 (IntKind.i64.wrap ((IntKind.i64.wrap (8 * a1)) + s12.2)) : Option (Int × Int)).bind fun t21 => (if (!decide (t21.2 = 0)) = true then some (Sum.inl (Sum.inl ([], t21.2))) else ((rickyardref01_Lay.f fu t21.1 8 : Option (List UInt8)).bind fun t26 => (if List.length s12.1 + List.length t26 ≤ LIM then some (Sum.inr ((s12.1 ++ t26), (IntKind.i64.wrap (s12.2 + 1)))) else none)))) else some (Sum.inl (Sum.inr (s12.1))))
def rickyardref15_Read.f (fu : Nat) (a0 : S_rickyardref05_Device) (a1 : Int) : Option ((List UInt8) × Int) := (((if (decide (a1 < 0)) = true then some (true) else ((rickyardref15_Lines.f fu a0 : Option Int).bind fun t4 => some ((decide (a1 ≥ t4))))) : Option Bool).bind fun x1 => (if x1 = true then some ([], 2) else ((loopM (rickyardref15_Read.s0 fu a0 a1) fu ([], 0)).bind fun e13 => match e13 with | Sum.inl p => some p | Sum.inr x16 => some (x16, 0))))
set_option maxRecDepth 100000 in
set_option maxHeartbeats 400000 in
theorem rickyardref15_Read.ok (fu : Nat) (w : World) (a0 : S_rickyardref05_Device) (G_0 : Nat) (V0_0 : Value) (R0_0 : Rd (kI .u64) w V0_0 a0.Lasts) (V0_1 : Value) (R0_1 : Rd (kI .u64) w V0_1 a0.Stored) (V0_2 : Value) (R0_2 : Rd (kI .u64) w V0_2 a0.Sent) (V0_3 : Value) (R0_3 : Rd kB w V0_3 a0.Flushed) (V0_4 : Value) (R0_4 : Rd (kI .i64) w V0_4 a0.Plan) (b_0 : Blk w G_0 65 [Seg.cell V0_0 R0_0.one, Seg.cell V0_1 R0_1.one, Seg.cell V0_2 R0_2.one, Seg.cell V0_3 R0_3.one, Seg.cell V0_4 R0_4.one, Seg.cell (.int .i64 a0.Since), Seg.cell (.int .i64 a0.Left), Seg.cell (.int .i64 a0.Steps)]) (a1 : Int) (r : (List UInt8) × Int) (h : rickyardref15_Read.f fu a0 a1 = some r) :
  Calls Try.prog 107 (([.pointer (some ⟨G_0, 0, none⟩), .int .i64 a1] : List Value).toArray) w (fun e w' => ∃ v, e = .returned v ∧ v = .tuple #[sv r.1, .int .i64 r.2] ∧ Gr w w') := by
 unfold rickyardref15_Read.f at h
 have fB : Gr w w := Fr.refl _ _
 refine calls_cw Try.func107 rfl Try.ntmps107 rfl ?_
 refine cw_seq ?_
 refine cw_region ?_
 refine ol_val (v := sv []) (by exact xr_assign rfl rfl) rfl rfl rfl ?_
 refine ol_val (v := .int .i64 0) (by exact xr_assign rfl rfl) rfl rfl rfl ?_
 refine ol_nil ?_
 refine cw_seq ?_
 refine cw_seq ?_
 obtain ⟨x1, j2, h⟩ := bs h
 refine cw_mid (fun ρ' w' => ρ' 0 = .pointer (some ⟨G_0, 0, none⟩) ∧ ρ' 1 = .int .i64 a1 ∧ ρ' 17 = .bool x1 ∧ Gr w w') ?_ ?_
 ·skip
  refine cw_region ?_
  refine ol_val (v := .int .i64 a1) (by exact xr_move rfl rfl) rfl rfl rfl ?_
  refine ol_val (v := .bool (decide (a1 < 0))) (by exact xr_lss rfl rfl rfl) rfl rfl rfl ?_
  refine ol_val (v := .bool (decide (a1 < 0))) (by exact xr_move rfl rfl) rfl rfl rfl ?_
  rcases is j2 with ⟨c3, j2⟩ | ⟨c3, j2⟩
  ·skip
   refine ol_gskip rfl rfl rfl rfl rfl c3 ?_
   refine ol_gskip rfl rfl rfl rfl rfl c3 ?_
   refine ol_gskip rfl rfl rfl rfl rfl c3 ?_
   refine ol_gskip rfl rfl rfl rfl rfl c3 ?_
   refine ol_val (v := .bool true) (by exact xr_pickT rfl rfl c3 rfl) rfl rfl rfl ?_
   refine ol_nil ?_
   obtain rfl := Option.some.inj j2
   refine thn_i ?_
   exact ⟨rfl, rfl, rfl, Fr.refl _ _⟩
  refine ol_gval (v := .int .i64 a1) (by exact xr_move rfl rfl) rfl rfl rfl rfl rfl c3 ?_
  refine ol_gval (v := .pointer (some ⟨G_0, 0, none⟩)) (by exact xr_move rfl rfl) rfl rfl rfl rfl rfl c3 ?_
  obtain ⟨t4, k5, j2⟩ := bs j2
  refine ol_gop (by exact opv_call rfl cal129 (ac rfl an) (rickyardref15_Lines.ok fu _ a0 G_0 V0_0 (R0_0.gr fB) V0_1 (R0_1.gr fB) V0_2 (R0_2.gr fB) V0_3 (R0_3.gr fB) V0_4 (R0_4.gr fB) b_0 _ k5)) rfl rfl rfl rfl rfl c3 ?_
  rintro _ w7 ⟨rfl, q6⟩
  have b_0 := b_0.gr q6
  have fB := fB.gr q6
  refine ol_gval (v := .bool (decide (a1 ≥ t4))) (by exact xr_geq rfl rfl rfl) rfl rfl rfl rfl rfl c3 ?_
  refine ol_val (v := .bool (decide (a1 ≥ t4))) (by exact xr_pickF rfl rfl c3 rfl) rfl rfl rfl ?_
  refine ol_nil ?_
  obtain rfl := Option.some.inj j2
  refine thn_i ?_
  exact ⟨rfl, rfl, rfl, q6⟩
 rintro ρ8 w9 ⟨e0, e1, e17, q10⟩
 have b_0 := b_0.gr q10
 have fB := fB.gr q10
 rcases is h with ⟨c11, h⟩ | ⟨c11, h⟩
 ·refine cw_condT e17 c11 ?_
  refine cw_seq ?_
  refine cw_region ?_
  refine ol_val (v := sv []) (by exact xr_assign rfl rfl) rfl rfl rfl ?_
  refine ol_val (v := .int .i64 2) (by exact xr_assign rfl rfl) rfl rfl rfl ?_
  refine ol_nil ?_
  refine cw_ret ?_
  repeat (first | with_reducible refine thn_r ?_ | with_reducible refine blk_r ?_)
  obtain rfl := Option.some.inj h
  refine fin_ret2 Try.results107 rfl rfl ?_
  exact ⟨_, rfl, rfl, fB⟩
 refine cw_condF e17 c11 ?_
 refine cw_skip ?_
 refine cw_seq ?_
 refine cw_region ?_
 refine ol_val (v := sv []) (by exact xr_assign rfl rfl) rfl rfl rfl ?_
 refine ol_nil ?_
 refine cw_seq ?_
 refine cw_seq ?_
 refine cw_region ?_
 refine ol_val (v := .int .i64 0) (by exact xr_assign rfl rfl) rfl rfl rfl ?_
 refine ol_nil ?_
 obtain ⟨e13, l14, h15⟩ := bs h
 refine cw_mid (fun ρ' w' => ∃ x16, e13 = Sum.inr x16 ∧ ρ' 6 = sv x16 ∧ Blk w' G_0 65 [Seg.cell V0_0 R0_0.one, Seg.cell V0_1 R0_1.one, Seg.cell V0_2 R0_2.one, Seg.cell V0_3 R0_3.one, Seg.cell V0_4 R0_4.one, Seg.cell (.int .i64 a0.Since), Seg.cell (.int .i64 a0.Left), Seg.cell (.int .i64 a0.Steps)] ∧ Gr w w') ?_ ?_
 ·refine cw_block ?_
  refine cw_round (fun (s12 : (List UInt8) × Int) ρ' w' => ρ' 0 = .pointer (some ⟨G_0, 0, none⟩) ∧ ρ' 1 = .int .i64 a1 ∧ ρ' 6 = sv s12.1 ∧ ρ' 7 = .int .i64 s12.2 ∧ Blk w' G_0 65 [Seg.cell V0_0 R0_0.one, Seg.cell V0_1 R0_1.one, Seg.cell V0_2 R0_2.one, Seg.cell V0_3 R0_3.one, Seg.cell V0_4 R0_4.one, Seg.cell (.int .i64 a0.Since), Seg.cell (.int .i64 a0.Left), Seg.cell (.int .i64 a0.Steps)] ∧ Gr w w') l14 ?_ ?_
  ·skip
   exact ⟨e0, e1, rfl, rfl, b_0, fB⟩
  rintro s12 x19 ρ17 w18 ⟨e0, e1, e6, e7, b_0, fB⟩ h
  unfold rickyardref15_Read.s0 at h
  refine cw_seq ?_
  refine cw_seq ?_
  refine cw_region ?_
  refine ol_val (v := .int .i64 s12.2) (by exact xr_move rfl e7) rfl rfl rfl ?_
  refine ol_val (v := .bool (decide (s12.2 < 8))) (by exact xr_lss rfl rfl rfl) rfl rfl rfl ?_
  refine ol_nil ?_
  rcases is h with ⟨c20, h⟩ | ⟨c20, h⟩
  ·refine cw_condT rfl c20 ?_
   refine cw_skip ?_
   refine cw_seq ?_
   refine cw_block ?_
   refine cw_seq ?_
   refine cw_region ?_
   refine ol_val (v := .pointer (some ⟨G_0, 0, none⟩)) (by exact xr_move rfl e0) rfl rfl rfl ?_
   refine ol_val (v := .int .i64 a1) (by exact xr_move rfl e1) rfl rfl rfl ?_
   refine ol_val (v := .int .i64 (IntKind.i64.wrap (8 * a1))) (by exact xr_mul rfl rfl rfl) rfl rfl rfl ?_
   refine ol_val (v := .int .i64 s12.2) (by exact xr_move rfl e7) rfl rfl rfl ?_
   refine ol_val (v := .int .i64 (IntKind.i64.wrap ((IntKind.i64.wrap (8 * a1)) + s12.2))) (by exact xr_add rfl rfl rfl) rfl rfl rfl ?_
   obtain ⟨t21, k22, h⟩ := bs h
   refine ol_op (by exact opv_call rfl cal93 (ac rfl (ac rfl an)) (rickyardref05_Device_Load.ok fu _ a0 G_0 V0_0 (R0_0.gr fB) V0_1 (R0_1.gr fB) V0_2 (R0_2.gr fB) V0_3 (R0_3.gr fB) V0_4 (R0_4.gr fB) b_0 (IntKind.i64.wrap ((IntKind.i64.wrap (8 * a1)) + s12.2)) _ k22)) rfl rfl rfl ?_
   rintro _ w24 ⟨rfl, q23⟩
   have b_0 := b_0.gr q23
   have fB := fB.gr q23
   refine ol_val (v := .tuple #[.int .u64 t21.1, .int .i64 t21.2]) (by exact xr_move rfl rfl) rfl rfl rfl ?_
   refine ol_val (v := .int .u64 t21.1) (by exact xr_extract rfl rfl rfl) rfl rfl rfl ?_
   refine ol_val (v := .int .i64 t21.2) (by exact xr_extract rfl rfl rfl) rfl rfl rfl ?_
   refine ol_val (v := .int .u64 t21.1) (by exact xr_assign rfl rfl) rfl rfl rfl ?_
   refine ol_val (v := .int .i64 t21.2) (by exact xr_assign rfl rfl) rfl rfl rfl ?_
   refine ol_nil ?_
   refine cw_seq ?_
   refine cw_seq ?_
   refine cw_region ?_
   refine ol_val (v := .int .i64 t21.2) (by exact xr_move rfl rfl) rfl rfl rfl ?_
   refine ol_val (v := .bool (!decide (t21.2 = 0))) (by exact xr_neI rfl Try.underlying3 rfl rfl rfl) rfl rfl rfl ?_
   refine ol_nil ?_
   rcases is h with ⟨c25, h⟩ | ⟨c25, h⟩
   ·refine cw_condT rfl c25 ?_
    refine cw_seq ?_
    refine cw_region ?_
    refine ol_val (v := .int .i64 t21.2) (by exact xr_move rfl rfl) rfl rfl rfl ?_
    refine ol_val (v := sv []) (by exact xr_assign rfl rfl) rfl rfl rfl ?_
    refine ol_val (v := .int .i64 t21.2) (by exact xr_assign rfl rfl) rfl rfl rfl ?_
    refine ol_nil ?_
    refine cw_ret ?_
    repeat (first | with_reducible refine thn_r ?_ | with_reducible refine blk_r ?_)
    obtain rfl := Option.some.inj h
    refine lp_ret ?_
    rintro rfl
    repeat (first | with_reducible refine thn_r ?_ | with_reducible refine blk_r ?_)
    have h := h15
    obtain rfl := Option.some.inj h
    refine fin_ret2 Try.results107 rfl rfl ?_
    exact ⟨_, rfl, rfl, fB⟩
   refine cw_condF rfl c25 ?_
   refine cw_skip ?_
   refine cw_region ?_
   refine ol_val (v := sv s12.1) (by exact xr_move rfl e6) rfl rfl rfl ?_
   refine ol_val (v := .int .u64 t21.1) (by exact xr_move rfl rfl) rfl rfl rfl ?_
   obtain ⟨t26, k27, h⟩ := bs h
   refine ol_op (by exact opv_call rfl cal117 (ac rfl (ac rfl an)) (rickyardref01_Lay.ok fu _ t21.1 8 _ k27)) rfl rfl rfl ?_
   rintro _ w29 ⟨rfl, q28⟩
   have b_0 := b_0.gr q28
   have fB := fB.gr q28
   obtain ⟨g30, h⟩ := gs h
   refine ol_val (v := sv (s12.1 ++ t26)) (by exact xr_addStr rfl rfl rfl g30) rfl rfl rfl ?_
   refine ol_val (v := sv (s12.1 ++ t26)) (by exact xr_assign rfl rfl) rfl rfl rfl ?_
   refine ol_nil ?_
   refine blk_i ?_
   refine cw_region ?_
   refine ol_val (v := .int .i64 s12.2) (by exact xr_move rfl e7) rfl rfl rfl ?_
   refine ol_val (v := .int .i64 (IntKind.i64.wrap (s12.2 + 1))) (by exact xr_add rfl rfl rfl) rfl rfl rfl ?_
   refine ol_val (v := .int .i64 (IntKind.i64.wrap (s12.2 + 1))) (by exact xr_assign rfl rfl) rfl rfl rfl ?_
   refine ol_nil ?_
   obtain rfl := Option.some.inj h
   refine lp_in ?_
   exact ⟨e0, e1, rfl, rfl, b_0, fB⟩
  refine cw_condF rfl c20 ?_
  refine cw_exit ?_
  repeat (first | with_reducible refine thn_e ?_ | with_reducible refine blk_e rfl ?_)
  obtain rfl := Option.some.inj h
  refine lp_exit ?_
  rintro rfl
  refine thn_x ?_
  exact ⟨_, rfl, e6, b_0, fB⟩
 rintro ρ31 w32 ⟨x16, rfl, e6, b_0, fB⟩
 have h := h15
 refine cw_seq ?_
 refine cw_region ?_
 refine ol_val (v := sv x16) (by exact xr_move rfl e6) rfl rfl rfl ?_
 refine ol_val (v := sv x16) (by exact xr_assign rfl rfl) rfl rfl rfl ?_
 refine ol_val (v := .int .i64 0) (by exact xr_assign rfl rfl) rfl rfl rfl ?_
 refine ol_nil ?_
 refine cw_ret ?_
 repeat (first | with_reducible refine thn_r ?_ | with_reducible refine blk_r ?_)
 obtain rfl := Option.some.inj h
 refine fin_ret2 Try.results107 rfl rfl ?_
 exact ⟨_, rfl, rfl, fB⟩
end Go.Proofs.Ytklhbaghbmndeaa
