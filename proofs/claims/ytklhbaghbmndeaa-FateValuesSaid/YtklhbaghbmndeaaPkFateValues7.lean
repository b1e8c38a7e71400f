/- FateValues: texts merged, part 7 of 8. The last part proves that the law FateValues holds for every input. -/
import Derived.Test.YtklhbaghbmndeaaPkFateValues6
/- (*rickyard/rickyardref05.Device).Crash: its model, and that the Go function computes it: written by gen.py. -/
set_option linter.unusedVariables false
namespace Go.Proofs.Ytklhbaghbmndeaa
open Go Go.Xw
def rickyardref05_Device_Crash.s0 (fu : Nat) (a1 : List Int) (t19 : (List S_api_Fate)) : (Int × (List Int) × (List Int) × (List Int) × (List Bool) × (List Int) × Int × Int × Int) → Option (Sum ((List Int) × (List Int) × (List Int) × (List Bool) × (List Int) × Int × Int × Int) (Int × (List Int) × (List Int) × (List Int) × (List Bool) × (List Int) × Int × Int × Int)) := fun s27 => (if (decide (s27.1 < (List.length t19 : Int))) = true then (((if (decide (s27.1 < (List.length a1 : Int))) = true then (if 0 ≤ s27.1 ∧ s27.1 < (List.length a1 : Int) then some ((ix a1 s27.1)) else none) else some (0)) : Option Int).bind fun x86 => (if 0 ≤ s27.1 ∧ s27.1 < (List.length t19 : Int) then (if 0 ≤ s27.1 ∧ s27.1 < (List.length t19 : Int) then ((rickyardref05_Value.f fu (ix t19 s27.1) x86 : Option Int).bind fun t95 => ((rickyardref05_Device_last.f fu (⟨s27.2.1, s27.2.2.1, s27.2.2.2.1, s27.2.2.2.2.1, s27.2.2.2.2.2.1, s27.2.2.2.2.2.2.1, s27.2.2.2.2.2.2.2.1, s27.2.2.2.2.2.2.2.2⟩ : S_rickyardref05_Device) ((ix t19 s27.1).At) t95 : Option S_rickyardref05_Device).bind fun t101 => some (Sum.inr ((IntKind.i64.wrap (s27.1 + 1)), t101.Lasts, t101.Stored, t101.Sent, t101.Flushed, t101.Plan, t101.Since, t101.Left, t101.Steps)))) else none) else none)) else some (Sum.inl (s27.2.1, s27.2.2.1, s27.2.2.2.1, s27.2.2.2.2.1, s27.2.2.2.2.2.1, s27.2.2.2.2.2.2.1, s27.2.2.2.2.2.2.2.1, s27.2.2.2.2.2.2.2.2)))
def rickyardref05_Device_Crash.s1 (fu : Nat) (e28 : (List Int) × (List Int) × (List Int) × (List Bool) × (List Int) × Int × Int × Int) : (Int × (List Int)) → Option (Sum (List Int) (Int × (List Int))) := fun s138 => (if (decide (s138.1 < (List.length e28.1 : Int))) = true then (if 0 ≤ s138.1 ∧ s138.1 < (List.length e28.1 : Int) then (if 0 ≤ s138.1 ∧ s138.1 < (List.length s138.2 : Int) then some (Sum.inr ((IntKind.i64.wrap (s138.1 + 1)), (List.set s138.2 (Int.toNat s138.1) (ix e28.1 s138.1)))) else none) else none) else some (Sum.inl (s138.2)))
def rickyardref05_Device_Crash.f (fu : Nat) (a0 : S_rickyardref05_Device) (a1 : List Int) : Option S_rickyardref05_Device := ((rickyardref05_Device_Fates.f fu a0 : Option (List S_api_Fate)).bind fun t19 => ((loopM (rickyardref05_Device_Crash.s0 fu a1 t19) fu (0, a0.Lasts, a0.Stored, a0.Sent, a0.Flushed, a0.Plan, a0.Since, a0.Left, a0.Steps)).bind fun e28 => ((loopM (rickyardref05_Device_Crash.s1 fu e28) fu (0, e28.2.1)).bind fun e139 => some ((⟨e28.1, e139, e28.2.2.1, e28.2.2.2.1, [], 0, (-1), e28.2.2.2.2.2.2.2⟩ : S_rickyardref05_Device)))))
set_option maxRecDepth 100000 in
set_option maxHeartbeats 400000 in
theorem rickyardref05_Device_Crash.ok (fu : Nat) (w : World) (a0 : S_rickyardref05_Device) (G_0 : Nat) (V0_0 : Value) (O0_0 : Own (kI .u64) 22 w 0 V0_0 a0.Lasts) (V0_1 : Value) (O0_1 : Own (kI .u64) 22 w 0 V0_1 a0.Stored) (V0_2 : Value) (O0_2 : Own (kI .u64) 22 w 0 V0_2 a0.Sent) (V0_3 : Value) (O0_3 : Own kB 4 w 0 V0_3 a0.Flushed) (V0_4 : Value) (O0_4 : Own (kI .i64) 3 w 0 V0_4 a0.Plan) (b_0 : Blk w G_0 65 [Seg.cell V0_0 O0_0.one, Seg.cell V0_1 O0_1.one, Seg.cell V0_2 O0_2.one, Seg.cell V0_3 O0_3.one, Seg.cell V0_4 O0_4.one, Seg.cell (.int .i64 a0.Since), Seg.cell (.int .i64 a0.Left), Seg.cell (.int .i64 a0.Steps)]) (a1 : List Int) (V1_0 : Value) (R1_0 : Rd (kI .i64) w V1_0 a1) (A_R0_0_R0_1 : OffV V0_0 V0_1) (A_R0_0_R0_2 : OffV V0_0 V0_2) (A_R0_1_R0_2 : OffV V0_1 V0_2) (NR1_0_P0 : OffR V1_0 a1 G_0) (NR1_0_R0_0 : OffRV V1_0 a1 V0_0) (NR1_0_R0_1 : OffRV V1_0 a1 V0_1) (NR1_0_R0_2 : OffRV V1_0 a1 V0_2) (NR1_0_R0_3 : OffRV V1_0 a1 V0_3) (NR1_0_R0_4 : OffRV V1_0 a1 V0_4) (r : S_rickyardref05_Device) (h : rickyardref05_Device_Crash.f fu a0 a1 = some r) :
    Calls Try.prog 98 (([.pointer (some ⟨G_0, 0, none⟩), V1_0] : List Value).toArray) w (fun e w' => ∃ v, e = .returned v ∧ ∃ u1 : Value, ∃ u4 : Value, ∃ u7 : Value, ∃ u10 : Value, ∃ u13 : Value, ∃ o2 : Own (kI .u64) 22 w' 0 u1 r.Lasts, ∃ m3 : ∀ g, Value.ownBlock u1 = some g → w.heap.size ≤ g ∨ (g = G_0 ∨ some g = Value.ownBlock V0_0 ∨ some g = Value.ownBlock V0_1 ∨ some g = Value.ownBlock V0_2 ∨ some g = Value.ownBlock V0_3 ∨ some g = Value.ownBlock V0_4), ∃ o5 : Own (kI .u64) 22 w' 0 u4 r.Stored, ∃ m6 : ∀ g, Value.ownBlock u4 = some g → w.heap.size ≤ g ∨ (g = G_0 ∨ some g = Value.ownBlock V0_0 ∨ some g = Value.ownBlock V0_1 ∨ some g = Value.ownBlock V0_2 ∨ some g = Value.ownBlock V0_3 ∨ some g = Value.ownBlock V0_4), ∃ o8 : Own (kI .u64) 22 w' 0 u7 r.Sent, ∃ m9 : ∀ g, Value.ownBlock u7 = some g → w.heap.size ≤ g ∨ (g = G_0 ∨ some g = Value.ownBlock V0_0 ∨ some g = Value.ownBlock V0_1 ∨ some g = Value.ownBlock V0_2 ∨ some g = Value.ownBlock V0_3 ∨ some g = Value.ownBlock V0_4), ∃ o11 : Own kB 4 w' 0 u10 r.Flushed, ∃ m12 : ∀ g, Value.ownBlock u10 = some g → w.heap.size ≤ g ∨ (g = G_0 ∨ some g = Value.ownBlock V0_0 ∨ some g = Value.ownBlock V0_1 ∨ some g = Value.ownBlock V0_2 ∨ some g = Value.ownBlock V0_3 ∨ some g = Value.ownBlock V0_4), ∃ o14 : Own (kI .i64) 3 w' 0 u13 r.Plan, ∃ m15 : ∀ g, Value.ownBlock u13 = some g → w.heap.size ≤ g ∨ (g = G_0 ∨ some g = Value.ownBlock V0_0 ∨ some g = Value.ownBlock V0_1 ∨ some g = Value.ownBlock V0_2 ∨ some g = Value.ownBlock V0_3 ∨ some g = Value.ownBlock V0_4), ∃ a16 : OffV u1 u4, ∃ a17 : OffV u1 u7, ∃ a18 : OffV u4 u7, v = .tuple #[] ∧ Blk w' G_0 65 [Seg.cell u1 o2.one, Seg.cell u4 o5.one, Seg.cell u7 o8.one, Seg.cell u10 o11.one, Seg.cell u13 o14.one, Seg.cell (.int .i64 r.Since), Seg.cell (.int .i64 r.Left), Seg.cell (.int .i64 r.Steps)] ∧ Fr (fun j => j = G_0 ∨ some j = Value.ownBlock V0_0 ∨ some j = Value.ownBlock V0_1 ∨ some j = Value.ownBlock V0_2 ∨ some j = Value.ownBlock V0_3 ∨ some j = Value.ownBlock V0_4) w w') := by
  unfold rickyardref05_Device_Crash.f at h
  have fB : Fr (fun j => j = G_0 ∨ some j = Value.ownBlock V0_0 ∨ some j = Value.ownBlock V0_1 ∨ some j = Value.ownBlock V0_2 ∨ some j = Value.ownBlock V0_3 ∨ some j = Value.ownBlock V0_4) w w := Fr.refl _ _
  have M0_0 : ∀ g, Value.ownBlock V0_0 = some g → w.heap.size ≤ g ∨ (g = G_0 ∨ some g = Value.ownBlock V0_0 ∨ some g = Value.ownBlock V0_1 ∨ some g = Value.ownBlock V0_2 ∨ some g = Value.ownBlock V0_3 ∨ some g = Value.ownBlock V0_4) := fun g hg => .inr (.inr (.inl hg.symm))
  have M0_1 : ∀ g, Value.ownBlock V0_1 = some g → w.heap.size ≤ g ∨ (g = G_0 ∨ some g = Value.ownBlock V0_0 ∨ some g = Value.ownBlock V0_1 ∨ some g = Value.ownBlock V0_2 ∨ some g = Value.ownBlock V0_3 ∨ some g = Value.ownBlock V0_4) := fun g hg => .inr (.inr (.inr (.inl hg.symm)))
  have M0_2 : ∀ g, Value.ownBlock V0_2 = some g → w.heap.size ≤ g ∨ (g = G_0 ∨ some g = Value.ownBlock V0_0 ∨ some g = Value.ownBlock V0_1 ∨ some g = Value.ownBlock V0_2 ∨ some g = Value.ownBlock V0_3 ∨ some g = Value.ownBlock V0_4) := fun g hg => .inr (.inr (.inr (.inr (.inl hg.symm))))
  have M0_3 : ∀ g, Value.ownBlock V0_3 = some g → w.heap.size ≤ g ∨ (g = G_0 ∨ some g = Value.ownBlock V0_0 ∨ some g = Value.ownBlock V0_1 ∨ some g = Value.ownBlock V0_2 ∨ some g = Value.ownBlock V0_3 ∨ some g = Value.ownBlock V0_4) := fun g hg => .inr (.inr (.inr (.inr (.inr (.inl hg.symm)))))
  have M0_4 : ∀ g, Value.ownBlock V0_4 = some g → w.heap.size ≤ g ∨ (g = G_0 ∨ some g = Value.ownBlock V0_0 ∨ some g = Value.ownBlock V0_1 ∨ some g = Value.ownBlock V0_2 ∨ some g = Value.ownBlock V0_3 ∨ some g = Value.ownBlock V0_4) := fun g hg => .inr (.inr (.inr (.inr (.inr (.inr hg.symm)))))
  refine calls_cw Try.func98 rfl Try.ntmps98 rfl ?_
  refine cw_seq ?_
  refine cw_region ?_
  refine ol_val (v := .pointer (some ⟨G_0, 0, none⟩)) (by exact xr_move rfl rfl) rfl rfl rfl ?_
  obtain ⟨t19, k20, h⟩ := bs h
  refine ol_op (by exact opv_call rfl cal47 (ac rfl an) (rickyardref05_Device_Fates.ok fu _ a0 G_0 V0_0 (O0_0.rd) V0_1 (O0_1.rd) V0_2 (O0_2.rd) V0_3 (O0_3.rd) V0_4 (O0_4.rd) b_0 _ k20)) rfl rfl rfl ?_
  rintro u21 w25 ⟨_, o22, rfl, q24⟩
  have a26 := OffRV.call R1_0 o22 rfl
  have o22 := Own.base o22 fB.size
  have b_0 := b_0.gr q24
  have O0_0 := O0_0.gr q24
  have O0_1 := O0_1.gr q24
  have O0_2 := O0_2.gr q24
  have O0_3 := O0_3.gr q24
  have O0_4 := O0_4.gr q24
  have R1_0 := R1_0.gr q24
  have fB := fB.gr q24
  refine ol_val (v := u21) (by exact xr_assign rfl rfl) rfl rfl rfl ?_
  refine ol_nil ?_
  refine cw_seq ?_
  refine cw_seq ?_
  refine cw_region ?_
  refine ol_val (v := .int .i64 0) (by exact xr_assign rfl rfl) rfl rfl rfl ?_
  refine ol_nil ?_
  obtain ⟨e28, l29, h30⟩ := bs h
  refine cw_mid (fun ρ' w' => ∃ v31 : Value, ∃ v35 : Value, ∃ v39 : Value, ∃ v43 : Value, ∃ v47 : Value, ∃ o32 : Own (kI .u64) 22 w' 0 v31 e28.1, ∃ o36 : Own (kI .u64) 22 w' 0 v35 e28.2.1, ∃ o40 : Own (kI .u64) 22 w' 0 v39 e28.2.2.1, ∃ o44 : Own kB 4 w' 0 v43 e28.2.2.2.1, ∃ o48 : Own (kI .i64) 3 w' 0 v47 e28.2.2.2.2.1, ∃ m34 : ∀ g, Value.ownBlock v31 = some g → w.heap.size ≤ g ∨ (g = G_0 ∨ some g = Value.ownBlock V0_0 ∨ some g = Value.ownBlock V0_1 ∨ some g = Value.ownBlock V0_2 ∨ some g = Value.ownBlock V0_3 ∨ some g = Value.ownBlock V0_4), ∃ m38 : ∀ g, Value.ownBlock v35 = some g → w.heap.size ≤ g ∨ (g = G_0 ∨ some g = Value.ownBlock V0_0 ∨ some g = Value.ownBlock V0_1 ∨ some g = Value.ownBlock V0_2 ∨ some g = Value.ownBlock V0_3 ∨ some g = Value.ownBlock V0_4), ∃ m42 : ∀ g, Value.ownBlock v39 = some g → w.heap.size ≤ g ∨ (g = G_0 ∨ some g = Value.ownBlock V0_0 ∨ some g = Value.ownBlock V0_1 ∨ some g = Value.ownBlock V0_2 ∨ some g = Value.ownBlock V0_3 ∨ some g = Value.ownBlock V0_4), ∃ m46 : ∀ g, Value.ownBlock v43 = some g → w.heap.size ≤ g ∨ (g = G_0 ∨ some g = Value.ownBlock V0_0 ∨ some g = Value.ownBlock V0_1 ∨ some g = Value.ownBlock V0_2 ∨ some g = Value.ownBlock V0_3 ∨ some g = Value.ownBlock V0_4), ∃ m50 : ∀ g, Value.ownBlock v47 = some g → w.heap.size ≤ g ∨ (g = G_0 ∨ some g = Value.ownBlock V0_0 ∨ some g = Value.ownBlock V0_1 ∨ some g = Value.ownBlock V0_2 ∨ some g = Value.ownBlock V0_3 ∨ some g = Value.ownBlock V0_4), OffV v31 v35 ∧ OffV v31 v39 ∧ OffV v35 v39 ∧ ρ' 0 = .pointer (some ⟨G_0, 0, none⟩) ∧ Blk w' G_0 65 [Seg.cell v31 o32.one, Seg.cell v35 o36.one, Seg.cell v39 o40.one, Seg.cell v43 o44.one, Seg.cell v47 o48.one, Seg.cell (.int .i64 e28.2.2.2.2.2.1), Seg.cell (.int .i64 e28.2.2.2.2.2.2.1), Seg.cell (.int .i64 e28.2.2.2.2.2.2.2)] ∧ Fr (fun j => j = G_0 ∨ some j = Value.ownBlock V0_0 ∨ some j = Value.ownBlock V0_1 ∨ some j = Value.ownBlock V0_2 ∨ some j = Value.ownBlock V0_3 ∨ some j = Value.ownBlock V0_4) w w') ?_ ?_
  · refine cw_block ?_
    refine cw_round (fun (s27 : Int × (List Int) × (List Int) × (List Int) × (List Bool) × (List Int) × Int × Int × Int) ρ' w' => ∃ v54 : Value, ∃ v58 : Value, ∃ v62 : Value, ∃ v66 : Value, ∃ v70 : Value, ∃ o22 : Own k_api_Fate 55 w' w.heap.size u21 t19, ∃ o55 : Own (kI .u64) 22 w' 0 v54 s27.2.1, ∃ o59 : Own (kI .u64) 22 w' 0 v58 s27.2.2.1, ∃ o63 : Own (kI .u64) 22 w' 0 v62 s27.2.2.2.1, ∃ o67 : Own kB 4 w' 0 v66 s27.2.2.2.2.1, ∃ o71 : Own (kI .i64) 3 w' 0 v70 s27.2.2.2.2.2.1, ∃ m57 : ∀ g, Value.ownBlock v54 = some g → w.heap.size ≤ g ∨ (g = G_0 ∨ some g = Value.ownBlock V0_0 ∨ some g = Value.ownBlock V0_1 ∨ some g = Value.ownBlock V0_2 ∨ some g = Value.ownBlock V0_3 ∨ some g = Value.ownBlock V0_4), ∃ m61 : ∀ g, Value.ownBlock v58 = some g → w.heap.size ≤ g ∨ (g = G_0 ∨ some g = Value.ownBlock V0_0 ∨ some g = Value.ownBlock V0_1 ∨ some g = Value.ownBlock V0_2 ∨ some g = Value.ownBlock V0_3 ∨ some g = Value.ownBlock V0_4), ∃ m65 : ∀ g, Value.ownBlock v62 = some g → w.heap.size ≤ g ∨ (g = G_0 ∨ some g = Value.ownBlock V0_0 ∨ some g = Value.ownBlock V0_1 ∨ some g = Value.ownBlock V0_2 ∨ some g = Value.ownBlock V0_3 ∨ some g = Value.ownBlock V0_4), ∃ m69 : ∀ g, Value.ownBlock v66 = some g → w.heap.size ≤ g ∨ (g = G_0 ∨ some g = Value.ownBlock V0_0 ∨ some g = Value.ownBlock V0_1 ∨ some g = Value.ownBlock V0_2 ∨ some g = Value.ownBlock V0_3 ∨ some g = Value.ownBlock V0_4), ∃ m73 : ∀ g, Value.ownBlock v70 = some g → w.heap.size ≤ g ∨ (g = G_0 ∨ some g = Value.ownBlock V0_0 ∨ some g = Value.ownBlock V0_1 ∨ some g = Value.ownBlock V0_2 ∨ some g = Value.ownBlock V0_3 ∨ some g = Value.ownBlock V0_4), ∃ R1_0 : Rd (kI .i64) w' V1_0 a1, OffV v54 v58 ∧ OffV v54 v62 ∧ OffV v58 v62 ∧ OffRV V1_0 a1 v54 ∧ OffRV V1_0 a1 v58 ∧ OffRV V1_0 a1 v62 ∧ OffRV V1_0 a1 v66 ∧ OffRV V1_0 a1 v70 ∧ ρ' 0 = .pointer (some ⟨G_0, 0, none⟩) ∧ ρ' 1 = V1_0 ∧ ρ' 4 = u21 ∧ ρ' 5 = .int .i64 s27.1 ∧ Blk w' G_0 65 [Seg.cell v54 o55.one, Seg.cell v58 o59.one, Seg.cell v62 o63.one, Seg.cell v66 o67.one, Seg.cell v70 o71.one, Seg.cell (.int .i64 s27.2.2.2.2.2.2.1), Seg.cell (.int .i64 s27.2.2.2.2.2.2.2.1), Seg.cell (.int .i64 s27.2.2.2.2.2.2.2.2)] ∧ Fr (fun j => j = G_0 ∨ some j = Value.ownBlock V0_0 ∨ some j = Value.ownBlock V0_1 ∨ some j = Value.ownBlock V0_2 ∨ some j = Value.ownBlock V0_3 ∨ some j = Value.ownBlock V0_4) w w') l29 ?_ ?_
    · skip
      exact ⟨V0_0, V0_1, V0_2, V0_3, V0_4, o22, O0_0, O0_1, O0_2, O0_3, O0_4, M0_0, M0_1, M0_2, M0_3, M0_4, R1_0, A_R0_0_R0_1, A_R0_0_R0_2, A_R0_1_R0_2, NR1_0_R0_0, NR1_0_R0_1, NR1_0_R0_2, NR1_0_R0_3, NR1_0_R0_4, rfl, rfl, rfl, rfl, b_0, fB⟩
    · rintro s27 x84 ρ82 w83 ⟨v54, v58, v62, v66, v70, o22, o55, o59, o63, o67, o71, m57, m61, m65, m69, m73, R1_0, a74, a75, a76, a77, a78, a79, a80, a81, e0, e1, e4, e5, b_0, fB⟩ h
      unfold rickyardref05_Device_Crash.s0 at h
      refine cw_seq ?_
      refine cw_seq ?_
      refine cw_region ?_
      refine ol_val (v := .int .i64 s27.1) (by exact xr_move rfl e5) rfl rfl rfl ?_
      refine ol_val (v := u21) (by exact xr_move rfl e4) rfl rfl rfl ?_
      refine ol_val (v := .int .i64 (List.length t19 : Int)) (by exact xr_lenR rfl Try.underlying52 rfl o22.rd) rfl rfl rfl ?_
      refine ol_val (v := .bool (decide (s27.1 < (List.length t19 : Int)))) (by exact xr_lss rfl rfl rfl) rfl rfl rfl ?_
      refine ol_nil ?_
      rcases is h with ⟨c85, h⟩ | ⟨c85, h⟩
      · refine cw_condT rfl c85 ?_
        refine cw_skip ?_
        refine cw_seq ?_
        refine cw_block ?_
        refine cw_seq ?_
        refine cw_region ?_
        refine ol_val (v := .int .i64 0) (by exact xr_assign rfl rfl) rfl rfl rfl ?_
        refine ol_nil ?_
        refine cw_seq ?_
        refine cw_seq ?_
        refine cw_region ?_
        refine ol_val (v := .int .i64 s27.1) (by exact xr_move rfl e5) rfl rfl rfl ?_
        refine ol_val (v := V1_0) (by exact xr_move rfl e1) rfl rfl rfl ?_
        refine ol_val (v := .int .i64 (List.length a1 : Int)) (by exact xr_lenR rfl Try.underlying25 rfl R1_0) rfl rfl rfl ?_
        refine ol_val (v := .bool (decide (s27.1 < (List.length a1 : Int)))) (by exact xr_lss rfl rfl rfl) rfl rfl rfl ?_
        refine ol_nil ?_
        obtain ⟨x86, j87, h88⟩ := bs h
        refine cw_mid (fun ρ' w' => ∃ o22 : Own k_api_Fate 55 w' w.heap.size u21 t19, ∃ o55 : Own (kI .u64) 22 w' 0 v54 s27.2.1, ∃ o59 : Own (kI .u64) 22 w' 0 v58 s27.2.2.1, ∃ o63 : Own (kI .u64) 22 w' 0 v62 s27.2.2.2.1, ∃ o67 : Own kB 4 w' 0 v66 s27.2.2.2.2.1, ∃ o71 : Own (kI .i64) 3 w' 0 v70 s27.2.2.2.2.2.1, ∃ m57 : ∀ g, Value.ownBlock v54 = some g → w.heap.size ≤ g ∨ (g = G_0 ∨ some g = Value.ownBlock V0_0 ∨ some g = Value.ownBlock V0_1 ∨ some g = Value.ownBlock V0_2 ∨ some g = Value.ownBlock V0_3 ∨ some g = Value.ownBlock V0_4), ∃ m61 : ∀ g, Value.ownBlock v58 = some g → w.heap.size ≤ g ∨ (g = G_0 ∨ some g = Value.ownBlock V0_0 ∨ some g = Value.ownBlock V0_1 ∨ some g = Value.ownBlock V0_2 ∨ some g = Value.ownBlock V0_3 ∨ some g = Value.ownBlock V0_4), ∃ m65 : ∀ g, Value.ownBlock v62 = some g → w.heap.size ≤ g ∨ (g = G_0 ∨ some g = Value.ownBlock V0_0 ∨ some g = Value.ownBlock V0_1 ∨ some g = Value.ownBlock V0_2 ∨ some g = Value.ownBlock V0_3 ∨ some g = Value.ownBlock V0_4), ∃ m69 : ∀ g, Value.ownBlock v66 = some g → w.heap.size ≤ g ∨ (g = G_0 ∨ some g = Value.ownBlock V0_0 ∨ some g = Value.ownBlock V0_1 ∨ some g = Value.ownBlock V0_2 ∨ some g = Value.ownBlock V0_3 ∨ some g = Value.ownBlock V0_4), ∃ m73 : ∀ g, Value.ownBlock v70 = some g → w.heap.size ≤ g ∨ (g = G_0 ∨ some g = Value.ownBlock V0_0 ∨ some g = Value.ownBlock V0_1 ∨ some g = Value.ownBlock V0_2 ∨ some g = Value.ownBlock V0_3 ∨ some g = Value.ownBlock V0_4), ∃ R1_0 : Rd (kI .i64) w' V1_0 a1, ρ' 0 = .pointer (some ⟨G_0, 0, none⟩) ∧ ρ' 1 = V1_0 ∧ ρ' 4 = u21 ∧ ρ' 5 = .int .i64 s27.1 ∧ ρ' 6 = .int .i64 x86 ∧ Blk w' G_0 65 [Seg.cell v54 o55.one, Seg.cell v58 o59.one, Seg.cell v62 o63.one, Seg.cell v66 o67.one, Seg.cell v70 o71.one, Seg.cell (.int .i64 s27.2.2.2.2.2.2.1), Seg.cell (.int .i64 s27.2.2.2.2.2.2.2.1), Seg.cell (.int .i64 s27.2.2.2.2.2.2.2.2)] ∧ Fr (fun j => j = G_0 ∨ some j = Value.ownBlock V0_0 ∨ some j = Value.ownBlock V0_1 ∨ some j = Value.ownBlock V0_2 ∨ some j = Value.ownBlock V0_3 ∨ some j = Value.ownBlock V0_4) w w') ?_ ?_
        · have h := j87
          rcases is h with ⟨c89, h⟩ | ⟨c89, h⟩
          · refine cw_condT rfl c89 ?_
            refine cw_region ?_
            refine ol_val (v := V1_0) (by exact xr_move rfl e1) rfl rfl rfl ?_
            refine ol_val (v := .int .i64 s27.1) (by exact xr_move rfl e5) rfl rfl rfl ?_
            obtain ⟨g90, h⟩ := gs h
            refine ol_val (v := .pointer (some ⟨(sb V1_0), so V1_0 + Int.toNat s27.1 * 1, none⟩)) (by exact xr_indexR (K := (kI .i64)) (v := V1_0) rfl Try.underlying25 sz3 rfl R1_0 rfl g90.1 g90.2) rfl rfl rfl ?_
            refine ol_val (v := .int .i64 (ix a1 s27.1)) (by exact xr_load1 (v := .int .i64 (ix a1 s27.1)) rfl ag3 rfl (R1_0.elem g90.1 g90.2)) rfl rfl rfl ?_
            refine ol_val (v := .int .i64 (ix a1 s27.1)) (by exact xr_assign rfl rfl) rfl rfl rfl ?_
            refine ol_nil ?_
            obtain rfl := Option.some.inj h
            refine thn_i ?_
            exact ⟨o22, o55, o59, o63, o67, o71, m57, m61, m65, m69, m73, R1_0, e0, e1, e4, e5, rfl, b_0, fB⟩
          · refine cw_condF rfl c89 ?_
            refine cw_skip ?_
            obtain rfl := Option.some.inj h
            refine thn_i ?_
            exact ⟨o22, o55, o59, o63, o67, o71, m57, m61, m65, m69, m73, R1_0, e0, e1, e4, e5, rfl, b_0, fB⟩
        · rintro ρ91 w92 ⟨o22, o55, o59, o63, o67, o71, m57, m61, m65, m69, m73, R1_0, e0, e1, e4, e5, e6, b_0, fB⟩
          have h := h88
          obtain ⟨g93, h⟩ := gs h
          obtain ⟨g94, h⟩ := gs h
          obtain ⟨t95, k96, h⟩ := bs h
          refine cw_drawL 12 [fun vz wz => vz = (.pointer (some ⟨G_0, 0, none⟩) : Value), fun vz wz => vz = (u21 : Value), fun vz wz => vz = (.int .i64 s27.1 : Value), fun vz wz => vz = (.pointer (some ⟨(sb u21), so u21 + Int.toNat s27.1 * 5, none⟩) : Value), fun vz wz => vz = (.pointer (some ⟨(sb u21), so u21 + Int.toNat s27.1 * 5 + 0, none⟩) : Value), fun vz wz => vz = (.int .i64 ((ix t19 s27.1).At) : Value), fun vz wz => vz = (u21 : Value), fun vz wz => vz = (.int .i64 s27.1 : Value), fun vz wz => vz = (.pointer (some ⟨(sb u21), so u21 + Int.toNat s27.1 * 5, none⟩) : Value), fun vz wz => vz = (aggV [Seg.cell (.int .i64 ((ix t19 s27.1).At)), Seg.cell (.int .u64 ((ix t19 s27.1).Lasts)), Seg.cell (.bool ((ix t19 s27.1).Flushed)), Seg.cell (.int .u64 ((ix t19 s27.1).Sent)), Seg.cell (.int .u64 ((ix t19 s27.1).Stored))] : Value), fun vz wz => vz = (.int .i64 x86 : Value), fun vz wz => vz = (.int .u64 t95 : Value)] mo rfl ⟨fun _ _ _ h _ => h, fun _ _ _ h _ => h, fun _ _ _ h _ => h, fun _ _ _ h _ => h, fun _ _ _ h _ => h, fun _ _ _ h _ => h, fun _ _ _ h _ => h, fun _ _ _ h _ => h, fun _ _ _ h _ => h, fun _ _ _ h _ => h, fun _ _ _ h _ => h, fun _ _ _ h _ => h, trivial⟩ ?_ ?_
          · refine ⟨?_, ?_, ?_, ?_, ?_, ?_, ?_, ?_, ?_, ?_, ?_, ?_, trivial⟩
            · intro ρz wz hz hk hd
              exact sk_val (v := .pointer (some ⟨G_0, 0, none⟩)) (by exact xr_move rfl ((hk 0 rfl).trans e0)) rfl rfl
            · intro ρz wz hz hk hd
              exact sk_val (v := u21) (by exact xr_move rfl ((hk 4 rfl).trans e4)) rfl rfl
            · intro ρz wz hz hk hd
              exact sk_val (v := .int .i64 s27.1) (by exact xr_move rfl ((hk 5 rfl).trans e5)) rfl rfl
            · intro ρz wz hz hk hd
              have d25 := hd 1 rfl 25 rfl
              have d26 := hd 2 rfl 26 rfl
              exact sk_val (by exact xr_indexR (K := k_api_Fate) (v := u21) rfl Try.underlying52 sz55 d25 (o22.gr hz).rd d26 g93.1 g93.2) rfl rfl
            · intro ρz wz hz hk hd
              have d27 := hd 3 rfl 27 rfl
              exact sk_val (by exact xr_fieldAddr (p := so u21 + Int.toNat s27.1 * 5) (q := 0) rfl fl55_0 d27) rfl rfl
            · intro ρz wz hz hk hd
              have d28 := hd 4 rfl 28 rfl
              exact sk_val (v := .int .i64 ((ix t19 s27.1).At)) (by exact xr_load1 (v := .int .i64 ((ix t19 s27.1).At)) rfl ag3 d28 (At.segs (ss := segs_api_Fate (ix t19 s27.1)) ((o22.gr hz).rd.elem g93.1 g93.2) 0 1 rfl)) rfl rfl
            · intro ρz wz hz hk hd
              exact sk_val (v := u21) (by exact xr_move rfl ((hk 4 rfl).trans e4)) rfl rfl
            · intro ρz wz hz hk hd
              exact sk_val (v := .int .i64 s27.1) (by exact xr_move rfl ((hk 5 rfl).trans e5)) rfl rfl
            · intro ρz wz hz hk hd
              have d30 := hd 6 rfl 30 rfl
              have d31 := hd 7 rfl 31 rfl
              exact sk_val (by exact xr_indexR (K := k_api_Fate) (v := u21) rfl Try.underlying52 sz55 d30 (o22.gr hz).rd d31 g94.1 g94.2) rfl rfl
            · intro ρz wz hz hk hd
              have d32 := hd 8 rfl 32 rfl
              exact sk_val (by exact xr_loadS (ss := [Seg.cell (.int .i64 ((ix t19 s27.1).At)), Seg.cell (.int .u64 ((ix t19 s27.1).Lasts)), Seg.cell (.bool ((ix t19 s27.1).Flushed)), Seg.cell (.int .u64 ((ix t19 s27.1).Sent)), Seg.cell (.int .u64 ((ix t19 s27.1).Stored))]) rfl ag55 sz55 rfl d32 ((o22.gr hz).rd.elem g94.1 g94.2)) rfl rfl
            · intro ρz wz hz hk hd
              exact sk_val (v := .int .i64 x86) (by exact xr_move rfl ((hk 6 rfl).trans e6)) rfl rfl
            · intro ρz wz hz hk hd
              have d33 := hd 9 rfl 33 rfl
              have d34 := hd 10 rfl 34 rfl
              refine sk_op (by exact opv_call rfl cal42 (ac d33 (ac d34 an)) (rickyardref05_Value.ok fu _ (ix t19 s27.1) x86 _ k96)) rfl ?_
              rintro _ wy ⟨rfl, q97⟩
              exact ⟨rfl, q97⟩
          · intro ρ98 w99 q100 hk hd
            have e0 := (hk 0 rfl).trans e0
            have e1 := (hk 1 rfl).trans e1
            have e4 := (hk 4 rfl).trans e4
            have e5 := (hk 5 rfl).trans e5
            have e24 := hd 0 rfl 24 rfl
            have e29 := hd 5 rfl 29 rfl
            have e35 := hd 11 rfl 35 rfl
            have b_0 := b_0.gr q100
            have o22 := o22.gr q100
            have o55 := o55.gr q100
            have o59 := o59.gr q100
            have o63 := o63.gr q100
            have o67 := o67.gr q100
            have o71 := o71.gr q100
            have R1_0 := R1_0.gr q100
            have fB := fB.gr q100
            obtain ⟨t101, k102, h⟩ := bs h
            have f127 := (vo_or (vo_eq (off_ty b_0 o22 (by decide))) (vo_or (vo_own (OffV.ty o22 o55 (by decide))) (vo_or (vo_own (OffV.ty o22 o59 (by decide))) (vo_or (vo_own (OffV.ty o22 o63 (by decide))) (vo_or (vo_own (OffV.ty o22 o67 (by decide))) (vo_own (OffV.ty o22 o71 (by decide))))))))
            have f128 := (ro_or (ro_eq NR1_0_P0) (ro_or (ro_own a77) (ro_or (ro_own a78) (ro_or (ro_own a79) (ro_or (ro_own a80) (ro_own a81))))))
            have c129 : ∀ k, (k = G_0 ∨ some k = Value.ownBlock v54 ∨ some k = Value.ownBlock v58 ∨ some k = Value.ownBlock v62 ∨ some k = Value.ownBlock v66 ∨ some k = Value.ownBlock v70) → (w.heap.size ≤ k ∨ (k = G_0 ∨ some k = Value.ownBlock V0_0 ∨ some k = Value.ownBlock V0_1 ∨ some k = Value.ownBlock V0_2 ∨ some k = Value.ownBlock V0_3 ∨ some k = Value.ownBlock V0_4)) := (cv_or (cv_eq (.inr (.inl rfl))) (cv_or (cv_own m57) (cv_or (cv_own m61) (cv_or (cv_own m65) (cv_or (cv_own m69) (cv_own m73))))))
            refine ol_op (by exact opv_call rfl cal126 (ac e24 (ac e29 (ac e35 an))) (rickyardref05_Device_last.ok fu _ (⟨s27.2.1, s27.2.2.1, s27.2.2.2.1, s27.2.2.2.2.1, s27.2.2.2.2.2.1, s27.2.2.2.2.2.2.1, s27.2.2.2.2.2.2.2.1, s27.2.2.2.2.2.2.2.2⟩ : S_rickyardref05_Device) G_0 v54 (Own.base o55 (Nat.zero_le _)) v58 (Own.base o59 (Nat.zero_le _)) v62 (Own.base o63 (Nat.zero_le _)) v66 (Own.base o67 (Nat.zero_le _)) v70 (Own.base o71 (Nat.zero_le _)) b_0 ((ix t19 s27.1).At) t95 a74 a75 a76 _ k102)) rfl rfl rfl ?_
            rintro _ w130 ⟨u104, u108, u112, u116, u120, o105, m106, o109, m110, o113, m114, o117, m118, o121, m122, a124, a125, a126, rfl, b_0, q103⟩
            have a131 := orv_new R1_0 rfl f128 m106
            have a132 := orv_new R1_0 rfl f128 m110
            have a133 := orv_new R1_0 rfl f128 m114
            have a134 := orv_new R1_0 rfl f128 m118
            have a135 := orv_new R1_0 rfl f128 m122
            have m106 : ∀ g, Value.ownBlock u104 = some g → w.heap.size ≤ g ∨ (g = G_0 ∨ some g = Value.ownBlock V0_0 ∨ some g = Value.ownBlock V0_1 ∨ some g = Value.ownBlock V0_2 ∨ some g = Value.ownBlock V0_3 ∨ some g = Value.ownBlock V0_4) := fun g hg => (m106 g hg).elim (fun x => .inl (Nat.le_trans fB.size x)) (c129 g)
            have m110 : ∀ g, Value.ownBlock u108 = some g → w.heap.size ≤ g ∨ (g = G_0 ∨ some g = Value.ownBlock V0_0 ∨ some g = Value.ownBlock V0_1 ∨ some g = Value.ownBlock V0_2 ∨ some g = Value.ownBlock V0_3 ∨ some g = Value.ownBlock V0_4) := fun g hg => (m110 g hg).elim (fun x => .inl (Nat.le_trans fB.size x)) (c129 g)
            have m114 : ∀ g, Value.ownBlock u112 = some g → w.heap.size ≤ g ∨ (g = G_0 ∨ some g = Value.ownBlock V0_0 ∨ some g = Value.ownBlock V0_1 ∨ some g = Value.ownBlock V0_2 ∨ some g = Value.ownBlock V0_3 ∨ some g = Value.ownBlock V0_4) := fun g hg => (m114 g hg).elim (fun x => .inl (Nat.le_trans fB.size x)) (c129 g)
            have m118 : ∀ g, Value.ownBlock u116 = some g → w.heap.size ≤ g ∨ (g = G_0 ∨ some g = Value.ownBlock V0_0 ∨ some g = Value.ownBlock V0_1 ∨ some g = Value.ownBlock V0_2 ∨ some g = Value.ownBlock V0_3 ∨ some g = Value.ownBlock V0_4) := fun g hg => (m118 g hg).elim (fun x => .inl (Nat.le_trans fB.size x)) (c129 g)
            have m122 : ∀ g, Value.ownBlock u120 = some g → w.heap.size ≤ g ∨ (g = G_0 ∨ some g = Value.ownBlock V0_0 ∨ some g = Value.ownBlock V0_1 ∨ some g = Value.ownBlock V0_2 ∨ some g = Value.ownBlock V0_3 ∨ some g = Value.ownBlock V0_4) := fun g hg => (m122 g hg).elim (fun x => .inl (Nat.le_trans fB.size x)) (c129 g)
            have o22 := o22.fr q103 f127
            have R1_0 := R1_0.fr q103 f128
            have fB := fB.call q103 c129
            refine ol_nil ?_
            refine blk_i ?_
            refine cw_region ?_
            refine ol_val (v := .int .i64 s27.1) (by exact xr_move rfl e5) rfl rfl rfl ?_
            refine ol_val (v := .int .i64 (IntKind.i64.wrap (s27.1 + 1))) (by exact xr_add rfl rfl rfl) rfl rfl rfl ?_
            refine ol_val (v := .int .i64 (IntKind.i64.wrap (s27.1 + 1))) (by exact xr_assign rfl rfl) rfl rfl rfl ?_
            refine ol_nil ?_
            obtain rfl := Option.some.inj h
            refine lp_in ?_
            exact ⟨u104, u108, u112, u116, u120, o22, o105, o109, o113, o117, o121, m106, m110, m114, m118, m122, R1_0, a124, a125, a126, a131, a132, a133, a134, a135, e0, e1, e4, rfl, b_0, fB⟩
      · refine cw_condF rfl c85 ?_
        refine cw_exit ?_
        repeat (first | with_reducible refine thn_e ?_ | with_reducible refine blk_e rfl ?_)
        obtain rfl := Option.some.inj h
        refine lp_exit ?_
        rintro rfl
        refine thn_x ?_
        exact ⟨v54, v58, v62, v66, v70, o55, o59, o63, o67, o71, m57, m61, m65, m69, m73, a74, a75, a76, e0, b_0, fB⟩
  · rintro ρ136 w137 ⟨v31, v35, v39, v43, v47, o32, o36, o40, o44, o48, m34, m38, m42, m46, m50, a51, a52, a53, e0, b_0, fB⟩
    have h := h30
    refine cw_seq ?_
    refine cw_seq ?_
    refine cw_region ?_
    refine ol_val (v := .int .i64 0) (by exact xr_assign rfl rfl) rfl rfl rfl ?_
    refine ol_nil ?_
    obtain ⟨e139, l140, h141⟩ := bs h
    refine cw_mid (fun ρ' w' => ∃ o32 : Own (kI .u64) 22 w' 0 v31 e28.1, ∃ o36 : Own (kI .u64) 22 w' 0 v35 e139, ∃ o40 : Own (kI .u64) 22 w' 0 v39 e28.2.2.1, ∃ o44 : Own kB 4 w' 0 v43 e28.2.2.2.1, ∃ o48 : Own (kI .i64) 3 w' 0 v47 e28.2.2.2.2.1, ∃ m34 : ∀ g, Value.ownBlock v31 = some g → w.heap.size ≤ g ∨ (g = G_0 ∨ some g = Value.ownBlock V0_0 ∨ some g = Value.ownBlock V0_1 ∨ some g = Value.ownBlock V0_2 ∨ some g = Value.ownBlock V0_3 ∨ some g = Value.ownBlock V0_4), ∃ m38 : ∀ g, Value.ownBlock v35 = some g → w.heap.size ≤ g ∨ (g = G_0 ∨ some g = Value.ownBlock V0_0 ∨ some g = Value.ownBlock V0_1 ∨ some g = Value.ownBlock V0_2 ∨ some g = Value.ownBlock V0_3 ∨ some g = Value.ownBlock V0_4), ∃ m42 : ∀ g, Value.ownBlock v39 = some g → w.heap.size ≤ g ∨ (g = G_0 ∨ some g = Value.ownBlock V0_0 ∨ some g = Value.ownBlock V0_1 ∨ some g = Value.ownBlock V0_2 ∨ some g = Value.ownBlock V0_3 ∨ some g = Value.ownBlock V0_4), ∃ m46 : ∀ g, Value.ownBlock v43 = some g → w.heap.size ≤ g ∨ (g = G_0 ∨ some g = Value.ownBlock V0_0 ∨ some g = Value.ownBlock V0_1 ∨ some g = Value.ownBlock V0_2 ∨ some g = Value.ownBlock V0_3 ∨ some g = Value.ownBlock V0_4), ∃ m50 : ∀ g, Value.ownBlock v47 = some g → w.heap.size ≤ g ∨ (g = G_0 ∨ some g = Value.ownBlock V0_0 ∨ some g = Value.ownBlock V0_1 ∨ some g = Value.ownBlock V0_2 ∨ some g = Value.ownBlock V0_3 ∨ some g = Value.ownBlock V0_4), ρ' 0 = .pointer (some ⟨G_0, 0, none⟩) ∧ Blk w' G_0 65 [Seg.cell v31 o32.one, Seg.cell v35 o36.one, Seg.cell v39 o40.one, Seg.cell v43 o44.one, Seg.cell v47 o48.one, Seg.cell (.int .i64 e28.2.2.2.2.2.1), Seg.cell (.int .i64 e28.2.2.2.2.2.2.1), Seg.cell (.int .i64 e28.2.2.2.2.2.2.2)] ∧ Fr (fun j => j = G_0 ∨ some j = Value.ownBlock V0_0 ∨ some j = Value.ownBlock V0_1 ∨ some j = Value.ownBlock V0_2 ∨ some j = Value.ownBlock V0_3 ∨ some j = Value.ownBlock V0_4) w w') ?_ ?_
    · refine cw_block ?_
      refine cw_round (fun (s138 : Int × (List Int)) ρ' w' => ∃ o32 : Own (kI .u64) 22 w' 0 v31 e28.1, ∃ o36 : Own (kI .u64) 22 w' 0 v35 s138.2, ∃ o40 : Own (kI .u64) 22 w' 0 v39 e28.2.2.1, ∃ o44 : Own kB 4 w' 0 v43 e28.2.2.2.1, ∃ o48 : Own (kI .i64) 3 w' 0 v47 e28.2.2.2.2.1, ∃ m34 : ∀ g, Value.ownBlock v31 = some g → w.heap.size ≤ g ∨ (g = G_0 ∨ some g = Value.ownBlock V0_0 ∨ some g = Value.ownBlock V0_1 ∨ some g = Value.ownBlock V0_2 ∨ some g = Value.ownBlock V0_3 ∨ some g = Value.ownBlock V0_4), ∃ m38 : ∀ g, Value.ownBlock v35 = some g → w.heap.size ≤ g ∨ (g = G_0 ∨ some g = Value.ownBlock V0_0 ∨ some g = Value.ownBlock V0_1 ∨ some g = Value.ownBlock V0_2 ∨ some g = Value.ownBlock V0_3 ∨ some g = Value.ownBlock V0_4), ∃ m42 : ∀ g, Value.ownBlock v39 = some g → w.heap.size ≤ g ∨ (g = G_0 ∨ some g = Value.ownBlock V0_0 ∨ some g = Value.ownBlock V0_1 ∨ some g = Value.ownBlock V0_2 ∨ some g = Value.ownBlock V0_3 ∨ some g = Value.ownBlock V0_4), ∃ m46 : ∀ g, Value.ownBlock v43 = some g → w.heap.size ≤ g ∨ (g = G_0 ∨ some g = Value.ownBlock V0_0 ∨ some g = Value.ownBlock V0_1 ∨ some g = Value.ownBlock V0_2 ∨ some g = Value.ownBlock V0_3 ∨ some g = Value.ownBlock V0_4), ∃ m50 : ∀ g, Value.ownBlock v47 = some g → w.heap.size ≤ g ∨ (g = G_0 ∨ some g = Value.ownBlock V0_0 ∨ some g = Value.ownBlock V0_1 ∨ some g = Value.ownBlock V0_2 ∨ some g = Value.ownBlock V0_3 ∨ some g = Value.ownBlock V0_4), ρ' 0 = .pointer (some ⟨G_0, 0, none⟩) ∧ ρ' 7 = .int .i64 s138.1 ∧ Blk w' G_0 65 [Seg.cell v31 o32.one, Seg.cell v35 o36.one, Seg.cell v39 o40.one, Seg.cell v43 o44.one, Seg.cell v47 o48.one, Seg.cell (.int .i64 e28.2.2.2.2.2.1), Seg.cell (.int .i64 e28.2.2.2.2.2.2.1), Seg.cell (.int .i64 e28.2.2.2.2.2.2.2)] ∧ Fr (fun j => j = G_0 ∨ some j = Value.ownBlock V0_0 ∨ some j = Value.ownBlock V0_1 ∨ some j = Value.ownBlock V0_2 ∨ some j = Value.ownBlock V0_3 ∨ some j = Value.ownBlock V0_4) w w') l140 ?_ ?_
      · skip
        exact ⟨o32, o36, o40, o44, o48, m34, m38, m42, m46, m50, e0, rfl, b_0, fB⟩
      · rintro s138 x144 ρ142 w143 ⟨o32, o36, o40, o44, o48, m34, m38, m42, m46, m50, e0, e7, b_0, fB⟩ h
        unfold rickyardref05_Device_Crash.s1 at h
        refine cw_seq ?_
        refine cw_seq ?_
        refine cw_region ?_
        refine ol_val (v := .int .i64 s138.1) (by exact xr_move rfl e7) rfl rfl rfl ?_
        refine ol_val (v := .pointer (some ⟨G_0, 0, none⟩)) (by exact xr_move rfl e0) rfl rfl rfl ?_
        refine ol_val (v := .pointer (some ⟨G_0, 0, none⟩)) (by exact xr_nilCheck rfl rfl) rfl rfl rfl ?_
        refine ol_val (v := .pointer (some ⟨G_0, 0, none⟩)) (by exact xr_fieldAddr (p := 0) (q := 0) rfl fl65_0 rfl) rfl rfl rfl ?_
        refine ol_val (v := v31) (by exact xr_load1 (v := v31) rfl ag46 rfl (b_0.seg 0 rfl rfl)) rfl rfl rfl ?_
        refine ol_val (v := .int .i64 (List.length e28.1 : Int)) (by exact xr_lenR rfl Try.underlying46 rfl o32.rd) rfl rfl rfl ?_
        refine ol_val (v := .bool (decide (s138.1 < (List.length e28.1 : Int)))) (by exact xr_lss rfl rfl rfl) rfl rfl rfl ?_
        refine ol_nil ?_
        rcases is h with ⟨c145, h⟩ | ⟨c145, h⟩
        · refine cw_condT rfl c145 ?_
          refine cw_skip ?_
          refine cw_seq ?_
          refine cw_block ?_
          obtain ⟨g146, h⟩ := gs h
          refine cw_drawL 12 [fun vz wz => vz = (.pointer (some ⟨G_0, 0, none⟩) : Value), fun vz wz => vz = (.pointer (some ⟨G_0, 0, none⟩) : Value), fun vz wz => vz = (.pointer (some ⟨G_0, 1, none⟩) : Value), fun vz wz => vz = (v35 : Value), fun vz wz => vz = (.int .i64 s138.1 : Value), fun vz wz => vz = (.pointer (some ⟨G_0, 0, none⟩) : Value), fun vz wz => vz = (.pointer (some ⟨G_0, 0, none⟩) : Value), fun vz wz => vz = (.pointer (some ⟨G_0, 0, none⟩) : Value), fun vz wz => vz = (v31 : Value), fun vz wz => vz = (.int .i64 s138.1 : Value), fun vz wz => vz = (.pointer (some ⟨(sb v31), so v31 + Int.toNat s138.1 * 1, none⟩) : Value), fun vz wz => vz = (.int .u64 (ix e28.1 s138.1) : Value)] mo rfl ⟨fun _ _ _ h _ => h, fun _ _ _ h _ => h, fun _ _ _ h _ => h, fun _ _ _ h _ => h, fun _ _ _ h _ => h, fun _ _ _ h _ => h, fun _ _ _ h _ => h, fun _ _ _ h _ => h, fun _ _ _ h _ => h, fun _ _ _ h _ => h, fun _ _ _ h _ => h, fun _ _ _ h _ => h, trivial⟩ ?_ ?_
          · refine ⟨?_, ?_, ?_, ?_, ?_, ?_, ?_, ?_, ?_, ?_, ?_, ?_, trivial⟩
            · intro ρz wz hz hk hd
              exact sk_val (v := .pointer (some ⟨G_0, 0, none⟩)) (by exact xr_move rfl ((hk 0 rfl).trans e0)) rfl rfl
            · intro ρz wz hz hk hd
              have d46 := hd 0 rfl 46 rfl
              exact sk_val (v := .pointer (some ⟨G_0, 0, none⟩)) (by exact xr_nilCheck rfl d46) rfl rfl
            · intro ρz wz hz hk hd
              have d47 := hd 1 rfl 47 rfl
              exact sk_val (v := .pointer (some ⟨G_0, 1, none⟩)) (by exact xr_fieldAddr (p := 0) (q := 1) rfl fl65_1 d47) rfl rfl
            · intro ρz wz hz hk hd
              have d48 := hd 2 rfl 48 rfl
              exact sk_val (v := v35) (by exact xr_load1 (v := v35) rfl ag46 d48 ((b_0.gr hz).seg 1 rfl rfl)) rfl rfl
            · intro ρz wz hz hk hd
              exact sk_val (v := .int .i64 s138.1) (by exact xr_move rfl ((hk 7 rfl).trans e7)) rfl rfl
            · intro ρz wz hz hk hd
              exact sk_val (v := .pointer (some ⟨G_0, 0, none⟩)) (by exact xr_move rfl ((hk 0 rfl).trans e0)) rfl rfl
            · intro ρz wz hz hk hd
              have d51 := hd 5 rfl 51 rfl
              exact sk_val (v := .pointer (some ⟨G_0, 0, none⟩)) (by exact xr_nilCheck rfl d51) rfl rfl
            · intro ρz wz hz hk hd
              have d52 := hd 6 rfl 52 rfl
              exact sk_val (v := .pointer (some ⟨G_0, 0, none⟩)) (by exact xr_fieldAddr (p := 0) (q := 0) rfl fl65_0 d52) rfl rfl
            · intro ρz wz hz hk hd
              have d53 := hd 7 rfl 53 rfl
              exact sk_val (v := v31) (by exact xr_load1 (v := v31) rfl ag46 d53 ((b_0.gr hz).seg 0 rfl rfl)) rfl rfl
            · intro ρz wz hz hk hd
              exact sk_val (v := .int .i64 s138.1) (by exact xr_move rfl ((hk 7 rfl).trans e7)) rfl rfl
            · intro ρz wz hz hk hd
              have d54 := hd 8 rfl 54 rfl
              have d55 := hd 9 rfl 55 rfl
              exact sk_val (by exact xr_indexR (K := (kI .u64)) (v := v31) rfl Try.underlying46 sz22 d54 (o32.gr hz).rd d55 g146.1 g146.2) rfl rfl
            · intro ρz wz hz hk hd
              have d56 := hd 10 rfl 56 rfl
              exact sk_val (v := .int .u64 (ix e28.1 s138.1)) (by exact xr_load1 (v := .int .u64 (ix e28.1 s138.1)) rfl ag22 d56 ((o32.gr hz).rd.elem g146.1 g146.2)) rfl rfl
          · intro ρ147 w148 q149 hk hd
            have e0 := (hk 0 rfl).trans e0
            have e7 := (hk 7 rfl).trans e7
            have e49 := hd 3 rfl 49 rfl
            have e50 := hd 4 rfl 50 rfl
            have e57 := hd 11 rfl 57 rfl
            have b_0 := b_0.gr q149
            have o32 := o32.gr q149
            have o36 := o36.gr q149
            have o40 := o40.gr q149
            have o44 := o44.gr q149
            have o48 := o48.gr q149
            have fB := fB.gr q149
            obtain ⟨g150, h⟩ := gs h
            refine ol_val (v := .pointer (some ⟨(sb v35), so v35 + Int.toNat s138.1 * 1, none⟩)) (by exact xr_indexR (K := (kI .u64)) (v := v35) rfl Try.underlying46 sz22 e49 o36.rd e50 g150.1 g150.2) rfl rfl rfl ?_
            have f152 := off_ty b_0 o36 (by decide)
            have f153 := a51
            have f154 := a53.symm
            have f155 := OffV.ty o44 o36 (by decide)
            have f156 := OffV.ty o48 o36 (by decide)
            refine ol_op0 (by exact opv_storeRow (z := (ix e28.1 s138.1)) (xs := cellsOf [Seg.cell (.int .u64 (ix e28.1 s138.1))]) rfl sz22 rfl e57 rfl (len_cellsOf _) (one_cellsOf _) o36 g150.1 g150.2 (Spl.whole ((Kd.len _ _).trans (Kd.len _ _).symm)) rfl) rfl rfl ?_
            rintro _ w158 ⟨o36, q151⟩
            have b_0 := b_0.wrO q151 f152
            have o32 := o32.wrV q151 f153
            have o40 := o40.wrV q151 f154
            have o44 := o44.wrV q151 f155
            have o48 := o48.wrV q151 f156
            have fB := fB.wrM q151 m38
            refine ol_nil ?_
            refine blk_i ?_
            refine cw_region ?_
            refine ol_val (v := .int .i64 s138.1) (by exact xr_move rfl e7) rfl rfl rfl ?_
            refine ol_val (v := .int .i64 (IntKind.i64.wrap (s138.1 + 1))) (by exact xr_add rfl rfl rfl) rfl rfl rfl ?_
            refine ol_val (v := .int .i64 (IntKind.i64.wrap (s138.1 + 1))) (by exact xr_assign rfl rfl) rfl rfl rfl ?_
            refine ol_nil ?_
            obtain rfl := Option.some.inj h
            refine lp_in ?_
            exact ⟨o32, o36, o40, o44, o48, m34, m38, m42, m46, m50, e0, rfl, b_0, fB⟩
        · refine cw_condF rfl c145 ?_
          refine cw_exit ?_
          repeat (first | with_reducible refine thn_e ?_ | with_reducible refine blk_e rfl ?_)
          obtain rfl := Option.some.inj h
          refine lp_exit ?_
          rintro rfl
          refine thn_x ?_
          exact ⟨o32, o36, o40, o44, o48, m34, m38, m42, m46, m50, e0, b_0, fB⟩
    · rintro ρ159 w160 ⟨o32, o36, o40, o44, o48, m34, m38, m42, m46, m50, e0, b_0, fB⟩
      have h := h141
      refine cw_seq ?_
      refine cw_region ?_
      refine ol_val (v := .pointer (some ⟨G_0, 0, none⟩)) (by exact xr_move rfl e0) rfl rfl rfl ?_
      refine ol_val (v := .pointer (some ⟨G_0, 0, none⟩)) (by exact xr_nilCheck rfl rfl) rfl rfl rfl ?_
      refine ol_val (v := .pointer (some ⟨G_0, 6, none⟩)) (by exact xr_fieldAddr (p := 0) (q := 6) rfl fl65_6 rfl) rfl rfl rfl ?_
      have f162 := off_ty b_0 o32 (by decide)
      have f163 := off_ty b_0 o36 (by decide)
      have f164 := off_ty b_0 o40 (by decide)
      have f165 := off_ty b_0 o44 (by decide)
      have f166 := off_ty b_0 o48 (by decide)
      refine ol_op0 (by exact opv_store (ss' := [Seg.cell v31 o32.one, Seg.cell v35 o36.one, Seg.cell v39 o40.one, Seg.cell v43 o44.one, Seg.cell v47 o48.one, Seg.cell (.int .i64 e28.2.2.2.2.2.1), Seg.cell (.int .i64 (-1)), Seg.cell (.int .i64 e28.2.2.2.2.2.2.2)]) (xs := cellsOf [Seg.cell (.int .i64 (-1))]) rfl sz3 rfl rfl rfl (len_cellsOf _) (one_cellsOf _) b_0 (Spl.segs _ 6 1 [Seg.cell (.int .i64 (-1))] rfl rfl)) rfl rfl ?_
      rintro _ w167 ⟨b_0, q161⟩
      have o32 := o32.wr q161 f162
      have o36 := o36.wr q161 f163
      have o40 := o40.wr q161 f164
      have o44 := o44.wr q161 f165
      have o48 := o48.wr q161 f166
      have fB := fB.wrS q161 (.inl rfl)
      refine ol_nil ?_
      refine cw_seq ?_
      refine cw_region ?_
      refine ol_val (v := .pointer (some ⟨G_0, 0, none⟩)) (by exact xr_move rfl e0) rfl rfl rfl ?_
      refine ol_val (v := .pointer (some ⟨G_0, 0, none⟩)) (by exact xr_nilCheck rfl rfl) rfl rfl rfl ?_
      refine ol_val (v := .pointer (some ⟨G_0, 4, none⟩)) (by exact xr_fieldAddr (p := 0) (q := 4) rfl fl65_4 rfl) rfl rfl rfl ?_
      have f169 := off_ty b_0 o32 (by decide)
      have f170 := off_ty b_0 o36 (by decide)
      have f171 := off_ty b_0 o40 (by decide)
      have f172 := off_ty b_0 o44 (by decide)
      refine ol_op0 (by exact opv_store (ss' := [Seg.cell v31 o32.one, Seg.cell v35 o36.one, Seg.cell v39 o40.one, Seg.cell v43 o44.one, Seg.cell (.slice none 0 0) (by rfl), Seg.cell (.int .i64 e28.2.2.2.2.2.1), Seg.cell (.int .i64 (-1)), Seg.cell (.int .i64 e28.2.2.2.2.2.2.2)]) (xs := cellsOf [Seg.cell (.slice none 0 0) (by rfl)]) rfl sz25 rfl rfl (cells_one rfl) (len_cellsOf _) (one_cellsOf _) b_0 (Spl.segs _ 4 1 [Seg.cell (.slice none 0 0) (by rfl)] rfl rfl)) rfl rfl ?_
      rintro _ w173 ⟨b_0, q168⟩
      have o32 := o32.wr q168 f169
      have o36 := o36.wr q168 f170
      have o40 := o40.wr q168 f171
      have o44 := o44.wr q168 f172
      have fB := fB.wrS q168 (.inl rfl)
      refine ol_nil ?_
      refine cw_region ?_
      refine ol_val (v := .pointer (some ⟨G_0, 0, none⟩)) (by exact xr_move rfl e0) rfl rfl rfl ?_
      refine ol_val (v := .pointer (some ⟨G_0, 0, none⟩)) (by exact xr_nilCheck rfl rfl) rfl rfl rfl ?_
      refine ol_val (v := .pointer (some ⟨G_0, 5, none⟩)) (by exact xr_fieldAddr (p := 0) (q := 5) rfl fl65_5 rfl) rfl rfl rfl ?_
      have f175 := off_ty b_0 o32 (by decide)
      have f176 := off_ty b_0 o36 (by decide)
      have f177 := off_ty b_0 o40 (by decide)
      have f178 := off_ty b_0 o44 (by decide)
      refine ol_op0 (by exact opv_store (ss' := [Seg.cell v31 o32.one, Seg.cell v35 o36.one, Seg.cell v39 o40.one, Seg.cell v43 o44.one, Seg.cell (.slice none 0 0) (by rfl), Seg.cell (.int .i64 0), Seg.cell (.int .i64 (-1)), Seg.cell (.int .i64 e28.2.2.2.2.2.2.2)]) (xs := cellsOf [Seg.cell (.int .i64 0)]) rfl sz3 rfl rfl rfl (len_cellsOf _) (one_cellsOf _) b_0 (Spl.segs _ 5 1 [Seg.cell (.int .i64 0)] rfl rfl)) rfl rfl ?_
      rintro _ w179 ⟨b_0, q174⟩
      have o32 := o32.wr q174 f175
      have o36 := o36.wr q174 f176
      have o40 := o40.wr q174 f177
      have o44 := o44.wr q174 f178
      have fB := fB.wrS q174 (.inl rfl)
      refine ol_nil ?_
      obtain rfl := Option.some.inj h
      refine fin_end0 Try.results98 ?_
      exact ⟨_, rfl, v31, v35, v39, v43, (.slice none 0 0), o32, m34, o36, m38, o40, m42, o44, m46, Own.nil _ _ _ _, ms_nil, a51, a52, a53, rfl, b_0, fB⟩
end Go.Proofs.Ytklhbaghbmndeaa

/- rickyard/rickyardlaw05.Refs: its model, and that the Go function computes it: written by gen.py. -/
set_option linter.unusedVariables false
namespace Go.Proofs.Ytklhbaghbmndeaa
open Go Go.Xw
def rickyardlaw05_Refs.f (fu : Nat) (a0 : S_rickyardref05_Device) (a1 : S_rickyardlaw05_Act) : Option (Int × Int × S_rickyardref05_Device) := ((rickyardref01_Rest.f fu a1.Kind 7 : Option Int).bind fun t27 => (if (decide (t27 = 0)) = true then ((rickyardref05_Device_Store.f fu a0 a1.At a1.W : Option (Int × S_rickyardref05_Device)).bind fun t32 => some (0, t32.1, t32.2)) else (if (decide (t27 = 1)) = true then ((rickyardref05_Device_Load.f fu a0 a1.At : Option (Int × Int)).bind fun t61 => some (t61.1, t61.2, a0)) else (if (decide (t27 = 2)) = true then ((rickyardref05_Device_Flush.f fu a0 a1.At : Option (Int × S_rickyardref05_Device)).bind fun t66 => some (0, t66.1, t66.2)) else (if (decide (t27 = 3)) = true then ((rickyardref05_Device_Fence.f fu a0 : Option (Int × S_rickyardref05_Device)).bind fun t95 => some (0, t95.1, t95.2)) else (((if (decide (t27 = 4)) = true then ((rickyardref05_Device_Arm.f fu a0 a1.At : Option S_rickyardref05_Device).bind fun t150 => some (a0.Lasts, a0.Stored, a0.Sent, a0.Flushed, a0.Plan, t150.Since, t150.Left, t150.Steps)) else (((if (decide (t27 = 5)) = true then ((rickyardref05_Device_Lay.f fu a0 a1.L : Option S_rickyardref05_Device).bind fun t186 => some (t186.Lasts, t186.Stored, t186.Sent, t186.Flushed, t186.Plan, t186.Since, t186.Left, t186.Steps)) else (((if (decide (t27 = 6)) = true then ((rickyardref05_Device_Crash.f fu a0 a1.L : Option S_rickyardref05_Device).bind fun t242 => some (t242.Lasts, t242.Stored, t242.Sent, t242.Flushed, t242.Plan, t242.Since, t242.Left, t242.Steps)) else some (a0.Lasts, a0.Stored, a0.Sent, a0.Flushed, a0.Plan, a0.Since, a0.Left, a0.Steps)) : Option ((List Int) × (List Int) × (List Int) × (List Bool) × (List Int) × Int × Int × Int)).bind fun x215 => some (x215.1, x215.2.1, x215.2.2.1, x215.2.2.2.1, x215.2.2.2.2.1, x215.2.2.2.2.2.1, x215.2.2.2.2.2.2.1, x215.2.2.2.2.2.2.2))) : Option ((List Int) × (List Int) × (List Int) × (List Bool) × (List Int) × Int × Int × Int)).bind fun x159 => some (x159.1, x159.2.1, x159.2.2.1, x159.2.2.2.1, x159.2.2.2.2.1, x159.2.2.2.2.2.1, x159.2.2.2.2.2.2.1, x159.2.2.2.2.2.2.2))) : Option ((List Int) × (List Int) × (List Int) × (List Bool) × (List Int) × Int × Int × Int)).bind fun x123 => some (0, 0, (⟨x123.1, x123.2.1, x123.2.2.1, x123.2.2.2.1, x123.2.2.2.2.1, x123.2.2.2.2.2.1, x123.2.2.2.2.2.2.1, x123.2.2.2.2.2.2.2⟩ : S_rickyardref05_Device))))))))
set_option maxRecDepth 100000 in
set_option maxHeartbeats 400000 in
theorem rickyardlaw05_Refs.ok (fu : Nat) (w : World) (a0 : S_rickyardref05_Device) (G_0 : Nat) (V0_0 : Value) (O0_0 : Own (kI .u64) 22 w 0 V0_0 a0.Lasts) (V0_1 : Value) (O0_1 : Own (kI .u64) 22 w 0 V0_1 a0.Stored) (V0_2 : Value) (O0_2 : Own (kI .u64) 22 w 0 V0_2 a0.Sent) (V0_3 : Value) (O0_3 : Own kB 4 w 0 V0_3 a0.Flushed) (V0_4 : Value) (O0_4 : Own (kI .i64) 3 w 0 V0_4 a0.Plan) (b_0 : Blk w G_0 65 [Seg.cell V0_0 O0_0.one, Seg.cell V0_1 O0_1.one, Seg.cell V0_2 O0_2.one, Seg.cell V0_3 O0_3.one, Seg.cell V0_4 O0_4.one, Seg.cell (.int .i64 a0.Since), Seg.cell (.int .i64 a0.Left), Seg.cell (.int .i64 a0.Steps)]) (a1 : S_rickyardlaw05_Act) (V1_0 : Value) (R1_0 : Rd (kI .i64) w V1_0 a1.L) (A_R0_0_R0_1 : OffV V0_0 V0_1) (A_R0_0_R0_2 : OffV V0_0 V0_2) (A_R0_1_R0_2 : OffV V0_1 V0_2) (NR1_0_P0 : OffR V1_0 a1.L G_0) (NR1_0_R0_0 : OffRV V1_0 a1.L V0_0) (NR1_0_R0_1 : OffRV V1_0 a1.L V0_1) (NR1_0_R0_2 : OffRV V1_0 a1.L V0_2) (NR1_0_R0_3 : OffRV V1_0 a1.L V0_3) (NR1_0_R0_4 : OffRV V1_0 a1.L V0_4) (r : Int × Int × S_rickyardref05_Device) (h : rickyardlaw05_Refs.f fu a0 a1 = some r) :
    Calls Try.prog 45 (([.pointer (some ⟨G_0, 0, none⟩), aggV [Seg.cell (.int .i64 a1.Kind), Seg.cell (.int .i64 a1.At), Seg.cell (.int .u64 a1.W), Seg.cell V1_0 R1_0.one]] : List Value).toArray) w (fun e w' => ∃ v, e = .returned v ∧ ∃ u1 : Value, ∃ u4 : Value, ∃ u7 : Value, ∃ u10 : Value, ∃ u13 : Value, ∃ o2 : Own (kI .u64) 22 w' 0 u1 r.2.2.Lasts, ∃ m3 : ∀ g, Value.ownBlock u1 = some g → w.heap.size ≤ g ∨ (g = G_0 ∨ some g = Value.ownBlock V0_0 ∨ some g = Value.ownBlock V0_1 ∨ some g = Value.ownBlock V0_2 ∨ some g = Value.ownBlock V0_3 ∨ some g = Value.ownBlock V0_4), ∃ o5 : Own (kI .u64) 22 w' 0 u4 r.2.2.Stored, ∃ m6 : ∀ g, Value.ownBlock u4 = some g → w.heap.size ≤ g ∨ (g = G_0 ∨ some g = Value.ownBlock V0_0 ∨ some g = Value.ownBlock V0_1 ∨ some g = Value.ownBlock V0_2 ∨ some g = Value.ownBlock V0_3 ∨ some g = Value.ownBlock V0_4), ∃ o8 : Own (kI .u64) 22 w' 0 u7 r.2.2.Sent, ∃ m9 : ∀ g, Value.ownBlock u7 = some g → w.heap.size ≤ g ∨ (g = G_0 ∨ some g = Value.ownBlock V0_0 ∨ some g = Value.ownBlock V0_1 ∨ some g = Value.ownBlock V0_2 ∨ some g = Value.ownBlock V0_3 ∨ some g = Value.ownBlock V0_4), ∃ o11 : Own kB 4 w' 0 u10 r.2.2.Flushed, ∃ m12 : ∀ g, Value.ownBlock u10 = some g → w.heap.size ≤ g ∨ (g = G_0 ∨ some g = Value.ownBlock V0_0 ∨ some g = Value.ownBlock V0_1 ∨ some g = Value.ownBlock V0_2 ∨ some g = Value.ownBlock V0_3 ∨ some g = Value.ownBlock V0_4), ∃ o14 : Own (kI .i64) 3 w' 0 u13 r.2.2.Plan, ∃ m15 : ∀ g, Value.ownBlock u13 = some g → w.heap.size ≤ g ∨ (g = G_0 ∨ some g = Value.ownBlock V0_0 ∨ some g = Value.ownBlock V0_1 ∨ some g = Value.ownBlock V0_2 ∨ some g = Value.ownBlock V0_3 ∨ some g = Value.ownBlock V0_4), ∃ a16 : OffV u1 u4, ∃ a17 : OffV u1 u7, ∃ a18 : OffV u4 u7, v = .tuple #[.int .u64 r.1, .int .i64 r.2.1] ∧ Blk w' G_0 65 [Seg.cell u1 o2.one, Seg.cell u4 o5.one, Seg.cell u7 o8.one, Seg.cell u10 o11.one, Seg.cell u13 o14.one, Seg.cell (.int .i64 r.2.2.Since), Seg.cell (.int .i64 r.2.2.Left), Seg.cell (.int .i64 r.2.2.Steps)] ∧ Fr (fun j => j = G_0 ∨ some j = Value.ownBlock V0_0 ∨ some j = Value.ownBlock V0_1 ∨ some j = Value.ownBlock V0_2 ∨ some j = Value.ownBlock V0_3 ∨ some j = Value.ownBlock V0_4) w w') := by
  unfold rickyardlaw05_Refs.f at h
  have fB : Fr (fun j => j = G_0 ∨ some j = Value.ownBlock V0_0 ∨ some j = Value.ownBlock V0_1 ∨ some j = Value.ownBlock V0_2 ∨ some j = Value.ownBlock V0_3 ∨ some j = Value.ownBlock V0_4) w w := Fr.refl _ _
  have M0_0 : ∀ g, Value.ownBlock V0_0 = some g → w.heap.size ≤ g ∨ (g = G_0 ∨ some g = Value.ownBlock V0_0 ∨ some g = Value.ownBlock V0_1 ∨ some g = Value.ownBlock V0_2 ∨ some g = Value.ownBlock V0_3 ∨ some g = Value.ownBlock V0_4) := fun g hg => .inr (.inr (.inl hg.symm))
  have M0_1 : ∀ g, Value.ownBlock V0_1 = some g → w.heap.size ≤ g ∨ (g = G_0 ∨ some g = Value.ownBlock V0_0 ∨ some g = Value.ownBlock V0_1 ∨ some g = Value.ownBlock V0_2 ∨ some g = Value.ownBlock V0_3 ∨ some g = Value.ownBlock V0_4) := fun g hg => .inr (.inr (.inr (.inl hg.symm)))
  have M0_2 : ∀ g, Value.ownBlock V0_2 = some g → w.heap.size ≤ g ∨ (g = G_0 ∨ some g = Value.ownBlock V0_0 ∨ some g = Value.ownBlock V0_1 ∨ some g = Value.ownBlock V0_2 ∨ some g = Value.ownBlock V0_3 ∨ some g = Value.ownBlock V0_4) := fun g hg => .inr (.inr (.inr (.inr (.inl hg.symm))))
  have M0_3 : ∀ g, Value.ownBlock V0_3 = some g → w.heap.size ≤ g ∨ (g = G_0 ∨ some g = Value.ownBlock V0_0 ∨ some g = Value.ownBlock V0_1 ∨ some g = Value.ownBlock V0_2 ∨ some g = Value.ownBlock V0_3 ∨ some g = Value.ownBlock V0_4) := fun g hg => .inr (.inr (.inr (.inr (.inr (.inl hg.symm)))))
  have M0_4 : ∀ g, Value.ownBlock V0_4 = some g → w.heap.size ≤ g ∨ (g = G_0 ∨ some g = Value.ownBlock V0_0 ∨ some g = Value.ownBlock V0_1 ∨ some g = Value.ownBlock V0_2 ∨ some g = Value.ownBlock V0_3 ∨ some g = Value.ownBlock V0_4) := fun g hg => .inr (.inr (.inr (.inr (.inr (.inr hg.symm)))))
  refine calls_cw Try.func45 rfl Try.ntmps45 rfl ?_
  refine cw_seq ?_
  refine cw_region ?_
  refine ol_op (by exact opv_box (ss := [Seg.cell (.int .i64 a1.Kind), Seg.cell (.int .i64 a1.At), Seg.cell (.int .u64 a1.W), Seg.cell V1_0 R1_0.one]) rfl rfl rfl) rfl rfl rfl ?_
  rintro _ w24 ⟨G19, rfl, b20, q21, z22⟩
  have n25 := b_0.ne z22
  have a26 := OffR.new R1_0 z22 rfl
  have z22 := Nat.le_trans fB.size z22
  have b_0 := b_0.gr q21
  have O0_0 := O0_0.gr q21
  have O0_1 := O0_1.gr q21
  have O0_2 := O0_2.gr q21
  have O0_3 := O0_3.gr q21
  have O0_4 := O0_4.gr q21
  have R1_0 := R1_0.gr q21
  have fB := fB.gr q21
  refine ol_val (v := .int .u64 0) (by exact xr_assign rfl rfl) rfl rfl rfl ?_
  refine ol_val (v := .int .i64 0) (by exact xr_assign rfl rfl) rfl rfl rfl ?_
  refine ol_nil ?_
  refine cw_seq ?_
  refine cw_seq ?_
  refine cw_region ?_
  refine ol_val (v := .pointer (some ⟨G19, 0, none⟩)) (by exact xr_fieldAddr (p := 0) (q := 0) rfl fl39_0 rfl) rfl rfl rfl ?_
  refine ol_val (v := .int .i64 a1.Kind) (by exact xr_load1 (v := .int .i64 a1.Kind) rfl ag3 rfl (b20.seg 0 rfl rfl)) rfl rfl rfl ?_
  obtain ⟨t27, k28, h⟩ := bs h
  refine ol_op (by exact opv_call rfl cal27 (ac rfl (ac rfl an)) (rickyardref01_Rest.ok fu _ a1.Kind 7 _ k28)) rfl rfl rfl ?_
  rintro _ w30 ⟨rfl, q29⟩
  have b_0 := b_0.gr q29
  have b20 := b20.gr q29
  have O0_0 := O0_0.gr q29
  have O0_1 := O0_1.gr q29
  have O0_2 := O0_2.gr q29
  have O0_3 := O0_3.gr q29
  have O0_4 := O0_4.gr q29
  have R1_0 := R1_0.gr q29
  have fB := fB.gr q29
  refine ol_nil ?_
  refine cw_block ?_
  refine cw_seq ?_
  refine cw_region ?_
  refine ol_val (v := .bool (decide (t27 = 0))) (by exact xr_eqI rfl Try.underlying3 rfl rfl rfl) rfl rfl rfl ?_
  refine ol_val (v := .bool (decide (t27 = 0))) (by exact xr_assign rfl rfl) rfl rfl rfl ?_
  refine ol_nil ?_
  rcases is h with ⟨c31, h⟩ | ⟨c31, h⟩
  · refine cw_condT rfl c31 ?_
    refine cw_seq ?_
    refine cw_region ?_
    refine ol_val (v := .pointer (some ⟨G_0, 0, none⟩)) (by exact xr_move rfl rfl) rfl rfl rfl ?_
    refine ol_val (v := .pointer (some ⟨G19, 1, none⟩)) (by exact xr_fieldAddr (p := 0) (q := 1) rfl fl39_1 rfl) rfl rfl rfl ?_
    refine ol_val (v := .int .i64 a1.At) (by exact xr_load1 (v := .int .i64 a1.At) rfl ag3 rfl (b20.seg 1 rfl rfl)) rfl rfl rfl ?_
    refine ol_val (v := .pointer (some ⟨G19, 2, none⟩)) (by exact xr_fieldAddr (p := 0) (q := 2) rfl fl39_2 rfl) rfl rfl rfl ?_
    refine ol_val (v := .int .u64 a1.W) (by exact xr_load1 (v := .int .u64 a1.W) rfl ag22 rfl (b20.seg 2 rfl rfl)) rfl rfl rfl ?_
    obtain ⟨t32, k33, h⟩ := bs h
    have c58 : ∀ k, (k = G_0 ∨ some k = Value.ownBlock V0_0 ∨ some k = Value.ownBlock V0_1 ∨ some k = Value.ownBlock V0_2 ∨ some k = Value.ownBlock V0_3 ∨ some k = Value.ownBlock V0_4) → (w.heap.size ≤ k ∨ (k = G_0 ∨ some k = Value.ownBlock V0_0 ∨ some k = Value.ownBlock V0_1 ∨ some k = Value.ownBlock V0_2 ∨ some k = Value.ownBlock V0_3 ∨ some k = Value.ownBlock V0_4)) := (cv_or (cv_eq (.inr (.inl rfl))) (cv_or (cv_own M0_0) (cv_or (cv_own M0_1) (cv_or (cv_own M0_2) (cv_or (cv_own M0_3) (cv_own M0_4))))))
    refine ol_op (by exact opv_call rfl cal92 (ac rfl (ac rfl (ac rfl an))) (rickyardref05_Device_Store.ok fu _ a0 G_0 V0_0 (Own.base O0_0 (Nat.zero_le _)) V0_1 (Own.base O0_1 (Nat.zero_le _)) V0_2 (Own.base O0_2 (Nat.zero_le _)) V0_3 (Own.base O0_3 (Nat.zero_le _)) V0_4 (Own.base O0_4 (Nat.zero_le _)) b_0 a1.At a1.W A_R0_0_R0_1 A_R0_0_R0_2 A_R0_1_R0_2 _ k33)) rfl rfl rfl ?_
    rintro _ w59 ⟨u35, u39, u43, u47, u51, o36, m37, o40, m41, o44, m45, o48, m49, o52, m53, a55, a56, a57, rfl, b_0, q34⟩
    have m37 : ∀ g, Value.ownBlock u35 = some g → w.heap.size ≤ g ∨ (g = G_0 ∨ some g = Value.ownBlock V0_0 ∨ some g = Value.ownBlock V0_1 ∨ some g = Value.ownBlock V0_2 ∨ some g = Value.ownBlock V0_3 ∨ some g = Value.ownBlock V0_4) := fun g hg => (m37 g hg).elim (fun x => .inl (Nat.le_trans fB.size x)) (c58 g)
    have m41 : ∀ g, Value.ownBlock u39 = some g → w.heap.size ≤ g ∨ (g = G_0 ∨ some g = Value.ownBlock V0_0 ∨ some g = Value.ownBlock V0_1 ∨ some g = Value.ownBlock V0_2 ∨ some g = Value.ownBlock V0_3 ∨ some g = Value.ownBlock V0_4) := fun g hg => (m41 g hg).elim (fun x => .inl (Nat.le_trans fB.size x)) (c58 g)
    have m45 : ∀ g, Value.ownBlock u43 = some g → w.heap.size ≤ g ∨ (g = G_0 ∨ some g = Value.ownBlock V0_0 ∨ some g = Value.ownBlock V0_1 ∨ some g = Value.ownBlock V0_2 ∨ some g = Value.ownBlock V0_3 ∨ some g = Value.ownBlock V0_4) := fun g hg => (m45 g hg).elim (fun x => .inl (Nat.le_trans fB.size x)) (c58 g)
    have m49 : ∀ g, Value.ownBlock u47 = some g → w.heap.size ≤ g ∨ (g = G_0 ∨ some g = Value.ownBlock V0_0 ∨ some g = Value.ownBlock V0_1 ∨ some g = Value.ownBlock V0_2 ∨ some g = Value.ownBlock V0_3 ∨ some g = Value.ownBlock V0_4) := fun g hg => (m49 g hg).elim (fun x => .inl (Nat.le_trans fB.size x)) (c58 g)
    have m53 : ∀ g, Value.ownBlock u51 = some g → w.heap.size ≤ g ∨ (g = G_0 ∨ some g = Value.ownBlock V0_0 ∨ some g = Value.ownBlock V0_1 ∨ some g = Value.ownBlock V0_2 ∨ some g = Value.ownBlock V0_3 ∨ some g = Value.ownBlock V0_4) := fun g hg => (m53 g hg).elim (fun x => .inl (Nat.le_trans fB.size x)) (c58 g)
    have fB := fB.call q34 c58
    refine ol_val (v := .int .u64 0) (by exact xr_assign rfl rfl) rfl rfl rfl ?_
    refine ol_val (v := .int .i64 t32.1) (by exact xr_assign rfl rfl) rfl rfl rfl ?_
    refine ol_nil ?_
    refine cw_ret ?_
    repeat (first | with_reducible refine thn_r ?_ | with_reducible refine blk_r ?_)
    obtain rfl := Option.some.inj h
    refine fin_ret2 Try.results45 rfl rfl ?_
    exact ⟨_, rfl, u35, u39, u43, u47, u51, o36, m37, o40, m41, o44, m45, o48, m49, o52, m53, a55, a56, a57, rfl, b_0, fB⟩
  · refine cw_condF rfl c31 ?_
    refine cw_seq ?_
    refine cw_region ?_
    refine ol_val (v := .bool (decide (t27 = 1))) (by exact xr_eqI rfl Try.underlying3 rfl rfl rfl) rfl rfl rfl ?_
    refine ol_val (v := .bool (decide (t27 = 1))) (by exact xr_assign rfl rfl) rfl rfl rfl ?_
    refine ol_nil ?_
    rcases is h with ⟨c60, h⟩ | ⟨c60, h⟩
    · refine cw_condT rfl c60 ?_
      refine cw_seq ?_
      refine cw_region ?_
      refine ol_val (v := .pointer (some ⟨G_0, 0, none⟩)) (by exact xr_move rfl rfl) rfl rfl rfl ?_
      refine ol_val (v := .pointer (some ⟨G19, 1, none⟩)) (by exact xr_fieldAddr (p := 0) (q := 1) rfl fl39_1 rfl) rfl rfl rfl ?_
      refine ol_val (v := .int .i64 a1.At) (by exact xr_load1 (v := .int .i64 a1.At) rfl ag3 rfl (b20.seg 1 rfl rfl)) rfl rfl rfl ?_
      obtain ⟨t61, k62, h⟩ := bs h
      refine ol_op (by exact opv_call rfl cal93 (ac rfl (ac rfl an)) (rickyardref05_Device_Load.ok fu _ a0 G_0 V0_0 (O0_0.rd) V0_1 (O0_1.rd) V0_2 (O0_2.rd) V0_3 (O0_3.rd) V0_4 (O0_4.rd) b_0 a1.At _ k62)) rfl rfl rfl ?_
      rintro _ w64 ⟨rfl, q63⟩
      have b_0 := b_0.gr q63
      have O0_0 := O0_0.gr q63
      have O0_1 := O0_1.gr q63
      have O0_2 := O0_2.gr q63
      have O0_3 := O0_3.gr q63
      have O0_4 := O0_4.gr q63
      have fB := fB.gr q63
      refine ol_val (v := .int .u64 t61.1) (by exact xr_extract rfl rfl rfl) rfl rfl rfl ?_
      refine ol_val (v := .int .i64 t61.2) (by exact xr_extract rfl rfl rfl) rfl rfl rfl ?_
      refine ol_val (v := .int .u64 t61.1) (by exact xr_assign rfl rfl) rfl rfl rfl ?_
      refine ol_val (v := .int .i64 t61.2) (by exact xr_assign rfl rfl) rfl rfl rfl ?_
      refine ol_nil ?_
      refine cw_ret ?_
      repeat (first | with_reducible refine thn_r ?_ | with_reducible refine blk_r ?_)
      obtain rfl := Option.some.inj h
      refine fin_ret2 Try.results45 rfl rfl ?_
      exact ⟨_, rfl, V0_0, V0_1, V0_2, V0_3, V0_4, O0_0, M0_0, O0_1, M0_1, O0_2, M0_2, O0_3, M0_3, O0_4, M0_4, A_R0_0_R0_1, A_R0_0_R0_2, A_R0_1_R0_2, rfl, b_0, fB⟩
    · refine cw_condF rfl c60 ?_
      refine cw_seq ?_
      refine cw_region ?_
      refine ol_val (v := .bool (decide (t27 = 2))) (by exact xr_eqI rfl Try.underlying3 rfl rfl rfl) rfl rfl rfl ?_
      refine ol_val (v := .bool (decide (t27 = 2))) (by exact xr_assign rfl rfl) rfl rfl rfl ?_
      refine ol_nil ?_
      rcases is h with ⟨c65, h⟩ | ⟨c65, h⟩
      · refine cw_condT rfl c65 ?_
        refine cw_seq ?_
        refine cw_region ?_
        refine ol_val (v := .pointer (some ⟨G_0, 0, none⟩)) (by exact xr_move rfl rfl) rfl rfl rfl ?_
        refine ol_val (v := .pointer (some ⟨G19, 1, none⟩)) (by exact xr_fieldAddr (p := 0) (q := 1) rfl fl39_1 rfl) rfl rfl rfl ?_
        refine ol_val (v := .int .i64 a1.At) (by exact xr_load1 (v := .int .i64 a1.At) rfl ag3 rfl (b20.seg 1 rfl rfl)) rfl rfl rfl ?_
        obtain ⟨t66, k67, h⟩ := bs h
        have c92 : ∀ k, (k = G_0 ∨ some k = Value.ownBlock V0_0 ∨ some k = Value.ownBlock V0_1 ∨ some k = Value.ownBlock V0_2 ∨ some k = Value.ownBlock V0_3 ∨ some k = Value.ownBlock V0_4) → (w.heap.size ≤ k ∨ (k = G_0 ∨ some k = Value.ownBlock V0_0 ∨ some k = Value.ownBlock V0_1 ∨ some k = Value.ownBlock V0_2 ∨ some k = Value.ownBlock V0_3 ∨ some k = Value.ownBlock V0_4)) := (cv_or (cv_eq (.inr (.inl rfl))) (cv_or (cv_own M0_0) (cv_or (cv_own M0_1) (cv_or (cv_own M0_2) (cv_or (cv_own M0_3) (cv_own M0_4))))))
        refine ol_op (by exact opv_call rfl cal94 (ac rfl (ac rfl an)) (rickyardref05_Device_Flush.ok fu _ a0 G_0 V0_0 (Own.base O0_0 (Nat.zero_le _)) V0_1 (Own.base O0_1 (Nat.zero_le _)) V0_2 (Own.base O0_2 (Nat.zero_le _)) V0_3 (Own.base O0_3 (Nat.zero_le _)) V0_4 (Own.base O0_4 (Nat.zero_le _)) b_0 a1.At A_R0_0_R0_1 A_R0_0_R0_2 A_R0_1_R0_2 _ k67)) rfl rfl rfl ?_
        rintro _ w93 ⟨u69, u73, u77, u81, u85, o70, m71, o74, m75, o78, m79, o82, m83, o86, m87, a89, a90, a91, rfl, b_0, q68⟩
        have m71 : ∀ g, Value.ownBlock u69 = some g → w.heap.size ≤ g ∨ (g = G_0 ∨ some g = Value.ownBlock V0_0 ∨ some g = Value.ownBlock V0_1 ∨ some g = Value.ownBlock V0_2 ∨ some g = Value.ownBlock V0_3 ∨ some g = Value.ownBlock V0_4) := fun g hg => (m71 g hg).elim (fun x => .inl (Nat.le_trans fB.size x)) (c92 g)
        have m75 : ∀ g, Value.ownBlock u73 = some g → w.heap.size ≤ g ∨ (g = G_0 ∨ some g = Value.ownBlock V0_0 ∨ some g = Value.ownBlock V0_1 ∨ some g = Value.ownBlock V0_2 ∨ some g = Value.ownBlock V0_3 ∨ some g = Value.ownBlock V0_4) := fun g hg => (m75 g hg).elim (fun x => .inl (Nat.le_trans fB.size x)) (c92 g)
        have m79 : ∀ g, Value.ownBlock u77 = some g → w.heap.size ≤ g ∨ (g = G_0 ∨ some g = Value.ownBlock V0_0 ∨ some g = Value.ownBlock V0_1 ∨ some g = Value.ownBlock V0_2 ∨ some g = Value.ownBlock V0_3 ∨ some g = Value.ownBlock V0_4) := fun g hg => (m79 g hg).elim (fun x => .inl (Nat.le_trans fB.size x)) (c92 g)
        have m83 : ∀ g, Value.ownBlock u81 = some g → w.heap.size ≤ g ∨ (g = G_0 ∨ some g = Value.ownBlock V0_0 ∨ some g = Value.ownBlock V0_1 ∨ some g = Value.ownBlock V0_2 ∨ some g = Value.ownBlock V0_3 ∨ some g = Value.ownBlock V0_4) := fun g hg => (m83 g hg).elim (fun x => .inl (Nat.le_trans fB.size x)) (c92 g)
        have m87 : ∀ g, Value.ownBlock u85 = some g → w.heap.size ≤ g ∨ (g = G_0 ∨ some g = Value.ownBlock V0_0 ∨ some g = Value.ownBlock V0_1 ∨ some g = Value.ownBlock V0_2 ∨ some g = Value.ownBlock V0_3 ∨ some g = Value.ownBlock V0_4) := fun g hg => (m87 g hg).elim (fun x => .inl (Nat.le_trans fB.size x)) (c92 g)
        have fB := fB.call q68 c92
        refine ol_val (v := .int .u64 0) (by exact xr_assign rfl rfl) rfl rfl rfl ?_
        refine ol_val (v := .int .i64 t66.1) (by exact xr_assign rfl rfl) rfl rfl rfl ?_
        refine ol_nil ?_
        refine cw_ret ?_
        repeat (first | with_reducible refine thn_r ?_ | with_reducible refine blk_r ?_)
        obtain rfl := Option.some.inj h
        refine fin_ret2 Try.results45 rfl rfl ?_
        exact ⟨_, rfl, u69, u73, u77, u81, u85, o70, m71, o74, m75, o78, m79, o82, m83, o86, m87, a89, a90, a91, rfl, b_0, fB⟩
      · refine cw_condF rfl c65 ?_
        refine cw_seq ?_
        refine cw_region ?_
        refine ol_val (v := .bool (decide (t27 = 3))) (by exact xr_eqI rfl Try.underlying3 rfl rfl rfl) rfl rfl rfl ?_
        refine ol_val (v := .bool (decide (t27 = 3))) (by exact xr_assign rfl rfl) rfl rfl rfl ?_
        refine ol_nil ?_
        rcases is h with ⟨c94, h⟩ | ⟨c94, h⟩
        · refine cw_condT rfl c94 ?_
          refine cw_seq ?_
          refine cw_region ?_
          refine ol_val (v := .pointer (some ⟨G_0, 0, none⟩)) (by exact xr_move rfl rfl) rfl rfl rfl ?_
          obtain ⟨t95, k96, h⟩ := bs h
          have c121 : ∀ k, (k = G_0 ∨ some k = Value.ownBlock V0_0 ∨ some k = Value.ownBlock V0_1 ∨ some k = Value.ownBlock V0_2 ∨ some k = Value.ownBlock V0_3 ∨ some k = Value.ownBlock V0_4) → (w.heap.size ≤ k ∨ (k = G_0 ∨ some k = Value.ownBlock V0_0 ∨ some k = Value.ownBlock V0_1 ∨ some k = Value.ownBlock V0_2 ∨ some k = Value.ownBlock V0_3 ∨ some k = Value.ownBlock V0_4)) := (cv_or (cv_eq (.inr (.inl rfl))) (cv_or (cv_own M0_0) (cv_or (cv_own M0_1) (cv_or (cv_own M0_2) (cv_or (cv_own M0_3) (cv_own M0_4))))))
          refine ol_op (by exact opv_call rfl cal95 (ac rfl an) (rickyardref05_Device_Fence.ok fu _ a0 G_0 V0_0 (Own.base O0_0 (Nat.zero_le _)) V0_1 (Own.base O0_1 (Nat.zero_le _)) V0_2 (Own.base O0_2 (Nat.zero_le _)) V0_3 (Own.base O0_3 (Nat.zero_le _)) V0_4 (Own.base O0_4 (Nat.zero_le _)) b_0 A_R0_0_R0_1 A_R0_0_R0_2 A_R0_1_R0_2 _ k96)) rfl rfl rfl ?_
          rintro _ w122 ⟨u98, u102, u106, u110, u114, o99, m100, o103, m104, o107, m108, o111, m112, o115, m116, a118, a119, a120, rfl, b_0, q97⟩
          have m100 : ∀ g, Value.ownBlock u98 = some g → w.heap.size ≤ g ∨ (g = G_0 ∨ some g = Value.ownBlock V0_0 ∨ some g = Value.ownBlock V0_1 ∨ some g = Value.ownBlock V0_2 ∨ some g = Value.ownBlock V0_3 ∨ some g = Value.ownBlock V0_4) := fun g hg => (m100 g hg).elim (fun x => .inl (Nat.le_trans fB.size x)) (c121 g)
          have m104 : ∀ g, Value.ownBlock u102 = some g → w.heap.size ≤ g ∨ (g = G_0 ∨ some g = Value.ownBlock V0_0 ∨ some g = Value.ownBlock V0_1 ∨ some g = Value.ownBlock V0_2 ∨ some g = Value.ownBlock V0_3 ∨ some g = Value.ownBlock V0_4) := fun g hg => (m104 g hg).elim (fun x => .inl (Nat.le_trans fB.size x)) (c121 g)
          have m108 : ∀ g, Value.ownBlock u106 = some g → w.heap.size ≤ g ∨ (g = G_0 ∨ some g = Value.ownBlock V0_0 ∨ some g = Value.ownBlock V0_1 ∨ some g = Value.ownBlock V0_2 ∨ some g = Value.ownBlock V0_3 ∨ some g = Value.ownBlock V0_4) := fun g hg => (m108 g hg).elim (fun x => .inl (Nat.le_trans fB.size x)) (c121 g)
          have m112 : ∀ g, Value.ownBlock u110 = some g → w.heap.size ≤ g ∨ (g = G_0 ∨ some g = Value.ownBlock V0_0 ∨ some g = Value.ownBlock V0_1 ∨ some g = Value.ownBlock V0_2 ∨ some g = Value.ownBlock V0_3 ∨ some g = Value.ownBlock V0_4) := fun g hg => (m112 g hg).elim (fun x => .inl (Nat.le_trans fB.size x)) (c121 g)
          have m116 : ∀ g, Value.ownBlock u114 = some g → w.heap.size ≤ g ∨ (g = G_0 ∨ some g = Value.ownBlock V0_0 ∨ some g = Value.ownBlock V0_1 ∨ some g = Value.ownBlock V0_2 ∨ some g = Value.ownBlock V0_3 ∨ some g = Value.ownBlock V0_4) := fun g hg => (m116 g hg).elim (fun x => .inl (Nat.le_trans fB.size x)) (c121 g)
          have fB := fB.call q97 c121
          refine ol_val (v := .int .u64 0) (by exact xr_assign rfl rfl) rfl rfl rfl ?_
          refine ol_val (v := .int .i64 t95.1) (by exact xr_assign rfl rfl) rfl rfl rfl ?_
          refine ol_nil ?_
          refine cw_ret ?_
          repeat (first | with_reducible refine thn_r ?_ | with_reducible refine blk_r ?_)
          obtain rfl := Option.some.inj h
          refine fin_ret2 Try.results45 rfl rfl ?_
          exact ⟨_, rfl, u98, u102, u106, u110, u114, o99, m100, o103, m104, o107, m108, o111, m112, o115, m116, a118, a119, a120, rfl, b_0, fB⟩
        · refine cw_condF rfl c94 ?_
          refine cw_seq ?_
          refine cw_region ?_
          refine ol_val (v := .bool (decide (t27 = 4))) (by exact xr_eqI rfl Try.underlying3 rfl rfl rfl) rfl rfl rfl ?_
          refine ol_val (v := .bool (decide (t27 = 4))) (by exact xr_assign rfl rfl) rfl rfl rfl ?_
          refine ol_nil ?_
          obtain ⟨x123, j124, h125⟩ := bs h
          refine cw_mid (fun ρ' w' => ∃ v126 : Value, ∃ v130 : Value, ∃ v134 : Value, ∃ v138 : Value, ∃ v142 : Value, ∃ o127 : Own (kI .u64) 22 w' 0 v126 x123.1, ∃ o131 : Own (kI .u64) 22 w' 0 v130 x123.2.1, ∃ o135 : Own (kI .u64) 22 w' 0 v134 x123.2.2.1, ∃ o139 : Own kB 4 w' 0 v138 x123.2.2.2.1, ∃ o143 : Own (kI .i64) 3 w' 0 v142 x123.2.2.2.2.1, ∃ m129 : ∀ g, Value.ownBlock v126 = some g → w.heap.size ≤ g ∨ (g = G_0 ∨ some g = Value.ownBlock V0_0 ∨ some g = Value.ownBlock V0_1 ∨ some g = Value.ownBlock V0_2 ∨ some g = Value.ownBlock V0_3 ∨ some g = Value.ownBlock V0_4), ∃ m133 : ∀ g, Value.ownBlock v130 = some g → w.heap.size ≤ g ∨ (g = G_0 ∨ some g = Value.ownBlock V0_0 ∨ some g = Value.ownBlock V0_1 ∨ some g = Value.ownBlock V0_2 ∨ some g = Value.ownBlock V0_3 ∨ some g = Value.ownBlock V0_4), ∃ m137 : ∀ g, Value.ownBlock v134 = some g → w.heap.size ≤ g ∨ (g = G_0 ∨ some g = Value.ownBlock V0_0 ∨ some g = Value.ownBlock V0_1 ∨ some g = Value.ownBlock V0_2 ∨ some g = Value.ownBlock V0_3 ∨ some g = Value.ownBlock V0_4), ∃ m141 : ∀ g, Value.ownBlock v138 = some g → w.heap.size ≤ g ∨ (g = G_0 ∨ some g = Value.ownBlock V0_0 ∨ some g = Value.ownBlock V0_1 ∨ some g = Value.ownBlock V0_2 ∨ some g = Value.ownBlock V0_3 ∨ some g = Value.ownBlock V0_4), ∃ m145 : ∀ g, Value.ownBlock v142 = some g → w.heap.size ≤ g ∨ (g = G_0 ∨ some g = Value.ownBlock V0_0 ∨ some g = Value.ownBlock V0_1 ∨ some g = Value.ownBlock V0_2 ∨ some g = Value.ownBlock V0_3 ∨ some g = Value.ownBlock V0_4), OffV v126 v130 ∧ OffV v126 v134 ∧ OffV v130 v134 ∧ Blk w' G_0 65 [Seg.cell v126 o127.one, Seg.cell v130 o131.one, Seg.cell v134 o135.one, Seg.cell v138 o139.one, Seg.cell v142 o143.one, Seg.cell (.int .i64 x123.2.2.2.2.2.1), Seg.cell (.int .i64 x123.2.2.2.2.2.2.1), Seg.cell (.int .i64 x123.2.2.2.2.2.2.2)] ∧ Fr (fun j => j = G_0 ∨ some j = Value.ownBlock V0_0 ∨ some j = Value.ownBlock V0_1 ∨ some j = Value.ownBlock V0_2 ∨ some j = Value.ownBlock V0_3 ∨ some j = Value.ownBlock V0_4) w w') ?_ ?_
          · have h := j124
            rcases is h with ⟨c149, h⟩ | ⟨c149, h⟩
            · refine cw_condT rfl c149 ?_
              refine cw_region ?_
              refine ol_val (v := .pointer (some ⟨G_0, 0, none⟩)) (by exact xr_move rfl rfl) rfl rfl rfl ?_
              refine ol_val (v := .pointer (some ⟨G19, 1, none⟩)) (by exact xr_fieldAddr (p := 0) (q := 1) rfl fl39_1 rfl) rfl rfl rfl ?_
              refine ol_val (v := .int .i64 a1.At) (by exact xr_load1 (v := .int .i64 a1.At) rfl ag3 rfl (b20.seg 1 rfl rfl)) rfl rfl rfl ?_
              obtain ⟨t150, k151, h⟩ := bs h
              have f153 := off_ty b_0 O0_0 (by decide)
              have f154 := off_ty b_0 O0_1 (by decide)
              have f155 := off_ty b_0 O0_2 (by decide)
              have f156 := off_ty b_0 O0_3 (by decide)
              have f157 := off_ty b_0 O0_4 (by decide)
              refine ol_op (by exact opv_call rfl cal96 (ac rfl (ac rfl an)) (rickyardref05_Device_Arm.ok fu _ a0 G_0 V0_0 O0_0.rd (OffR.own O0_0 (off_ty b_0 O0_0 (by decide))) V0_1 O0_1.rd (OffR.own O0_1 (off_ty b_0 O0_1 (by decide))) V0_2 O0_2.rd (OffR.own O0_2 (off_ty b_0 O0_2 (by decide))) V0_3 O0_3.rd (OffR.own O0_3 (off_ty b_0 O0_3 (by decide))) V0_4 O0_4.rd (OffR.own O0_4 (off_ty b_0 O0_4 (by decide))) b_0 a1.At _ k151)) rfl rfl rfl ?_
              rintro _ w158 ⟨rfl, b_0, q152⟩
              have O0_0 := O0_0.wr q152 f153
              have O0_1 := O0_1.wr q152 f154
              have O0_2 := O0_2.wr q152 f155
              have O0_3 := O0_3.wr q152 f156
              have O0_4 := O0_4.wr q152 f157
              have fB := fB.wrS q152 (.inl rfl)
              refine ol_nil ?_
              obtain rfl := Option.some.inj h
              refine thn_i ?_
              exact ⟨V0_0, V0_1, V0_2, V0_3, V0_4, O0_0, O0_1, O0_2, O0_3, O0_4, M0_0, M0_1, M0_2, M0_3, M0_4, A_R0_0_R0_1, A_R0_0_R0_2, A_R0_1_R0_2, b_0, fB⟩
            · refine cw_condF rfl c149 ?_
              refine cw_seq ?_
              refine cw_region ?_
              refine ol_val (v := .bool (decide (t27 = 5))) (by exact xr_eqI rfl Try.underlying3 rfl rfl rfl) rfl rfl rfl ?_
              refine ol_val (v := .bool (decide (t27 = 5))) (by exact xr_assign rfl rfl) rfl rfl rfl ?_
              refine ol_nil ?_
              obtain ⟨x159, j160, h161⟩ := bs h
              refine cw_mid (fun ρ' w' => ∃ v162 : Value, ∃ v166 : Value, ∃ v170 : Value, ∃ v174 : Value, ∃ v178 : Value, ∃ o163 : Own (kI .u64) 22 w' 0 v162 x159.1, ∃ o167 : Own (kI .u64) 22 w' 0 v166 x159.2.1, ∃ o171 : Own (kI .u64) 22 w' 0 v170 x159.2.2.1, ∃ o175 : Own kB 4 w' 0 v174 x159.2.2.2.1, ∃ o179 : Own (kI .i64) 3 w' 0 v178 x159.2.2.2.2.1, ∃ m165 : ∀ g, Value.ownBlock v162 = some g → w.heap.size ≤ g ∨ (g = G_0 ∨ some g = Value.ownBlock V0_0 ∨ some g = Value.ownBlock V0_1 ∨ some g = Value.ownBlock V0_2 ∨ some g = Value.ownBlock V0_3 ∨ some g = Value.ownBlock V0_4), ∃ m169 : ∀ g, Value.ownBlock v166 = some g → w.heap.size ≤ g ∨ (g = G_0 ∨ some g = Value.ownBlock V0_0 ∨ some g = Value.ownBlock V0_1 ∨ some g = Value.ownBlock V0_2 ∨ some g = Value.ownBlock V0_3 ∨ some g = Value.ownBlock V0_4), ∃ m173 : ∀ g, Value.ownBlock v170 = some g → w.heap.size ≤ g ∨ (g = G_0 ∨ some g = Value.ownBlock V0_0 ∨ some g = Value.ownBlock V0_1 ∨ some g = Value.ownBlock V0_2 ∨ some g = Value.ownBlock V0_3 ∨ some g = Value.ownBlock V0_4), ∃ m177 : ∀ g, Value.ownBlock v174 = some g → w.heap.size ≤ g ∨ (g = G_0 ∨ some g = Value.ownBlock V0_0 ∨ some g = Value.ownBlock V0_1 ∨ some g = Value.ownBlock V0_2 ∨ some g = Value.ownBlock V0_3 ∨ some g = Value.ownBlock V0_4), ∃ m181 : ∀ g, Value.ownBlock v178 = some g → w.heap.size ≤ g ∨ (g = G_0 ∨ some g = Value.ownBlock V0_0 ∨ some g = Value.ownBlock V0_1 ∨ some g = Value.ownBlock V0_2 ∨ some g = Value.ownBlock V0_3 ∨ some g = Value.ownBlock V0_4), OffV v162 v166 ∧ OffV v162 v170 ∧ OffV v166 v170 ∧ Blk w' G_0 65 [Seg.cell v162 o163.one, Seg.cell v166 o167.one, Seg.cell v170 o171.one, Seg.cell v174 o175.one, Seg.cell v178 o179.one, Seg.cell (.int .i64 x159.2.2.2.2.2.1), Seg.cell (.int .i64 x159.2.2.2.2.2.2.1), Seg.cell (.int .i64 x159.2.2.2.2.2.2.2)] ∧ Fr (fun j => j = G_0 ∨ some j = Value.ownBlock V0_0 ∨ some j = Value.ownBlock V0_1 ∨ some j = Value.ownBlock V0_2 ∨ some j = Value.ownBlock V0_3 ∨ some j = Value.ownBlock V0_4) w w') ?_ ?_
              · have h := j160
                rcases is h with ⟨c185, h⟩ | ⟨c185, h⟩
                · refine cw_condT rfl c185 ?_
                  refine cw_region ?_
                  refine ol_val (v := .pointer (some ⟨G_0, 0, none⟩)) (by exact xr_move rfl rfl) rfl rfl rfl ?_
                  refine ol_val (v := .pointer (some ⟨G19, 3, none⟩)) (by exact xr_fieldAddr (p := 0) (q := 3) rfl fl39_3 rfl) rfl rfl rfl ?_
                  refine ol_val (v := V1_0) (by exact xr_load1 (v := V1_0) rfl ag25 rfl (b20.seg 3 rfl rfl)) rfl rfl rfl ?_
                  obtain ⟨t186, k187, h⟩ := bs h
                  have f212 := (ro_or (ro_eq NR1_0_P0) (ro_or (ro_own NR1_0_R0_0) (ro_or (ro_own NR1_0_R0_1) (ro_or (ro_own NR1_0_R0_2) (ro_or (ro_own NR1_0_R0_3) (ro_own NR1_0_R0_4))))))
                  have c213 : ∀ k, (k = G_0 ∨ some k = Value.ownBlock V0_0 ∨ some k = Value.ownBlock V0_1 ∨ some k = Value.ownBlock V0_2 ∨ some k = Value.ownBlock V0_3 ∨ some k = Value.ownBlock V0_4) → (w.heap.size ≤ k ∨ (k = G_0 ∨ some k = Value.ownBlock V0_0 ∨ some k = Value.ownBlock V0_1 ∨ some k = Value.ownBlock V0_2 ∨ some k = Value.ownBlock V0_3 ∨ some k = Value.ownBlock V0_4)) := (cv_or (cv_eq (.inr (.inl rfl))) (cv_or (cv_own M0_0) (cv_or (cv_own M0_1) (cv_or (cv_own M0_2) (cv_or (cv_own M0_3) (cv_own M0_4))))))
                  refine ol_op (by exact opv_call rfl cal97 (ac rfl (ac rfl an)) (rickyardref05_Device_Lay.ok fu _ a0 G_0 V0_0 (Own.base O0_0 (Nat.zero_le _)) V0_1 (Own.base O0_1 (Nat.zero_le _)) V0_2 (Own.base O0_2 (Nat.zero_le _)) V0_3 (Own.base O0_3 (Nat.zero_le _)) V0_4 (Own.base O0_4 (Nat.zero_le _)) b_0 a1.L V1_0 (R1_0) A_R0_0_R0_1 A_R0_0_R0_2 A_R0_1_R0_2 NR1_0_P0 NR1_0_R0_0 NR1_0_R0_1 NR1_0_R0_2 NR1_0_R0_3 NR1_0_R0_4 _ k187)) rfl rfl rfl ?_
                  rintro _ w214 ⟨u189, u193, u197, u201, u205, o190, m191, o194, m195, o198, m199, o202, m203, o206, m207, a209, a210, a211, rfl, b_0, q188⟩
                  have m191 : ∀ g, Value.ownBlock u189 = some g → w.heap.size ≤ g ∨ (g = G_0 ∨ some g = Value.ownBlock V0_0 ∨ some g = Value.ownBlock V0_1 ∨ some g = Value.ownBlock V0_2 ∨ some g = Value.ownBlock V0_3 ∨ some g = Value.ownBlock V0_4) := fun g hg => (m191 g hg).elim (fun x => .inl (Nat.le_trans fB.size x)) (c213 g)
                  have m195 : ∀ g, Value.ownBlock u193 = some g → w.heap.size ≤ g ∨ (g = G_0 ∨ some g = Value.ownBlock V0_0 ∨ some g = Value.ownBlock V0_1 ∨ some g = Value.ownBlock V0_2 ∨ some g = Value.ownBlock V0_3 ∨ some g = Value.ownBlock V0_4) := fun g hg => (m195 g hg).elim (fun x => .inl (Nat.le_trans fB.size x)) (c213 g)
                  have m199 : ∀ g, Value.ownBlock u197 = some g → w.heap.size ≤ g ∨ (g = G_0 ∨ some g = Value.ownBlock V0_0 ∨ some g = Value.ownBlock V0_1 ∨ some g = Value.ownBlock V0_2 ∨ some g = Value.ownBlock V0_3 ∨ some g = Value.ownBlock V0_4) := fun g hg => (m199 g hg).elim (fun x => .inl (Nat.le_trans fB.size x)) (c213 g)
                  have m203 : ∀ g, Value.ownBlock u201 = some g → w.heap.size ≤ g ∨ (g = G_0 ∨ some g = Value.ownBlock V0_0 ∨ some g = Value.ownBlock V0_1 ∨ some g = Value.ownBlock V0_2 ∨ some g = Value.ownBlock V0_3 ∨ some g = Value.ownBlock V0_4) := fun g hg => (m203 g hg).elim (fun x => .inl (Nat.le_trans fB.size x)) (c213 g)
                  have m207 : ∀ g, Value.ownBlock u205 = some g → w.heap.size ≤ g ∨ (g = G_0 ∨ some g = Value.ownBlock V0_0 ∨ some g = Value.ownBlock V0_1 ∨ some g = Value.ownBlock V0_2 ∨ some g = Value.ownBlock V0_3 ∨ some g = Value.ownBlock V0_4) := fun g hg => (m207 g hg).elim (fun x => .inl (Nat.le_trans fB.size x)) (c213 g)
                  have fB := fB.call q188 c213
                  refine ol_nil ?_
                  obtain rfl := Option.some.inj h
                  refine thn_i ?_
                  exact ⟨u189, u193, u197, u201, u205, o190, o194, o198, o202, o206, m191, m195, m199, m203, m207, a209, a210, a211, b_0, fB⟩
                · refine cw_condF rfl c185 ?_
                  refine cw_seq ?_
                  refine cw_region ?_
                  refine ol_val (v := .bool (decide (t27 = 6))) (by exact xr_eqI rfl Try.underlying3 rfl rfl rfl) rfl rfl rfl ?_
                  refine ol_val (v := .bool (decide (t27 = 6))) (by exact xr_assign rfl rfl) rfl rfl rfl ?_
                  refine ol_nil ?_
                  obtain ⟨x215, j216, h217⟩ := bs h
                  refine cw_mid (fun ρ' w' => ∃ v218 : Value, ∃ v222 : Value, ∃ v226 : Value, ∃ v230 : Value, ∃ v234 : Value, ∃ o219 : Own (kI .u64) 22 w' 0 v218 x215.1, ∃ o223 : Own (kI .u64) 22 w' 0 v222 x215.2.1, ∃ o227 : Own (kI .u64) 22 w' 0 v226 x215.2.2.1, ∃ o231 : Own kB 4 w' 0 v230 x215.2.2.2.1, ∃ o235 : Own (kI .i64) 3 w' 0 v234 x215.2.2.2.2.1, ∃ m221 : ∀ g, Value.ownBlock v218 = some g → w.heap.size ≤ g ∨ (g = G_0 ∨ some g = Value.ownBlock V0_0 ∨ some g = Value.ownBlock V0_1 ∨ some g = Value.ownBlock V0_2 ∨ some g = Value.ownBlock V0_3 ∨ some g = Value.ownBlock V0_4), ∃ m225 : ∀ g, Value.ownBlock v222 = some g → w.heap.size ≤ g ∨ (g = G_0 ∨ some g = Value.ownBlock V0_0 ∨ some g = Value.ownBlock V0_1 ∨ some g = Value.ownBlock V0_2 ∨ some g = Value.ownBlock V0_3 ∨ some g = Value.ownBlock V0_4), ∃ m229 : ∀ g, Value.ownBlock v226 = some g → w.heap.size ≤ g ∨ (g = G_0 ∨ some g = Value.ownBlock V0_0 ∨ some g = Value.ownBlock V0_1 ∨ some g = Value.ownBlock V0_2 ∨ some g = Value.ownBlock V0_3 ∨ some g = Value.ownBlock V0_4), ∃ m233 : ∀ g, Value.ownBlock v230 = some g → w.heap.size ≤ g ∨ (g = G_0 ∨ some g = Value.ownBlock V0_0 ∨ some g = Value.ownBlock V0_1 ∨ some g = Value.ownBlock V0_2 ∨ some g = Value.ownBlock V0_3 ∨ some g = Value.ownBlock V0_4), ∃ m237 : ∀ g, Value.ownBlock v234 = some g → w.heap.size ≤ g ∨ (g = G_0 ∨ some g = Value.ownBlock V0_0 ∨ some g = Value.ownBlock V0_1 ∨ some g = Value.ownBlock V0_2 ∨ some g = Value.ownBlock V0_3 ∨ some g = Value.ownBlock V0_4), OffV v218 v222 ∧ OffV v218 v226 ∧ OffV v222 v226 ∧ Blk w' G_0 65 [Seg.cell v218 o219.one, Seg.cell v222 o223.one, Seg.cell v226 o227.one, Seg.cell v230 o231.one, Seg.cell v234 o235.one, Seg.cell (.int .i64 x215.2.2.2.2.2.1), Seg.cell (.int .i64 x215.2.2.2.2.2.2.1), Seg.cell (.int .i64 x215.2.2.2.2.2.2.2)] ∧ Fr (fun j => j = G_0 ∨ some j = Value.ownBlock V0_0 ∨ some j = Value.ownBlock V0_1 ∨ some j = Value.ownBlock V0_2 ∨ some j = Value.ownBlock V0_3 ∨ some j = Value.ownBlock V0_4) w w') ?_ ?_
                  · have h := j216
                    rcases is h with ⟨c241, h⟩ | ⟨c241, h⟩
                    · refine cw_condT rfl c241 ?_
                      refine cw_region ?_
                      refine ol_val (v := .pointer (some ⟨G_0, 0, none⟩)) (by exact xr_move rfl rfl) rfl rfl rfl ?_
                      refine ol_val (v := .pointer (some ⟨G19, 3, none⟩)) (by exact xr_fieldAddr (p := 0) (q := 3) rfl fl39_3 rfl) rfl rfl rfl ?_
                      refine ol_val (v := V1_0) (by exact xr_load1 (v := V1_0) rfl ag25 rfl (b20.seg 3 rfl rfl)) rfl rfl rfl ?_
                      obtain ⟨t242, k243, h⟩ := bs h
                      have f268 := (ro_or (ro_eq NR1_0_P0) (ro_or (ro_own NR1_0_R0_0) (ro_or (ro_own NR1_0_R0_1) (ro_or (ro_own NR1_0_R0_2) (ro_or (ro_own NR1_0_R0_3) (ro_own NR1_0_R0_4))))))
                      have c269 : ∀ k, (k = G_0 ∨ some k = Value.ownBlock V0_0 ∨ some k = Value.ownBlock V0_1 ∨ some k = Value.ownBlock V0_2 ∨ some k = Value.ownBlock V0_3 ∨ some k = Value.ownBlock V0_4) → (w.heap.size ≤ k ∨ (k = G_0 ∨ some k = Value.ownBlock V0_0 ∨ some k = Value.ownBlock V0_1 ∨ some k = Value.ownBlock V0_2 ∨ some k = Value.ownBlock V0_3 ∨ some k = Value.ownBlock V0_4)) := (cv_or (cv_eq (.inr (.inl rfl))) (cv_or (cv_own M0_0) (cv_or (cv_own M0_1) (cv_or (cv_own M0_2) (cv_or (cv_own M0_3) (cv_own M0_4))))))
                      refine ol_op (by exact opv_call rfl cal98 (ac rfl (ac rfl an)) (rickyardref05_Device_Crash.ok fu _ a0 G_0 V0_0 (Own.base O0_0 (Nat.zero_le _)) V0_1 (Own.base O0_1 (Nat.zero_le _)) V0_2 (Own.base O0_2 (Nat.zero_le _)) V0_3 (Own.base O0_3 (Nat.zero_le _)) V0_4 (Own.base O0_4 (Nat.zero_le _)) b_0 a1.L V1_0 (R1_0) A_R0_0_R0_1 A_R0_0_R0_2 A_R0_1_R0_2 NR1_0_P0 NR1_0_R0_0 NR1_0_R0_1 NR1_0_R0_2 NR1_0_R0_3 NR1_0_R0_4 _ k243)) rfl rfl rfl ?_
                      rintro _ w270 ⟨u245, u249, u253, u257, u261, o246, m247, o250, m251, o254, m255, o258, m259, o262, m263, a265, a266, a267, rfl, b_0, q244⟩
                      have m247 : ∀ g, Value.ownBlock u245 = some g → w.heap.size ≤ g ∨ (g = G_0 ∨ some g = Value.ownBlock V0_0 ∨ some g = Value.ownBlock V0_1 ∨ some g = Value.ownBlock V0_2 ∨ some g = Value.ownBlock V0_3 ∨ some g = Value.ownBlock V0_4) := fun g hg => (m247 g hg).elim (fun x => .inl (Nat.le_trans fB.size x)) (c269 g)
                      have m251 : ∀ g, Value.ownBlock u249 = some g → w.heap.size ≤ g ∨ (g = G_0 ∨ some g = Value.ownBlock V0_0 ∨ some g = Value.ownBlock V0_1 ∨ some g = Value.ownBlock V0_2 ∨ some g = Value.ownBlock V0_3 ∨ some g = Value.ownBlock V0_4) := fun g hg => (m251 g hg).elim (fun x => .inl (Nat.le_trans fB.size x)) (c269 g)
                      have m255 : ∀ g, Value.ownBlock u253 = some g → w.heap.size ≤ g ∨ (g = G_0 ∨ some g = Value.ownBlock V0_0 ∨ some g = Value.ownBlock V0_1 ∨ some g = Value.ownBlock V0_2 ∨ some g = Value.ownBlock V0_3 ∨ some g = Value.ownBlock V0_4) := fun g hg => (m255 g hg).elim (fun x => .inl (Nat.le_trans fB.size x)) (c269 g)
                      have m259 : ∀ g, Value.ownBlock u257 = some g → w.heap.size ≤ g ∨ (g = G_0 ∨ some g = Value.ownBlock V0_0 ∨ some g = Value.ownBlock V0_1 ∨ some g = Value.ownBlock V0_2 ∨ some g = Value.ownBlock V0_3 ∨ some g = Value.ownBlock V0_4) := fun g hg => (m259 g hg).elim (fun x => .inl (Nat.le_trans fB.size x)) (c269 g)
                      have m263 : ∀ g, Value.ownBlock u261 = some g → w.heap.size ≤ g ∨ (g = G_0 ∨ some g = Value.ownBlock V0_0 ∨ some g = Value.ownBlock V0_1 ∨ some g = Value.ownBlock V0_2 ∨ some g = Value.ownBlock V0_3 ∨ some g = Value.ownBlock V0_4) := fun g hg => (m263 g hg).elim (fun x => .inl (Nat.le_trans fB.size x)) (c269 g)
                      have fB := fB.call q244 c269
                      refine ol_nil ?_
                      obtain rfl := Option.some.inj h
                      refine thn_i ?_
                      exact ⟨u245, u249, u253, u257, u261, o246, o250, o254, o258, o262, m247, m251, m255, m259, m263, a265, a266, a267, b_0, fB⟩
                    · refine cw_condF rfl c241 ?_
                      refine cw_skip ?_
                      obtain rfl := Option.some.inj h
                      refine thn_i ?_
                      exact ⟨V0_0, V0_1, V0_2, V0_3, V0_4, O0_0, O0_1, O0_2, O0_3, O0_4, M0_0, M0_1, M0_2, M0_3, M0_4, A_R0_0_R0_1, A_R0_0_R0_2, A_R0_1_R0_2, b_0, fB⟩
                  · rintro ρ271 w272 ⟨v218, v222, v226, v230, v234, o219, o223, o227, o231, o235, m221, m225, m229, m233, m237, a238, a239, a240, b_0, fB⟩
                    have h := h217
                    obtain rfl := Option.some.inj h
                    refine thn_i ?_
                    exact ⟨v218, v222, v226, v230, v234, o219, o223, o227, o231, o235, m221, m225, m229, m233, m237, a238, a239, a240, b_0, fB⟩
              · rintro ρ273 w274 ⟨v162, v166, v170, v174, v178, o163, o167, o171, o175, o179, m165, m169, m173, m177, m181, a182, a183, a184, b_0, fB⟩
                have h := h161
                obtain rfl := Option.some.inj h
                refine thn_i ?_
                exact ⟨v162, v166, v170, v174, v178, o163, o167, o171, o175, o179, m165, m169, m173, m177, m181, a182, a183, a184, b_0, fB⟩
          · rintro ρ275 w276 ⟨v126, v130, v134, v138, v142, o127, o131, o135, o139, o143, m129, m133, m137, m141, m145, a146, a147, a148, b_0, fB⟩
            have h := h125
            refine blk_i ?_
            refine cw_seq ?_
            refine cw_region ?_
            refine ol_val (v := .int .u64 0) (by exact xr_assign rfl rfl) rfl rfl rfl ?_
            refine ol_val (v := .int .i64 0) (by exact xr_assign rfl rfl) rfl rfl rfl ?_
            refine ol_nil ?_
            refine cw_ret ?_
            repeat (first | with_reducible refine thn_r ?_ | with_reducible refine blk_r ?_)
            obtain rfl := Option.some.inj h
            refine fin_ret2 Try.results45 rfl rfl ?_
            exact ⟨_, rfl, v126, v130, v134, v138, v142, o127, m129, o131, m133, o135, m137, o139, m141, o143, m145, a146, a147, a148, rfl, b_0, fB⟩
end Go.Proofs.Ytklhbaghbmndeaa

/- rickyard/rickyardref05.New: its model, and that the Go function computes it: written by gen.py. -/
set_option linter.unusedVariables false
namespace Go.Proofs.Ytklhbaghbmndeaa
open Go Go.Xw
def rickyardref05_New.f (fu : Nat) (a0 : Int) : Option S_rickyardref05_Device := (if 0 ≤ (IntKind.i64.wrap (8 * a0)) ∧ Int.toNat (IntKind.i64.wrap (8 * a0)) ≤ LIM then (if 0 ≤ (IntKind.i64.wrap (8 * a0)) ∧ Int.toNat (IntKind.i64.wrap (8 * a0)) ≤ LIM then (if 0 ≤ (IntKind.i64.wrap (8 * a0)) ∧ Int.toNat (IntKind.i64.wrap (8 * a0)) ≤ LIM then (if 0 ≤ (IntKind.i64.wrap (8 * a0)) ∧ Int.toNat (IntKind.i64.wrap (8 * a0)) ≤ LIM then some ((⟨(List.replicate (Int.toNat (IntKind.i64.wrap (8 * a0))) (0 : Int)), (List.replicate (Int.toNat (IntKind.i64.wrap (8 * a0))) (0 : Int)), (List.replicate (Int.toNat (IntKind.i64.wrap (8 * a0))) (0 : Int)), (List.replicate (Int.toNat (IntKind.i64.wrap (8 * a0))) false), [], (0 : Int), (-1), (0 : Int)⟩ : S_rickyardref05_Device)) else none) else none) else none) else none)
set_option maxRecDepth 100000 in
set_option maxHeartbeats 400000 in
theorem rickyardref05_New.ok (fu : Nat) (w : World) (a0 : Int) (r : S_rickyardref05_Device) (h : rickyardref05_New.f fu a0 = some r) :
    Calls Try.prog 44 (([.int .i64 a0] : List Value).toArray) w (fun e w' => ∃ v, e = .returned v ∧ ∃ u1 : Value, ∃ p2 : ∃ G9 : Nat, ∃ U0 : Value, ∃ U1 : Value, ∃ U2 : Value, ∃ U3 : Value, ∃ U4 : Value, ∃ O0 : Own (kI .u64) 22 w' w.heap.size U0 r.Lasts, ∃ O1 : Own (kI .u64) 22 w' w.heap.size U1 r.Stored, ∃ O2 : Own (kI .u64) 22 w' w.heap.size U2 r.Sent, ∃ O3 : Own kB 4 w' w.heap.size U3 r.Flushed, ∃ O4 : Own (kI .i64) 3 w' w.heap.size U4 r.Plan, ∃ A0_1 : OffV U0 U1, ∃ A0_2 : OffV U0 U2, ∃ A1_2 : OffV U1 U2, u1 = .pointer (some ⟨G9, 0, none⟩) ∧ w.heap.size ≤ G9 ∧ Blk w' G9 65 [Seg.cell U0 O0.one, Seg.cell U1 O1.one, Seg.cell U2 O2.one, Seg.cell U3 O3.one, Seg.cell U4 O4.one, Seg.cell (.int .i64 r.Since), Seg.cell (.int .i64 r.Left), Seg.cell (.int .i64 r.Steps)], v = u1 ∧ Gr w w') := by
  unfold rickyardref05_New.f at h
  have fB : Gr w w := Fr.refl _ _
  refine calls_cw Try.func44 rfl Try.ntmps44 rfl ?_
  refine cw_seq ?_
  refine cw_region ?_
  refine ol_val (v := .pointer none) (by exact xr_assign rfl rfl) rfl rfl rfl ?_
  refine ol_nil ?_
  refine cw_seq ?_
  refine cw_region ?_
  refine ol_val (v := .int .i64 a0) (by exact xr_move rfl rfl) rfl rfl rfl ?_
  refine ol_val (v := .int .i64 (IntKind.i64.wrap (8 * a0))) (by exact xr_mul rfl rfl rfl) rfl rfl rfl ?_
  refine ol_val (v := .int .i64 (IntKind.i64.wrap (8 * a0))) (by exact xr_assign rfl rfl) rfl rfl rfl ?_
  refine ol_nil ?_
  refine cw_seq ?_
  obtain ⟨g3, h⟩ := gs h
  obtain ⟨g9, h⟩ := gs h
  obtain ⟨g15, h⟩ := gs h
  obtain ⟨g21, h⟩ := gs h
  refine cw_drawP 8 [fun vz wz => vz = (.int .i64 (IntKind.i64.wrap (8 * a0)) : Value), fun vz wz => ∃ v4 : Value, ∃ o6 : Own (kI .u64) 22 wz w.heap.size v4 (List.replicate (Int.toNat (IntKind.i64.wrap (8 * a0))) (0 : Int)), vz = (v4 : Value), fun vz wz => vz = (.int .i64 (IntKind.i64.wrap (8 * a0)) : Value), fun vz wz => ∃ v10 : Value, ∃ o12 : Own (kI .u64) 22 wz w.heap.size v10 (List.replicate (Int.toNat (IntKind.i64.wrap (8 * a0))) (0 : Int)), vz = (v10 : Value), fun vz wz => vz = (.int .i64 (IntKind.i64.wrap (8 * a0)) : Value), fun vz wz => ∃ v16 : Value, ∃ o18 : Own (kI .u64) 22 wz w.heap.size v16 (List.replicate (Int.toNat (IntKind.i64.wrap (8 * a0))) (0 : Int)), vz = (v16 : Value), fun vz wz => vz = (.int .i64 (IntKind.i64.wrap (8 * a0)) : Value), fun vz wz => ∃ v22 : Value, ∃ o24 : Own kB 4 wz w.heap.size v22 (List.replicate (Int.toNat (IntKind.i64.wrap (8 * a0))) false), vz = (v22 : Value)] [false, true, false, true, false, true, false, true] mo rfl rfl ⟨fun _ _ _ h _ => h, fun _ _ _ ⟨v4, o6, h⟩ q => ⟨v4, o6.gr q, h⟩, fun _ _ _ h _ => h, fun _ _ _ ⟨v10, o12, h⟩ q => ⟨v10, o12.gr q, h⟩, fun _ _ _ h _ => h, fun _ _ _ ⟨v16, o18, h⟩ q => ⟨v16, o18.gr q, h⟩, fun _ _ _ h _ => h, fun _ _ _ ⟨v22, o24, h⟩ q => ⟨v22, o24.gr q, h⟩, trivial⟩ ⟨(fun e => by cases e), (fun _ v w ⟨v4, o6, e⟩ k hk => Own.lt o6 (by rw [← e]; exact hk)), (fun e => by cases e), (fun _ v w ⟨v10, o12, e⟩ k hk => Own.lt o12 (by rw [← e]; exact hk)), (fun e => by cases e), (fun _ v w ⟨v16, o18, e⟩ k hk => Own.lt o18 (by rw [← e]; exact hk)), (fun e => by cases e), (fun _ v w ⟨v22, o24, e⟩ k hk => Own.lt o24 (by rw [← e]; exact hk)), trivial⟩ ?_ ?_
  · refine ⟨?_, ?_, ?_, ?_, ?_, ?_, ?_, ?_, trivial⟩
    · intro ρz wz hz hk hd
      refine sk_nal rfl ?_
      exact sk_val (v := .int .i64 (IntKind.i64.wrap (8 * a0))) (by exact xr_move rfl ((hk 3 rfl).trans rfl)) rfl rfl
    · intro ρz wz hz hk hd
      have d6 := hd 0 rfl 6 rfl
      refine sk_alloc (by exact opv_make (K := (kI .u64)) (z := (0 : Int)) rfl Try.underlying46 el22 rfl d6 d6 g3.1 g3.2 rfl (Nat.le_trans fB.size hz.size)) rfl ?_
      rintro v4 wy ⟨o6, q5, z7⟩
      exact ⟨⟨⟨v4, o6, rfl⟩, q5⟩, z7⟩
    · intro ρz wz hz hk hd
      refine sk_nal rfl ?_
      exact sk_val (v := .int .i64 (IntKind.i64.wrap (8 * a0))) (by exact xr_move rfl ((hk 3 rfl).trans rfl)) rfl rfl
    · intro ρz wz hz hk hd
      have d8 := hd 2 rfl 8 rfl
      refine sk_alloc (by exact opv_make (K := (kI .u64)) (z := (0 : Int)) rfl Try.underlying46 el22 rfl d8 d8 g9.1 g9.2 rfl (Nat.le_trans fB.size hz.size)) rfl ?_
      rintro v10 wy ⟨o12, q11, z13⟩
      exact ⟨⟨⟨v10, o12, rfl⟩, q11⟩, z13⟩
    · intro ρz wz hz hk hd
      refine sk_nal rfl ?_
      exact sk_val (v := .int .i64 (IntKind.i64.wrap (8 * a0))) (by exact xr_move rfl ((hk 3 rfl).trans rfl)) rfl rfl
    · intro ρz wz hz hk hd
      have d10 := hd 4 rfl 10 rfl
      refine sk_alloc (by exact opv_make (K := (kI .u64)) (z := (0 : Int)) rfl Try.underlying46 el22 rfl d10 d10 g15.1 g15.2 rfl (Nat.le_trans fB.size hz.size)) rfl ?_
      rintro v16 wy ⟨o18, q17, z19⟩
      exact ⟨⟨⟨v16, o18, rfl⟩, q17⟩, z19⟩
    · intro ρz wz hz hk hd
      refine sk_nal rfl ?_
      exact sk_val (v := .int .i64 (IntKind.i64.wrap (8 * a0))) (by exact xr_move rfl ((hk 3 rfl).trans rfl)) rfl rfl
    · intro ρz wz hz hk hd
      have d12 := hd 6 rfl 12 rfl
      refine sk_alloc (by exact opv_make (K := kB) (z := false) rfl Try.underlying63 el4 rfl d12 d12 g21.1 g21.2 rfl (Nat.le_trans fB.size hz.size)) rfl ?_
      rintro v22 wy ⟨o24, q23, z25⟩
      exact ⟨⟨⟨v22, o24, rfl⟩, q23⟩, z25⟩
  · intro ρ27 w28 q29 hk hd hp
    obtain ⟨v30, o31, e7⟩ := hd 1 rfl 7 rfl
    obtain ⟨v32, o33, e9⟩ := hd 3 rfl 9 rfl
    obtain ⟨v34, o35, e11⟩ := hd 5 rfl 11 rfl
    obtain ⟨v36, o37, e13⟩ := hd 7 rfl 13 rfl
    have fB := fB.gr q29
    have a42 : OffV v30 v32 := by have h9 := hp 1 3 rfl rfl rfl rfl rfl 7 9 rfl rfl; rwa [e7, e9] at h9
    have a43 : OffV v30 v34 := by have h9 := hp 1 5 rfl rfl rfl rfl rfl 7 11 rfl rfl; rwa [e7, e11] at h9
    have a44 : OffV v32 v34 := by have h9 := hp 3 5 rfl rfl rfl rfl rfl 9 11 rfl rfl; rwa [e9, e11] at h9
    refine ol_val (v := aggV [Seg.cell v30 o31.one, Seg.cell v32 o33.one, Seg.cell v34 o35.one, Seg.cell v36 o37.one, Seg.cell (.slice none 0 0) (by rfl), Seg.cell (.int .i64 (0 : Int)), Seg.cell (.int .i64 (-1)), Seg.cell (.int .i64 (0 : Int))]) (by exact xr_buildS (vals := [(0, v30), (1, v32), (2, v34), (3, v36), (6, .int .i64 (-1))]) (res := [Seg.cell v30 o31.one, Seg.cell v32 o33.one, Seg.cell v34 o35.one, Seg.cell v36 o37.one, Seg.cell (.slice none 0 0) (by rfl), Seg.cell (.int .i64 (0 : Int)), Seg.cell (.int .i64 (-1)), Seg.cell (.int .i64 (0 : Int))]) rfl ⟨rfl, e7, ⟨rfl, e9, ⟨rfl, e11, ⟨rfl, e13, ⟨rfl, rfl, trivial⟩⟩⟩⟩⟩ Try.underlying65 ze65 pl65 (fl_cons (xs := cellsOf [Seg.cell v30 o31.one]) (cs' := cellsOf [Seg.cell v30 o31.one, Seg.cell (.slice none 0 0) (by rfl), Seg.cell (.slice none 0 0) (by rfl), Seg.cell (.slice none 0 0) (by rfl), Seg.cell (.slice none 0 0) (by rfl), Seg.cell (.int .i64 (0 : Int)), Seg.cell (.int .i64 (0 : Int)), Seg.cell (.int .i64 (0 : Int))]) rfl (cells_one o31.one) (len_cellsOf _) (Spl.segs [Seg.cell (.slice none 0 0) (by rfl), Seg.cell (.slice none 0 0) (by rfl), Seg.cell (.slice none 0 0) (by rfl), Seg.cell (.slice none 0 0) (by rfl), Seg.cell (.slice none 0 0) (by rfl), Seg.cell (.int .i64 (0 : Int)), Seg.cell (.int .i64 (0 : Int)), Seg.cell (.int .i64 (0 : Int))] 0 1 [Seg.cell v30 o31.one] rfl rfl) (fl_cons (xs := cellsOf [Seg.cell v32 o33.one]) (cs' := cellsOf [Seg.cell v30 o31.one, Seg.cell v32 o33.one, Seg.cell (.slice none 0 0) (by rfl), Seg.cell (.slice none 0 0) (by rfl), Seg.cell (.slice none 0 0) (by rfl), Seg.cell (.int .i64 (0 : Int)), Seg.cell (.int .i64 (0 : Int)), Seg.cell (.int .i64 (0 : Int))]) rfl (cells_one o33.one) (len_cellsOf _) (Spl.segs [Seg.cell v30 o31.one, Seg.cell (.slice none 0 0) (by rfl), Seg.cell (.slice none 0 0) (by rfl), Seg.cell (.slice none 0 0) (by rfl), Seg.cell (.slice none 0 0) (by rfl), Seg.cell (.int .i64 (0 : Int)), Seg.cell (.int .i64 (0 : Int)), Seg.cell (.int .i64 (0 : Int))] 1 1 [Seg.cell v32 o33.one] rfl rfl) (fl_cons (xs := cellsOf [Seg.cell v34 o35.one]) (cs' := cellsOf [Seg.cell v30 o31.one, Seg.cell v32 o33.one, Seg.cell v34 o35.one, Seg.cell (.slice none 0 0) (by rfl), Seg.cell (.slice none 0 0) (by rfl), Seg.cell (.int .i64 (0 : Int)), Seg.cell (.int .i64 (0 : Int)), Seg.cell (.int .i64 (0 : Int))]) rfl (cells_one o35.one) (len_cellsOf _) (Spl.segs [Seg.cell v30 o31.one, Seg.cell v32 o33.one, Seg.cell (.slice none 0 0) (by rfl), Seg.cell (.slice none 0 0) (by rfl), Seg.cell (.slice none 0 0) (by rfl), Seg.cell (.int .i64 (0 : Int)), Seg.cell (.int .i64 (0 : Int)), Seg.cell (.int .i64 (0 : Int))] 2 1 [Seg.cell v34 o35.one] rfl rfl) (fl_cons (xs := cellsOf [Seg.cell v36 o37.one]) (cs' := cellsOf [Seg.cell v30 o31.one, Seg.cell v32 o33.one, Seg.cell v34 o35.one, Seg.cell v36 o37.one, Seg.cell (.slice none 0 0) (by rfl), Seg.cell (.int .i64 (0 : Int)), Seg.cell (.int .i64 (0 : Int)), Seg.cell (.int .i64 (0 : Int))]) rfl (cells_one o37.one) (len_cellsOf _) (Spl.segs [Seg.cell v30 o31.one, Seg.cell v32 o33.one, Seg.cell v34 o35.one, Seg.cell (.slice none 0 0) (by rfl), Seg.cell (.slice none 0 0) (by rfl), Seg.cell (.int .i64 (0 : Int)), Seg.cell (.int .i64 (0 : Int)), Seg.cell (.int .i64 (0 : Int))] 3 1 [Seg.cell v36 o37.one] rfl rfl) (fl_cons (xs := cellsOf [Seg.cell (.int .i64 (-1))]) (cs' := cellsOf [Seg.cell v30 o31.one, Seg.cell v32 o33.one, Seg.cell v34 o35.one, Seg.cell v36 o37.one, Seg.cell (.slice none 0 0) (by rfl), Seg.cell (.int .i64 (0 : Int)), Seg.cell (.int .i64 (-1)), Seg.cell (.int .i64 (0 : Int))]) rfl rfl (len_cellsOf _) (Spl.segs [Seg.cell v30 o31.one, Seg.cell v32 o33.one, Seg.cell v34 o35.one, Seg.cell v36 o37.one, Seg.cell (.slice none 0 0) (by rfl), Seg.cell (.int .i64 (0 : Int)), Seg.cell (.int .i64 (0 : Int)), Seg.cell (.int .i64 (0 : Int))] 6 1 [Seg.cell (.int .i64 (-1))] rfl rfl) fl_nil)))))) rfl rfl rfl ?_
    refine ol_op (by exact opv_box (ss := [Seg.cell v30 o31.one, Seg.cell v32 o33.one, Seg.cell v34 o35.one, Seg.cell v36 o37.one, Seg.cell (.slice none 0 0) (by rfl), Seg.cell (.int .i64 (0 : Int)), Seg.cell (.int .i64 (-1)), Seg.cell (.int .i64 (0 : Int))]) rfl rfl rfl) rfl rfl rfl ?_
    rintro _ w50 ⟨G45, rfl, b46, q47, z48⟩
    have z48 := Nat.le_trans fB.size z48
    have o31 := o31.gr q47
    have o33 := o33.gr q47
    have o35 := o35.gr q47
    have o37 := o37.gr q47
    have fB := fB.gr q47
    refine ol_val (v := .pointer (some ⟨G45, 0, none⟩)) (by exact xr_assign rfl rfl) rfl rfl rfl ?_
    refine ol_nil ?_
    refine cw_ret ?_
    repeat (first | with_reducible refine thn_r ?_ | with_reducible refine blk_r ?_)
    obtain rfl := Option.some.inj h
    refine fin_ret1 Try.results44 rfl ?_
    exact ⟨_, rfl, (.pointer (some ⟨G45, 0, none⟩)), ⟨G45, v30, v32, v34, v36, (.slice none 0 0), o31, o33, o35, o37, Own.nil _ _ _ _, a42, a43, a44, rfl, z48, b46⟩, rfl, fB⟩
end Go.Proofs.Ytklhbaghbmndeaa

/- rickyard/rickyardref05.Same: its model, and that the Go function computes it: written by gen.py. -/
set_option linter.unusedVariables false
namespace Go.Proofs.Ytklhbaghbmndeaa
open Go Go.Xw
def rickyardref05_Same.s0 (fu : Nat) (a0 : List S_api_Fate) (a1 : List S_api_Fate) : Int → Option (Sum (Sum Bool Unit) Int) := fun s2 => (if (decide (s2 < (List.length a0 : Int))) = true then (if 0 ≤ s2 ∧ s2 < (List.length a0 : Int) then (if 0 ≤ s2 ∧ s2 < (List.length a1 : Int) then (if (!decide ((ix a0 s2) = (ix a1 s2))) = true then some (Sum.inl (Sum.inl (false))) else some (Sum.inr ((IntKind.i64.wrap (s2 + 1))))) else none) else none) else some (Sum.inl (Sum.inr ())))
def rickyardref05_Same.f (fu : Nat) (a0 : List S_api_Fate) (a1 : List S_api_Fate) : Option Bool := (if (!decide ((List.length a0 : Int) = (List.length a1 : Int))) = true then some (false) else ((loopM (rickyardref05_Same.s0 fu a0 a1) fu (0)).bind fun e3 => match e3 with | Sum.inl p => some p | Sum.inr x6 => some (true)))
set_option maxRecDepth 100000 in
set_option maxHeartbeats 400000 in
theorem rickyardref05_Same.ok (fu : Nat) (w : World) (a0 : List S_api_Fate) (V0_0 : Value) (R0_0 : Rd k_api_Fate w V0_0 a0) (a1 : List S_api_Fate) (V1_0 : Value) (R1_0 : Rd k_api_Fate w V1_0 a1) (r : Bool) (h : rickyardref05_Same.f fu a0 a1 = some r) :
    Calls Try.prog 46 (([V0_0, V1_0] : List Value).toArray) w (fun e w' => ∃ v, e = .returned v ∧ v = .bool r ∧ Gr w w') := by
  unfold rickyardref05_Same.f at h
  have fB : Gr w w := Fr.refl _ _
  refine calls_cw Try.func46 rfl Try.ntmps46 rfl ?_
  refine cw_seq ?_
  refine cw_region ?_
  refine ol_val (v := .bool false) (by exact xr_assign rfl rfl) rfl rfl rfl ?_
  refine ol_nil ?_
  refine cw_seq ?_
  refine cw_seq ?_
  refine cw_region ?_
  refine ol_val (v := V0_0) (by exact xr_move rfl rfl) rfl rfl rfl ?_
  refine ol_val (v := .int .i64 (List.length a0 : Int)) (by exact xr_lenR rfl Try.underlying52 rfl (R0_0.gr fB)) rfl rfl rfl ?_
  refine ol_val (v := V1_0) (by exact xr_move rfl rfl) rfl rfl rfl ?_
  refine ol_val (v := .int .i64 (List.length a1 : Int)) (by exact xr_lenR rfl Try.underlying52 rfl (R1_0.gr fB)) rfl rfl rfl ?_
  refine ol_val (v := .bool (!decide ((List.length a0 : Int) = (List.length a1 : Int)))) (by exact xr_neI rfl Try.underlying3 rfl rfl rfl) rfl rfl rfl ?_
  refine ol_nil ?_
  rcases is h with ⟨c1, h⟩ | ⟨c1, h⟩
  · refine cw_condT rfl c1 ?_
    refine cw_seq ?_
    refine cw_region ?_
    refine ol_val (v := .bool false) (by exact xr_assign rfl rfl) rfl rfl rfl ?_
    refine ol_nil ?_
    refine cw_ret ?_
    repeat (first | with_reducible refine thn_r ?_ | with_reducible refine blk_r ?_)
    obtain rfl := Option.some.inj h
    refine fin_ret1 Try.results46 rfl ?_
    exact ⟨_, rfl, rfl, fB⟩
  · refine cw_condF rfl c1 ?_
    refine cw_skip ?_
    refine cw_seq ?_
    refine cw_seq ?_
    refine cw_region ?_
    refine ol_val (v := .int .i64 0) (by exact xr_assign rfl rfl) rfl rfl rfl ?_
    refine ol_nil ?_
    obtain ⟨e3, l4, h5⟩ := bs h
    refine cw_mid (fun ρ' w' => ∃ x6, e3 = Sum.inr x6 ∧ Gr w w') ?_ ?_
    · refine cw_block ?_
      refine cw_round (fun (s2 : Int) ρ' w' => ρ' 0 = V0_0 ∧ ρ' 1 = V1_0 ∧ ρ' 5 = .int .i64 s2 ∧ Gr w w') l4 ?_ ?_
      · skip
        exact ⟨rfl, rfl, rfl, fB⟩
      · rintro s2 x9 ρ7 w8 ⟨e0, e1, e5, fB⟩ h
        unfold rickyardref05_Same.s0 at h
        refine cw_seq ?_
        refine cw_seq ?_
        refine cw_region ?_
        refine ol_val (v := .int .i64 s2) (by exact xr_move rfl e5) rfl rfl rfl ?_
        refine ol_val (v := V0_0) (by exact xr_move rfl e0) rfl rfl rfl ?_
        refine ol_val (v := .int .i64 (List.length a0 : Int)) (by exact xr_lenR rfl Try.underlying52 rfl (R0_0.gr fB)) rfl rfl rfl ?_
        refine ol_val (v := .bool (decide (s2 < (List.length a0 : Int)))) (by exact xr_lss rfl rfl rfl) rfl rfl rfl ?_
        refine ol_nil ?_
        rcases is h with ⟨c10, h⟩ | ⟨c10, h⟩
        · refine cw_condT rfl c10 ?_
          refine cw_skip ?_
          refine cw_seq ?_
          refine cw_block ?_
          refine cw_seq ?_
          obtain ⟨g11, h⟩ := gs h
          obtain ⟨g12, h⟩ := gs h
          refine cw_drawL 8 [fun vz wz => vz = (V0_0 : Value), fun vz wz => vz = (.int .i64 s2 : Value), fun vz wz => vz = (.pointer (some ⟨(sb V0_0), so V0_0 + Int.toNat s2 * 5, none⟩) : Value), fun vz wz => vz = (aggV [Seg.cell (.int .i64 ((ix a0 s2).At)), Seg.cell (.int .u64 ((ix a0 s2).Lasts)), Seg.cell (.bool ((ix a0 s2).Flushed)), Seg.cell (.int .u64 ((ix a0 s2).Sent)), Seg.cell (.int .u64 ((ix a0 s2).Stored))] : Value), fun vz wz => vz = (V1_0 : Value), fun vz wz => vz = (.int .i64 s2 : Value), fun vz wz => vz = (.pointer (some ⟨(sb V1_0), so V1_0 + Int.toNat s2 * 5, none⟩) : Value), fun vz wz => vz = (aggV [Seg.cell (.int .i64 ((ix a1 s2).At)), Seg.cell (.int .u64 ((ix a1 s2).Lasts)), Seg.cell (.bool ((ix a1 s2).Flushed)), Seg.cell (.int .u64 ((ix a1 s2).Sent)), Seg.cell (.int .u64 ((ix a1 s2).Stored))] : Value)] mo rfl ⟨fun _ _ _ h _ => h, fun _ _ _ h _ => h, fun _ _ _ h _ => h, fun _ _ _ h _ => h, fun _ _ _ h _ => h, fun _ _ _ h _ => h, fun _ _ _ h _ => h, fun _ _ _ h _ => h, trivial⟩ ?_ ?_
          · refine ⟨?_, ?_, ?_, ?_, ?_, ?_, ?_, ?_, trivial⟩
            · intro ρz wz hz hk hd
              exact sk_val (v := V0_0) (by exact xr_move rfl ((hk 0 rfl).trans e0)) rfl rfl
            · intro ρz wz hz hk hd
              exact sk_val (v := .int .i64 s2) (by exact xr_move rfl ((hk 5 rfl).trans e5)) rfl rfl
            · intro ρz wz hz hk hd
              have d17 := hd 0 rfl 17 rfl
              have d18 := hd 1 rfl 18 rfl
              exact sk_val (by exact xr_indexR (K := k_api_Fate) (v := V0_0) rfl Try.underlying52 sz55 d17 (R0_0.gr (fB.gr hz)) d18 g11.1 g11.2) rfl rfl
            · intro ρz wz hz hk hd
              have d19 := hd 2 rfl 19 rfl
              exact sk_val (by exact xr_loadS (ss := [Seg.cell (.int .i64 ((ix a0 s2).At)), Seg.cell (.int .u64 ((ix a0 s2).Lasts)), Seg.cell (.bool ((ix a0 s2).Flushed)), Seg.cell (.int .u64 ((ix a0 s2).Sent)), Seg.cell (.int .u64 ((ix a0 s2).Stored))]) rfl ag55 sz55 rfl d19 ((R0_0.gr (fB.gr hz)).elem g11.1 g11.2)) rfl rfl
            · intro ρz wz hz hk hd
              exact sk_val (v := V1_0) (by exact xr_move rfl ((hk 1 rfl).trans e1)) rfl rfl
            · intro ρz wz hz hk hd
              exact sk_val (v := .int .i64 s2) (by exact xr_move rfl ((hk 5 rfl).trans e5)) rfl rfl
            · intro ρz wz hz hk hd
              have d21 := hd 4 rfl 21 rfl
              have d22 := hd 5 rfl 22 rfl
              exact sk_val (by exact xr_indexR (K := k_api_Fate) (v := V1_0) rfl Try.underlying52 sz55 d21 (R1_0.gr (fB.gr hz)) d22 g12.1 g12.2) rfl rfl
            · intro ρz wz hz hk hd
              have d23 := hd 6 rfl 23 rfl
              exact sk_val (by exact xr_loadS (ss := [Seg.cell (.int .i64 ((ix a1 s2).At)), Seg.cell (.int .u64 ((ix a1 s2).Lasts)), Seg.cell (.bool ((ix a1 s2).Flushed)), Seg.cell (.int .u64 ((ix a1 s2).Sent)), Seg.cell (.int .u64 ((ix a1 s2).Stored))]) rfl ag55 sz55 rfl d23 ((R1_0.gr (fB.gr hz)).elem g12.1 g12.2)) rfl rfl
          · intro ρ13 w14 q15 hk hd
            have e0 := (hk 0 rfl).trans e0
            have e1 := (hk 1 rfl).trans e1
            have e5 := (hk 5 rfl).trans e5
            have e20 := hd 3 rfl 20 rfl
            have e24 := hd 7 rfl 24 rfl
            have fB := fB.gr q15
            refine ol_val (v := .bool (!decide ((ix a0 s2) = (ix a1 s2)))) (by exact xr_neA (a := (ix a0 s2)) (b := (ix a1 s2)) rfl eqa55 rfl Try.eqGuardType54 e20 e24 rfl rfl) rfl rfl rfl ?_
            refine ol_nil ?_
            rcases is h with ⟨c16, h⟩ | ⟨c16, h⟩
            · refine cw_condT rfl c16 ?_
              refine cw_seq ?_
              refine cw_region ?_
              refine ol_val (v := .bool false) (by exact xr_assign rfl rfl) rfl rfl rfl ?_
              refine ol_nil ?_
              refine cw_ret ?_
              repeat (first | with_reducible refine thn_r ?_ | with_reducible refine blk_r ?_)
              obtain rfl := Option.some.inj h
              refine lp_ret ?_
              rintro rfl
              repeat (first | with_reducible refine thn_r ?_ | with_reducible refine blk_r ?_)
              have h := h5
              obtain rfl := Option.some.inj h
              refine fin_ret1 Try.results46 rfl ?_
              exact ⟨_, rfl, rfl, fB⟩
            · refine cw_condF rfl c16 ?_
              refine cw_skip ?_
              refine blk_i ?_
              refine cw_region ?_
              refine ol_val (v := .int .i64 s2) (by exact xr_move rfl e5) rfl rfl rfl ?_
              refine ol_val (v := .int .i64 (IntKind.i64.wrap (s2 + 1))) (by exact xr_add rfl rfl rfl) rfl rfl rfl ?_
              refine ol_val (v := .int .i64 (IntKind.i64.wrap (s2 + 1))) (by exact xr_assign rfl rfl) rfl rfl rfl ?_
              refine ol_nil ?_
              obtain rfl := Option.some.inj h
              refine lp_in ?_
              exact ⟨e0, e1, rfl, fB⟩
        · refine cw_condF rfl c10 ?_
          refine cw_exit ?_
          repeat (first | with_reducible refine thn_e ?_ | with_reducible refine blk_e rfl ?_)
          obtain rfl := Option.some.inj h
          refine lp_exit ?_
          rintro rfl
          refine thn_x ?_
          exact ⟨_, rfl, fB⟩
    · rintro ρ17 w18 ⟨x6, rfl, fB⟩
      have h := h5
      refine cw_seq ?_
      refine cw_region ?_
      refine ol_val (v := .bool true) (by exact xr_assign rfl rfl) rfl rfl rfl ?_
      refine ol_nil ?_
      refine cw_ret ?_
      repeat (first | with_reducible refine thn_r ?_ | with_reducible refine blk_r ?_)
      obtain rfl := Option.some.inj h
      refine fin_ret1 Try.results46 rfl ?_
      exact ⟨_, rfl, rfl, fB⟩
end Go.Proofs.Ytklhbaghbmndeaa

/- The document's device: it does what the program's does. -/
set_option linter.unusedVariables false
set_option linter.unusedSimpArgs false
namespace Go.Proofs.Ytklhbaghbmndeaa.Pure
open Go Go.Xw
abbrev Ref := S_rickyardref05_Device
def sentD (d : Dev) : List Int := d.cells.map fun c => c.sent
def flushedD (d : Dev) : List Bool := d.cells.map fun c => c.flushed
/-- The document's device of the same state; s: how many steps there were since the plan was laid. -/
def toM (d : Dev) (s : Int) : Ref := ⟨lastsD d, storedD d, sentD d, flushedD d, d.plan.list, s, if d.armed = true then d.left else -1, d.steps⟩
/-- Where the plan stands. -/
def Since (d : Dev) (s : Int) : Prop := d.plan.list.length ≠ 0 → d.plan.at_ = s % (d.plan.list.length : Int)
theorem set_map {α β : Type} (f : α → β) (cs : List α) (k : Nat) (v : α) : (cs.map f).set k (f v) = (cs.set k v).map f := by
  rw [List.map_set]
theorem set_same {α : Type} [Inhabited α] (l : List α) (k : Nat) (h : k < l.length) : l.set k (ix l (k : Int)) = l := by
  rw [ix_nat h]
  exact List.set_getElem_self h
theorem ix_map' {α β : Type} [Inhabited α] [Inhabited β] (f : α → β) (cs : List α) (k : Nat) (h : k < cs.length) : ix (cs.map f) (k : Int) = f (ix cs (k : Int)) := by
  rw [ix_nat (by simpa using h), ix_nat h, List.getElem_map]
theorem evict_set {cs : List Cell} {p : Int} {k : Nat} (hp : 0 ≤ p) (hk : p % (cs.length : Int) = (k : Int)) (hl : k < cs.length) : evict p cs = cs.set k (keepC (ix cs (k : Int)) (ix cs (k : Int)).stored) := by
  rw [set_upd (fun c => keepC c c.stored) hl]
  apply List.ext_getElem (by simp [evict])
  intro i h1 h2
  simp only [evict, List.getElem_mapIdx, hk]
  by_cases e : i = k
  · rw [if_pos e, if_pos ⟨hp, by omega⟩]
  · rw [if_neg e, if_neg fun z => e (by omega)]
theorem stored_keep {cs : List Cell} {k : Nat} {w : Int} (hl : k < cs.length) : (cs.set k (keepC (ix cs (k : Int)) w)).map (fun c => c.stored) = cs.map fun c => c.stored := by
  rw [List.map_set]
  have : (keepC (ix cs (k : Int)) w).stored = ix (cs.map fun c => c.stored) (k : Int) := by rw [ix_map' _ _ _ hl]; rfl
  rw [this, set_same _ _ (by simpa using hl)]
/-- One value lasts. -/
theorem rlast_eq {fu : Nat} {cs : List Cell} {k : Nat} {w : Int} {pl : List Int} {s le st : Int} (hl : k < cs.length) :
    rickyardref05_Device_last.f fu (⟨cs.map (fun c => c.lasts), cs.map (fun c => c.stored), cs.map (fun c => c.sent), cs.map (fun c => c.flushed), pl, s, le, st⟩ : Ref) (k : Int) w = some (⟨(cs.set k (keepC (ix cs (k : Int)) w)).map (fun c => c.lasts), (cs.set k (keepC (ix cs (k : Int)) w)).map (fun c => c.stored), (cs.set k (keepC (ix cs (k : Int)) w)).map (fun c => c.sent), (cs.set k (keepC (ix cs (k : Int)) w)).map (fun c => c.flushed), pl, s, le, st⟩ : Ref) := by
  unfold rickyardref05_Device_last.f
  simp only [List.length_map]
  rw [if_pos (by omega), if_pos (by omega), if_pos (by omega), Int.toNat_natCast, stored_keep hl, List.map_set, List.map_set, List.map_set]
  rfl
theorem rdstep_eq {fu n : Nat} {B s : Int} {d : Dev} (h : DevOk n B d) (hB : B < 9223372036854775807) (hs : 0 ≤ s ∧ s < 9223372036854775807) (hS : Since d s) (ho : d.off = false) : rickyardref05_Device_step.f fu (toM d s) = some (toM (tick d) (s + 1)) := by
  unfold rickyardref05_Device_step.f toM
  simp only []
  have hst := h.st
  have w1 : IntKind.i64.wrap (d.steps + 1) = d.steps + 1 := w64 (by omega) (by omega)
  have w2 : IntKind.i64.wrap (s + 1) = s + 1 := w64 (by omega) (by omega)
  have hll : (lastsD d).length = d.cells.length := by simp [lastsD]
  have hsl : (storedD d).length = d.cells.length := by simp [storedD]
  -- what is evicted
  have hA : ∀ (E : List Cell), E = evict (pick d.plan) d.cells →
      ((if (if (decide ((List.length d.plan.list : Int) > 0)) = true then (decide ((List.length (lastsD d) : Int) > 0)) else false) = true then (if (List.length d.plan.list : Int) ≠ 0 then (if 0 ≤ (Int.tmod s (List.length d.plan.list : Int)) ∧ (Int.tmod s (List.length d.plan.list : Int)) < (List.length d.plan.list : Int) then (((if (decide ((ix d.plan.list (Int.tmod s (List.length d.plan.list : Int))) ≥ 0)) = true then (if (List.length (lastsD d) : Int) ≠ 0 then (if (List.length (lastsD d) : Int) ≠ 0 then (if 0 ≤ (Int.tmod (ix d.plan.list (Int.tmod s (List.length d.plan.list : Int))) (List.length (lastsD d) : Int)) ∧ (Int.tmod (ix d.plan.list (Int.tmod s (List.length d.plan.list : Int))) (List.length (lastsD d) : Int)) < (List.length (storedD d) : Int) then ((rickyardref05_Device_last.f fu (⟨lastsD d, storedD d, sentD d, flushedD d, d.plan.list, s, if d.armed = true then d.left else -1, d.steps⟩ : Ref) (Int.tmod (ix d.plan.list (Int.tmod s (List.length d.plan.list : Int))) (List.length (lastsD d) : Int)) (ix (storedD d) (Int.tmod (ix d.plan.list (Int.tmod s (List.length d.plan.list : Int))) (List.length (lastsD d) : Int))) : Option S_rickyardref05_Device).bind fun t86 => some (t86.Lasts, t86.Stored, t86.Sent, t86.Flushed, t86.Plan, t86.Since, t86.Left, t86.Steps)) else none) else none) else none) else some (lastsD d, storedD d, sentD d, flushedD d, d.plan.list, s, (if d.armed = true then d.left else -1), d.steps)) : Option ((List Int) × (List Int) × (List Int) × (List Bool) × (List Int) × Int × Int × Int)).bind fun x53 => some (x53.1, x53.2.1, x53.2.2.1, x53.2.2.2.1, x53.2.2.2.2.1, x53.2.2.2.2.2.1, x53.2.2.2.2.2.2.1, x53.2.2.2.2.2.2.2)) else none) else none) else some (lastsD d, storedD d, sentD d, flushedD d, d.plan.list, s, (if d.armed = true then d.left else -1), d.steps)) : Option ((List Int) × (List Int) × (List Int) × (List Bool) × (List Int) × Int × Int × Int))
      = some (E.map (fun c => c.lasts), E.map (fun c => c.stored), E.map (fun c => c.sent), E.map (fun c => c.flushed), d.plan.list, s, (if d.armed = true then d.left else -1), d.steps) := by
    rintro E rfl
    by_cases z : d.plan.list.length = 0
    · have z' : ¬ ((List.length d.plan.list : Int) > 0) := by omega
      rw [decide_eq_false z', if_neg (by simp)]
      have : pick d.plan = -1 := by unfold pick; rw [if_pos z]
      rw [this, evict_no _ (by decide)]
      rfl
    · have z' : (List.length d.plan.list : Int) > 0 := by omega
      have z2 : (List.length d.plan.list : Int) ≠ 0 := by omega
      rw [decide_eq_true z', if_pos rfl]
      by_cases zc : d.cells = []
      · have : ¬ ((List.length (lastsD d) : Int) > 0) := by rw [hll, zc]; decide
        rw [decide_eq_false this, if_neg (by simp), zc, evict_nil]
        simp [lastsD, storedD, sentD, flushedD, zc]
      · have hc0 : 0 < d.cells.length := List.length_pos_iff.2 zc
        have c1 : (List.length (lastsD d) : Int) > 0 := by rw [hll]; omega
        rw [decide_eq_true c1, if_pos rfl, if_pos z2, Int.tmod_eq_emod_of_nonneg hs.1]
        have m0 := Int.emod_nonneg s z2
        have m1 := Int.emod_lt_of_pos s z'
        rw [if_pos ⟨m0, m1⟩]
        have hpk : pick d.plan = ix d.plan.list (s % (d.plan.list.length : Int)) := by
          unfold pick
          rw [if_neg z, hS z]
        rw [← hpk]
        by_cases hp : pick d.plan ≥ 0
        · rw [decide_eq_true hp, if_pos rfl, Int.tmod_eq_emod_of_nonneg hp]
          have c2 : (List.length (lastsD d) : Int) ≠ 0 := by omega
          rw [if_pos c2, if_pos c2, hll, hsl]
          have n0 := Int.emod_nonneg (pick d.plan) (show (d.cells.length : Int) ≠ 0 by omega)
          have n1 := Int.emod_lt_of_pos (pick d.plan) (show (d.cells.length : Int) > 0 by omega)
          rw [if_pos ⟨n0, n1⟩]
          obtain ⟨k, hk⟩ : ∃ k : Nat, pick d.plan % (d.cells.length : Int) = (k : Int) := ⟨(pick d.plan % (d.cells.length : Int)).toNat, by omega⟩
          have hkl : k < d.cells.length := by omega
          have e1 : ix (storedD d) (k : Int) = (ix d.cells (k : Int)).stored := ix_map' _ _ _ hkl
          rw [hk, e1, evict_set hp hk hkl]
          have := rlast_eq (fu := fu) (cs := d.cells) (w := (ix d.cells (k : Int)).stored) (pl := d.plan.list) (s := s) (le := if d.armed = true then d.left else -1) (st := d.steps) hkl
          unfold lastsD storedD sentD flushedD
          rw [this]
          rfl
        · rw [decide_eq_false hp, if_neg (by decide), evict_no _ hp]
          rfl
  rw [hA _ rfl]
  simp only [Option.bind_some, w1, w2]
  have hl : (if d.armed = true then d.left else -1) > 0 ↔ d.armed = true := by
    cases ha : d.armed
    · simp
    · have := h.arm ha
      rw [ho] at this
      have : d.left ≠ 0 := of_decide_eq_false this.2.2.symm
      simp
      omega
  have np : (nextP d.plan).list = d.plan.list := by unfold nextP; split <;> rfl
  cases ha : d.armed
  · simp [tick, lastsD, storedD, sentD, flushedD, ha, np]
  · have h3 := h.arm ha
    have : d.left > 0 := by
      have := hl.2 ha
      rwa [ha, if_pos rfl] at this
    rw [if_pos rfl, decide_eq_true this, if_pos rfl, w64 (by omega) (by omega)]
    simp [tick, lastsD, storedD, sentD, flushedD, ha, np]
theorem rerror_eq {fu n : Nat} {B s k m : Int} {d : Dev} (h : DevOk n B d) : rickyardref05_Device_error.f fu (toM d s) k m = some (mayI d.off k m) := by
  unfold rickyardref05_Device_error.f mayI toM
  have hl : (if d.armed = true then d.left else -1) = 0 ↔ d.off = true := by
    cases ha : d.armed
    · have := h.una ha
      simp [this]
    · have := (h.arm ha).2.2
      rw [this]
      simp
  simp only []
  by_cases e : d.off = true
  · rw [decide_eq_true (hl.2 e), if_pos rfl, if_pos e]
  · rw [decide_eq_false (fun q => e (hl.1 q)), if_neg (by decide), if_neg e]
    by_cases h1 : k < 0
    · simp [h1]
    · by_cases h2 : k ≥ m <;> simp [h1, h2]
theorem eta8 {m : Ref} : (⟨m.Lasts, m.Stored, m.Sent, m.Flushed, m.Plan, m.Since, m.Left, m.Steps⟩ : Ref) = m := rfl
/-- How many steps there were since the plan was laid, behind a call. -/
def inc (b : Prop) [Decidable b] (s : Int) : Int := if b then s + 1 else s
theorem with_toM (d : Dev) (cs : List Cell) (s : Int) : toM (withC d cs) s = ⟨cs.map (fun c => c.lasts), cs.map (fun c => c.stored), cs.map (fun c => c.sent), cs.map (fun c => c.flushed), d.plan.list, s, if d.armed = true then d.left else -1, d.steps⟩ := rfl
theorem rstore_eq {fu n : Nat} {B s k w : Int} {d : Dev} (h : DevOk n B d) (hB : B < 9223372036854775807) (hs : 0 ≤ s ∧ s < 9223372036854775807) (hS : Since d s) (hw : U64 w) : rickyardref05_Device_Store.f fu (toM d s) k w = some ((storeD d k w).1, toM (storeD d k w).2 (inc (mayI d.off k (d.cells.length : Int) = 0) s)) := by
  unfold rickyardref05_Device_Store.f storeD inc
  have hll : (toM d s).Lasts.length = d.cells.length := by simp [toM, lastsD]
  rw [hll, rerror_eq h]
  simp only [Option.bind_some]
  by_cases e : mayI d.off k (d.cells.length : Int) = 0
  · obtain ⟨ho, h0, h1⟩ := may_zero.1 e
    have hsl : (toM d s).Stored.length = d.cells.length := by simp [toM, storedD]
    rw [decide_eq_true e, if_pos rfl, hsl, if_pos ⟨h0, h1⟩, if_pos e, if_pos e]
    obtain ⟨j, rfl⟩ : ∃ j : Nat, k = (j : Int) := ⟨k.toNat, by omega⟩
    have hj : j < d.cells.length := by omega
    have hput : putC (j : Int) w d.cells = d.cells.set j ⟨(ix d.cells (j : Int)).lasts, w, (ix d.cells (j : Int)).sent, (ix d.cells (j : Int)).flushed⟩ := by
      rw [set_upd (fun c => ⟨c.lasts, w, c.sent, c.flushed⟩) hj]
      apply List.ext_getElem (by simp [putC])
      intro i h1 h2
      simp only [putC, List.getElem_mapIdx, Int.natCast_inj]
    have e1 : (⟨(toM d s).Lasts, (List.set (toM d s).Stored (Int.toNat (j : Int)) w), (toM d s).Sent, (toM d s).Flushed, (toM d s).Plan, (toM d s).Since, (toM d s).Left, (toM d s).Steps⟩ : Ref) = toM (withC d (putC (j : Int) w d.cells)) s := by
      rw [with_toM, hput, List.map_set, List.map_set, List.map_set, List.map_set]
      have a1 : (ix d.cells (j : Int)).lasts = ix (d.cells.map fun c => c.lasts) (j : Int) := (ix_map' _ _ _ hj).symm
      have a2 : (ix d.cells (j : Int)).sent = ix (d.cells.map fun c => c.sent) (j : Int) := (ix_map' _ _ _ hj).symm
      have a3 : (ix d.cells (j : Int)).flushed = ix (d.cells.map fun c => c.flushed) (j : Int) := (ix_map' (fun c : Cell => c.flushed) _ _ hj).symm
      simp only []
      rw [a1, a2, a3, set_same _ _ (by simpa using hj), set_same _ _ (by simpa using hj), set_same _ _ (by simpa using hj)]
      rfl
    have hok : DevOk n B (withC d (putC (j : Int) w d.cells)) := with_ok h (by simp [putC, h.len]) (mapIdx_ok h.val fun i c hc => by
      split
      · exact ⟨hc.1, hw, hc.2.2⟩
      · exact hc)
    rw [e1, rdstep_eq hok hB hs hS ho]
    simp only [Option.bind_some, e]
  · rw [decide_eq_false e, if_neg (by decide), if_neg e, if_neg e]
    rfl
theorem rload_eq {fu n : Nat} {B s k : Int} {d : Dev} (h : DevOk n B d) : rickyardref05_Device_Load.f fu (toM d s) k = some (loadD d k) := by
  unfold rickyardref05_Device_Load.f loadD
  have hll : (toM d s).Lasts.length = d.cells.length := by simp [toM, lastsD]
  have hsl : (toM d s).Stored.length = d.cells.length := by simp [toM, storedD]
  rw [hll, hsl, rerror_eq h]
  simp only [Option.bind_some]
  by_cases e : mayI d.off k (d.cells.length : Int) = 0
  · obtain ⟨ho, h0, h1⟩ := may_zero.1 e
    rw [decide_eq_true e, if_pos e, if_neg (by decide), if_pos ⟨h0, h1⟩]
    obtain ⟨j, rfl⟩ : ∃ j : Nat, k = (j : Int) := ⟨k.toNat, by omega⟩
    have : ix (toM d s).Stored (j : Int) = (ix d.cells (j : Int)).stored := ix_map' _ _ _ (by omega)
    rw [this]
  · rw [decide_eq_false e, if_neg e, if_pos (by decide)]
end Go.Proofs.Ytklhbaghbmndeaa.Pure

/- The document's device, further: flush, fence, fates, crash, any act. -/
set_option linter.unusedVariables false
set_option linter.unusedSimpArgs false
namespace Go.Proofs.Ytklhbaghbmndeaa.Pure
open Go Go.Xw
theorem sendL_lasts (k : Int) (cs : List Cell) : (sendL k cs).map (fun c => c.lasts) = cs.map fun c => c.lasts := by
  apply List.ext_getElem (by simp [sendL])
  intro i h1 h2
  simp only [sendL, List.getElem_map, List.getElem_mapIdx]
  split <;> rfl
theorem sendL_stored (k : Int) (cs : List Cell) : (sendL k cs).map (fun c => c.stored) = cs.map fun c => c.stored := by
  apply List.ext_getElem (by simp [sendL])
  intro i h1 h2
  simp only [sendL, List.getElem_map, List.getElem_mapIdx]
  split <;> rfl
theorem upd_sendL {cs : List Cell} {k : Nat} : upd (fun _ c => sendC c) (8 * k) 8 cs = sendL (k : Int) cs := by
  apply List.ext_getElem (by simp [upd, sendL])
  intro i h1 h2
  simp only [upd, sendL, List.getElem_mapIdx]
  by_cases c : 8 * k ≤ i ∧ i < 8 * k + 8
  · rw [if_pos c, if_pos (by omega)]
  · rw [if_neg c, if_neg (by omega)]
theorem rflush_eq {fu n : Nat} {B s k : Int} {d : Dev} (h : DevOk n B d) (hB : B < 9223372036854775807) (hn : n ≤ 100000) (hf : 8 < fu) (hs : 0 ≤ s ∧ s < 9223372036854775807) (hS : Since d s) : rickyardref05_Device_Flush.f fu (toM d s) k = some ((flushD d k).1, toM (flushD d k).2 (inc (mayI d.off k ((d.cells.length / 8 : Nat) : Int) = 0) s)) := by
  unfold rickyardref05_Device_Flush.f flushD inc
  have hlen := h.len
  have hll : (toM d s).Lasts.length = d.cells.length := by simp [toM, lastsD]
  have e0 : IntKind.i64.wrap (Int.tdiv (d.cells.length : Int) 8) = ((d.cells.length / 8 : Nat) : Int) := by
    rw [Int.tdiv_eq_ediv_of_nonneg (by omega), w64 (by omega) (by omega)]
    omega
  rw [hll, e0, rerror_eq h]
  simp only [Option.bind_some]
  by_cases e : mayI d.off k ((d.cells.length / 8 : Nat) : Int) = 0
  · obtain ⟨ho, h0, h1⟩ := may_zero.1 e
    rw [decide_eq_true e, if_pos rfl, if_pos e, if_pos e]
    obtain ⟨j, rfl⟩ : ∃ j : Nat, k = (j : Int) := ⟨k.toNat, by omega⟩
    have w1 : IntKind.i64.wrap (8 * (j : Int)) = ((8 * j : Nat) : Int) := by rw [w64 (by omega) (by omega)]; omega
    have w2 : IntKind.i64.wrap (((8 * j : Nat) : Int) + 8) = ((8 * j + 8 : Nat) : Int) := by rw [w64 (by omega) (by omega)]; omega
    have loop : loopM (rickyardref05_Device_Flush.s1 fu (toM d s) (j : Int)) fu (((8 * j : Nat) : Int), (toM d s).Sent, (toM d s).Flushed) = some ((sendL (j : Int) d.cells).map (fun c => c.sent), (sendL (j : Int) d.cells).map (fun c => c.flushed)) := by
      refine loopM_run (S := fun i => (((8 * j + i : Nat) : Int), (upd (fun _ c => sendC c) (8 * j) i d.cells).map (fun c => c.sent), (upd (fun _ c => sendC c) (8 * j) i d.cells).map (fun c => c.flushed))) 8 (by rw [upd_zero]; rfl) ?_ ?_ hf
      · intro i hi
        unfold rickyardref05_Device_Flush.s1
        have w3 : IntKind.i64.wrap (((8 * j + i : Nat) : Int) + 1) = ((8 * j + (i + 1) : Nat) : Int) := by rw [w64 (by omega) (by omega)]; omega
        have hsl : (toM d s).Stored.length = d.cells.length := by simp [toM, storedD]
        have e1 : ix (toM d s).Stored ((8 * j + i : Nat) : Int) = (ix d.cells ((8 * j + i : Nat) : Int)).stored := ix_map' _ _ _ (by omega)
        have hu := upd_set (fun _ c => sendC c) (8 * j) i d.cells (by omega)
        simp only [w1, w2, w3, List.length_map, upd_len, hsl, e1]
        rw [decide_eq_true (show ((8 * j + i : Nat) : Int) < ((8 * j + 8 : Nat) : Int) by omega), if_pos rfl, if_pos (by omega), if_pos (by omega), if_pos (by omega), Int.toNat_natCast, ← hu, List.map_set, List.map_set, ix_nat (by omega)]
        rfl
      · unfold rickyardref05_Device_Flush.s1
        simp only [w1, w2]
        rw [decide_eq_false (show ¬ ((8 * j + 8 : Nat) : Int) < ((8 * j + 8 : Nat) : Int) by omega), if_neg (by decide), upd_sendL]
    rw [w1, loop]
    have hok : DevOk n B (withC d (sendL (j : Int) d.cells)) := with_ok h (by simp [sendL, h.len]) (sendL_ok h.val)
    have e1 : (⟨(toM d s).Lasts, (toM d s).Stored, (sendL (j : Int) d.cells).map (fun c => c.sent), (sendL (j : Int) d.cells).map (fun c => c.flushed), (toM d s).Plan, (toM d s).Since, (toM d s).Left, (toM d s).Steps⟩ : Ref) = toM (withC d (sendL (j : Int) d.cells)) s := by
      rw [with_toM, sendL_lasts, sendL_stored]
      rfl
    simp only [Option.bind_some]
    rw [e1, rdstep_eq hok hB hs hS ho]
    simp only [Option.bind_some, e]
  · rw [decide_eq_false e, if_neg (by decide), if_neg e, if_neg e]
    rfl
def tupM (i : Int) (m : Ref) := (i, m.Lasts, m.Stored, m.Sent, m.Flushed, m.Plan, m.Since, m.Left, m.Steps)
theorem rfence_eq {fu n : Nat} {B s : Int} {d : Dev} (h : DevOk n B d) (hB : B < 9223372036854775807) (hn : n ≤ 100000) (hf : n < fu) (hs : 0 ≤ s ∧ s < 9223372036854775807) (hS : Since d s) : rickyardref05_Device_Fence.f fu (toM d s) = some ((fenceD d).1, toM (fenceD d).2 (inc (d.off = false) s)) := by
  unfold rickyardref05_Device_Fence.f fenceD inc
  have hlen := h.len
  rw [rerror_eq h]
  simp only [Option.bind_some]
  cases ho : d.off
  · have e : mayI false 0 1 = 0 := by decide
    rw [e]
    have loop : loopM (rickyardref05_Device_Fence.s1 fu) fu (tupM 0 (toM d s)) = some ((toM (withC d (d.cells.map fenceC)) s).Lasts, (toM (withC d (d.cells.map fenceC)) s).Stored, (toM (withC d (d.cells.map fenceC)) s).Sent, (toM (withC d (d.cells.map fenceC)) s).Flushed, (toM (withC d (d.cells.map fenceC)) s).Plan, (toM (withC d (d.cells.map fenceC)) s).Since, (toM (withC d (d.cells.map fenceC)) s).Left, (toM (withC d (d.cells.map fenceC)) s).Steps) := by
      refine loopM_run (S := fun i => tupM (i : Int) (toM (withC d (upd (fun _ c => fenceC c) 0 i d.cells)) s)) d.cells.length (by rw [upd_zero]; rfl) ?_ ?_ (by omega)
      · intro j hj
        have hlt : j < (upd (fun _ c => fenceC c) 0 j d.cells).length := by rw [upd_len]; omega
        have hnx : ix (upd (fun _ c => fenceC c) 0 j d.cells) (j : Int) = d.cells[j] := by
          rw [ix_nat hlt, upd_get, if_neg (by omega)]
        have hu := upd_set (fun _ c => fenceC c) 0 j d.cells (by omega)
        have hsm := upd_same (fun _ c => fenceC c) 0 j d.cells (by omega)
        simp only [Nat.zero_add] at hu hsm
        have hl := rlast_eq (fu := fu) (cs := upd (fun _ c => fenceC c) 0 j d.cells) (w := d.cells[j].sent) (pl := d.plan.list) (s := s) (le := if d.armed = true then d.left else -1) (st := d.steps) hlt
        rw [hnx] at hl
        have e1 : ix ((upd (fun _ c => fenceC c) 0 j d.cells).map fun c => c.flushed) (j : Int) = d.cells[j].flushed := by rw [ix_map' (fun c : Cell => c.flushed) _ _ hlt, hnx]
        have e2 : ix ((upd (fun _ c => fenceC c) 0 j d.cells).map fun c => c.sent) (j : Int) = d.cells[j].sent := by rw [ix_map' _ _ _ hlt, hnx]
        unfold rickyardref05_Device_Fence.s1 tupM
        rw [with_toM, with_toM]
        generalize hU : upd (fun _ c => fenceC c) 0 j d.cells = U at *
        have hUl : U.length = d.cells.length := by rw [← hU, upd_len]
        simp only [List.length_map, e1, e2, hUl]
        rw [decide_eq_true (show (j : Int) < (d.cells.length : Int) by omega), if_pos rfl, if_pos (by omega), next64 hj (by omega)]
        cases hfl : d.cells[j].flushed
        · have : fenceC d.cells[j] = d.cells[j] := by simp [fenceC, hfl]
          rw [← hsm this]
          simp only [Bool.false_eq_true, if_false, Option.bind_some]
        · have : fenceC d.cells[j] = keepC d.cells[j] d.cells[j].sent := by simp [fenceC, hfl]
          rw [this] at hu
          rw [if_pos rfl, if_pos (by omega), hl, ← hu]
          rfl
      · unfold rickyardref05_Device_Fence.s1 tupM
        have hLL : (toM (withC d (upd (fun _ c => fenceC c) 0 d.cells.length d.cells)) s).Lasts.length = d.cells.length := by simp [toM, lastsD, withC, upd_len]
        simp only [hLL]
        rw [decide_eq_false (show ¬ ((d.cells.length : Int) < (d.cells.length : Int)) by omega), if_neg (by decide), upd_all]
        have : (d.cells.mapIdx fun _ c => fenceC c) = d.cells.map fenceC := by
          apply List.ext_getElem (by simp)
          intro i h1 h2
          simp
        rw [this]
    unfold tupM at loop
    rw [decide_eq_true rfl, if_pos rfl, loop]
    have hok : DevOk n B (withC d (d.cells.map fenceC)) := with_ok h (by simp [h.len]) (fun c hc => by
        obtain ⟨x, hx, rfl⟩ := List.mem_map.1 hc
        exact fence_okC (h.val x hx))
    simp only [Option.bind_some, eta8]
    rw [rdstep_eq hok hB hs hS ho]
    rfl
  · have e : mayI true 0 1 = 3 := by decide
    rw [e]
    rfl
theorem rarm_eq {fu n : Nat} {B s k : Int} {d : Dev} (h : DevOk n B d) : rickyardref05_Device_Arm.f fu (toM d s) k = some (toM (armD d k) s) := by
  unfold rickyardref05_Device_Arm.f
  have hl : (toM d s).Left = 0 ↔ d.off = true := by
    show (if d.armed = true then d.left else -1) = 0 ↔ _
    cases ha : d.armed
    · have := h.una ha
      simp [this]
    · have := (h.arm ha).2.2
      rw [this]
      simp
  unfold armD
  by_cases e : d.off = true
  · rw [decide_eq_true (hl.2 e), if_neg (by decide), if_pos e]
    rfl
  · rw [decide_eq_false (fun q => e (hl.1 q)), if_pos (by decide), if_neg e]
    have hm : mxI k (-1) = if decide (k ≥ 0) = true then k else -1 := by
      unfold mxI
      by_cases hk : k ≥ 0
      · rw [decide_eq_true hk]
        split <;> simp <;> omega
      · rw [decide_eq_false hk]
        split <;> simp <;> omega
    rw [hm]
    rfl
theorem rlay_eq' {fu : Nat} {s : Int} {d : Dev} {l : List Int} (hl : l.length ≤ 1000000) : rickyardref05_Device_Lay.f fu (toM d s) l = some (toM (planD d l) 0) := by
  unfold rickyardref05_Device_Lay.f
  rw [if_pos (by rw [List.length_nil]; exact Nat.le_trans (by omega : _ ≤ 1000000) (by decide))]
  rfl
theorem rfates_eq {fu n : Nat} {B s : Int} {d : Dev} (h : DevOk n B d) (hn : n ≤ 100000) (hf : n < fu) : rickyardref05_Device_Fates.f fu (toM d s) = some (fatesD d) := by
  unfold rickyardref05_Device_Fates.f
  have hl := h.len
  have hl1 : (toM d s).Lasts.length = d.cells.length := by simp [toM, lastsD]
  have hl2 : (toM d s).Stored.length = d.cells.length := by simp [toM, storedD]
  have hl3 : (toM d s).Sent.length = d.cells.length := by simp [toM, sentD]
  have hl4 : (toM d s).Flushed.length = d.cells.length := by simp [toM, flushedD]
  have : loopM (rickyardref05_Device_Fates.s0 fu (toM d s)) fu ([], 0) = some (fatesD d) := by
    refine loopM_run (S := fun j => (fatesU d j, (j : Int))) d.cells.length (by simp [fatesU]) ?_ ?_ (by omega)
    · intro j hj
      unfold rickyardref05_Device_Fates.s0
      have w3 : IntKind.i64.wrap ((j : Int) + 1) = ((j + 1 : Nat) : Int) := next64 hj (by omega)
      have c1 : 0 ≤ (j : Int) ∧ (j : Int) < (d.cells.length : Int) := by omega
      have hle := fatesU_le d j
      have a1 : ix (toM d s).Lasts (j : Int) = (ix d.cells (j : Int)).lasts := ix_map' _ _ _ hj
      have a2 : ix (toM d s).Stored (j : Int) = (ix d.cells (j : Int)).stored := ix_map' _ _ _ hj
      have a3 : ix (toM d s).Sent (j : Int) = (ix d.cells (j : Int)).sent := ix_map' _ _ _ hj
      have a4 : ix (toM d s).Flushed (j : Int) = (ix d.cells (j : Int)).flushed := ix_map' (fun c : Cell => c.flushed) _ _ hj
      simp only [w3, hl1, hl2, hl3, hl4, a1, a2, a3, a4]
      rw [decide_eq_true c1.2, if_pos rfl, if_pos c1, if_pos c1, if_pos c1, if_pos c1, if_pos c1, if_pos c1, if_pos c1, fatesU_succ]
      have hx : (if (ix d.cells (j : Int)).flushed = true then some true else some (!decide ((ix d.cells (j : Int)).stored = (ix d.cells (j : Int)).lasts))) = some (openC (ix d.cells (j : Int))) := by
        unfold openC
        cases (ix d.cells (j : Int)).flushed <;> rfl
      rw [hx]
      simp only [Option.bind_some]
      cases ho : openC (ix d.cells (j : Int))
      · simp
      · have hlim : (fatesU d j).length + List.length [(⟨(j : Int), (ix d.cells (j : Int)).lasts, (ix d.cells (j : Int)).flushed, (ix d.cells (j : Int)).sent, (ix d.cells (j : Int)).stored⟩ : S_api_Fate)] ≤ LIM := by
          simp only [List.length_cons, List.length_nil]
          exact Nat.le_trans (by omega : _ ≤ 100001) (by decide)
        rw [if_pos rfl, if_pos hlim]
        rfl
    · unfold rickyardref05_Device_Fates.s0
      simp only [hl1]
      rw [decide_eq_false (show ¬ ((d.cells.length : Int) < (d.cells.length : Int)) by omega), if_neg (by decide)]
      rfl
  rw [this]
  rfl
theorem rcrash_eq {fu n : Nat} {B s : Int} {d : Dev} {l : List Int} (h : DevOk n B d) (hn : n ≤ 100000) (hli : ∀ x ∈ l, I64 x) (hf : n < fu) : rickyardref05_Device_Crash.f fu (toM d s) l = some (toM (crashD d l) 0) := by
  unfold rickyardref05_Device_Crash.f
  have hl := h.len
  rw [rfates_eq h hn hf]
  have hfl : (fatesD d).length ≤ n := by
    have := fatesU_le d d.cells.length
    unfold fatesD
    omega
  simp only [Option.bind_some]
  have loop : ∃ e, loopM (rickyardref05_Device_Crash.s0 fu l (fatesD d)) fu (tupM 0 (toM d s)) = some e ∧ ∃ cs : List Cell, e = ((toM (withC d cs) s).Lasts, (toM (withC d cs) s).Stored, (toM (withC d cs) s).Sent, (toM (withC d cs) s).Flushed, (toM (withC d cs) s).Plan, (toM (withC d cs) s).Since, (toM (withC d cs) s).Left, (toM (withC d cs) s).Steps) ∧ cs.length = d.cells.length ∧ ∀ p : Nat, p < d.cells.length → ix cs (p : Int) = if openC (ix d.cells (p : Int)) = true then keepC (ix d.cells (p : Int)) (fateC (ix d.cells (p : Int)) (l.getD (opens d.cells p) 0)) else ix d.cells (p : Int) := by
    refine loopM_inv (fun j z => ∃ cs : List Cell, z = tupM (j : Int) (toM (withC d cs) s) ∧ cs.length = d.cells.length ∧ ∀ p : Nat, p < d.cells.length → ix cs (p : Int) = if openC (ix d.cells (p : Int)) = true ∧ opens d.cells p < j then keepC (ix d.cells (p : Int)) (fateC (ix d.cells (p : Int)) (l.getD (opens d.cells p) 0)) else ix d.cells (p : Int)) (fatesD d).length _ ?_ ?_ (j := 0) ⟨d.cells, rfl, rfl, fun p hp => ?_⟩ (by omega) (by omega)
    · rintro j _ hj ⟨cs, rfl, hcl, hcp⟩
      obtain ⟨p, hp, ho, hop, hfa⟩ := fates_at d d.cells.length (Nat.le_refl _) j hj
      have hfa' : ix (fatesD d) (j : Int) = fateD d p := hfa
      have c1 : 0 ≤ (j : Int) ∧ (j : Int) < ((fatesD d).length : Int) := by omega
      have hx : (if (decide ((j : Int) < (List.length l : Int))) = true then (if 0 ≤ (j : Int) ∧ (j : Int) < (List.length l : Int) then some ((ix l (j : Int))) else none) else some (0)) = some (l.getD j 0) := by
        by_cases hjl : j < l.length
        · rw [decide_eq_true (show (j : Int) < (l.length : Int) by omega), if_pos rfl, if_pos ⟨by omega, by omega⟩, ix_nat hjl, getD_of _ _ _ hjl]
        · rw [decide_eq_false (show ¬ (j : Int) < (l.length : Int) by omega), if_neg (by decide), List.getD_eq_getElem?_getD, List.getElem?_eq_none (by omega)]
          rfl
      have hval : rickyardref05_Value.f fu (fateD d p) (l.getD j 0) = some (fateC (ix d.cells (p : Int)) (l.getD j 0)) := value_fate (getD_I64 hli j)
      have hlast := rlast_eq (fu := fu) (cs := cs) (k := p) (w := fateC (ix d.cells (p : Int)) (l.getD j 0)) (pl := d.plan.list) (s := s) (le := if d.armed = true then d.left else -1) (st := d.steps) (by omega)
      have hcp' : ix cs (p : Int) = ix d.cells (p : Int) := by rw [hcp p hp, if_neg (fun q => by omega)]
      have a1 : (fateD d p).At = (p : Int) := rfl
      rw [hcp'] at hlast
      unfold rickyardref05_Device_Crash.s0 tupM
      simp only [hx, hfa', a1, eta8]
      rw [decide_eq_true c1.2, if_pos rfl]
      simp only [Option.bind_some]
      rw [if_pos c1, if_pos c1, hval]
      simp only [Option.bind_some]
      rw [with_toM, hlast, next64 hj (by omega)]
      refine ⟨_, rfl, cs.set p (keepC (ix d.cells (p : Int)) (fateC (ix d.cells (p : Int)) (l.getD j 0))), rfl, by rw [List.length_set]; exact hcl, fun q hq => ?_⟩
      by_cases e : q = p
      · subst e
        rw [ix_nat (by rw [List.length_set]; omega), List.getElem_set_self, if_pos ⟨ho, by omega⟩, hop]
      · rw [ix_nat (by rw [List.length_set]; omega), List.getElem_set_ne (fun z => e z.symm), ← ix_nat (l := cs) (by omega), hcp q hq]
        by_cases hoq : openC (ix d.cells (q : Int)) = true
        · have : opens d.cells q ≠ j := fun z => e (opens_inj hq hp hoq ho (by omega))
          by_cases hlt : opens d.cells q < j
          · rw [if_pos ⟨hoq, hlt⟩, if_pos ⟨hoq, by omega⟩]
          · rw [if_neg fun z => hlt z.2, if_neg fun z => by omega]
        · rw [if_neg fun z => hoq z.1, if_neg fun z => hoq z.1]
    · rintro _ ⟨cs, rfl, hcl, hcp⟩
      unfold rickyardref05_Device_Crash.s0 tupM
      rw [decide_eq_false (show ¬ (((fatesD d).length : Int) < ((fatesD d).length : Int)) by omega), if_neg (by decide)]
      refine ⟨_, rfl, cs, rfl, hcl, fun p hp => ?_⟩
      rw [hcp p hp]
      cases hoq : openC (ix d.cells (p : Int))
      · simp
      · have hlt := opens_lt (cs := d.cells) (p := p) (q := d.cells.length) (by omega) (Nat.le_refl _) hoq
        have hfl2 : (fatesD d).length = opens d.cells d.cells.length := fates_len d _ (Nat.le_refl _)
        rw [if_pos ⟨rfl, by omega⟩, if_pos rfl]
    · rw [if_neg fun z => by omega]
  obtain ⟨e, h1, cs, rfl, hcl, hcp⟩ := loop
  unfold tupM at h1
  rw [h1]
  simp only [Option.bind_some]
  have loop2 : loopM (rickyardref05_Device_Crash.s1 fu ((toM (withC d cs) s).Lasts, (toM (withC d cs) s).Stored, (toM (withC d cs) s).Sent, (toM (withC d cs) s).Flushed, (toM (withC d cs) s).Plan, (toM (withC d cs) s).Since, (toM (withC d cs) s).Left, (toM (withC d cs) s).Steps)) fu (0, (toM (withC d cs) s).Stored) = some (toM (withC d cs) s).Lasts := by
    have q1 : (toM (withC d cs) s).Lasts.length = d.cells.length := by simp [toM, lastsD, withC, hcl]
    have q2 : (toM (withC d cs) s).Stored.length = d.cells.length := by simp [toM, storedD, withC, hcl]
    generalize (toM (withC d cs) s).Lasts = LA at *
    generalize (toM (withC d cs) s).Stored = SA at *
    refine loopM_run (S := fun j => ((j : Int), upd (fun i _ => ix LA (i : Int)) 0 j SA)) d.cells.length (by rw [upd_zero]; rfl) ?_ ?_ (by omega)
    · intro j hj
      unfold rickyardref05_Device_Crash.s1
      have hu := upd_set (fun i _ => ix LA (i : Int)) 0 j SA (by omega)
      simp only [Nat.zero_add] at hu
      simp only [q1, upd_len, q2]
      rw [decide_eq_true (show (j : Int) < (d.cells.length : Int) by omega), if_pos rfl, if_pos (by omega), if_pos (by omega), next64 hj (by omega), Int.toNat_natCast, hu]
    · unfold rickyardref05_Device_Crash.s1
      simp only [q1]
      rw [decide_eq_false (show ¬ ((d.cells.length : Int) < (d.cells.length : Int)) by omega), if_neg (by decide)]
      refine congrArg (fun z => some (Sum.inl z)) ?_
      apply List.ext_getElem (by rw [upd_len]; omega)
      intro i h1 h2
      rw [upd_get, if_pos (by omega), ix_nat h2]
  rw [loop2]
  simp only [Option.bind_some]
  have hc : ∀ p (h1 : p < (crashD d l).cells.length), (crashD d l).cells[p] = crashC (ix d.cells (p : Int)) (l.getD (opens d.cells p) 0) := by
    intro p h1
    have hp : p < d.cells.length := by simpa [crashD, crashL] using h1
    rw [← ix_nat h1, crash_get hp]
  have hcl2 : (crashD d l).cells.length = d.cells.length := by simp [crashD, crashL]
  have x1 : cs.map (fun c => c.lasts) = lastsD (crashD d l) := by
    unfold lastsD
    apply List.ext_getElem (by simp [hcl, hcl2])
    intro p h1 h2
    have hp : p < d.cells.length := by simpa [hcl] using h1
    rw [List.getElem_map, List.getElem_map, ← ix_nat (l := cs) (by omega), hcp p hp, hc]
    unfold crashC
    split <;> rfl
  have x2 : cs.map (fun c => c.sent) = sentD (crashD d l) := by
    unfold sentD
    apply List.ext_getElem (by simp [hcl, hcl2])
    intro p h1 h2
    have hp : p < d.cells.length := by simpa [hcl] using h1
    rw [List.getElem_map, List.getElem_map, ← ix_nat (l := cs) (by omega), hcp p hp, hc]
    unfold crashC
    split <;> rfl
  have x3 : cs.map (fun c => c.flushed) = flushedD (crashD d l) := by
    unfold flushedD
    apply List.ext_getElem (by simp [hcl, hcl2])
    intro p h1 h2
    have hp : p < d.cells.length := by simpa [hcl] using h1
    rw [List.getElem_map, List.getElem_map, ← ix_nat (l := cs) (by omega), hcp p hp, hc]
    unfold crashC
    split <;> rfl
  rw [with_toM]
  simp only []
  rw [x1, x2, x3]
  show some (⟨lastsD (crashD d l), lastsD (crashD d l), sentD (crashD d l), flushedD (crashD d l), [], 0, -1, d.steps⟩ : Ref) = some ⟨lastsD (crashD d l), storedD (crashD d l), sentD (crashD d l), flushedD (crashD d l), [], 0, -1, d.steps⟩
  rw [crash_view]
/-- How many steps there were since the plan was laid, behind an act. -/
def since (d : Dev) (a : S_rickyardlaw05_Act) (s : Int) : Int :=
  if a.Kind % 7 = 0 then inc (mayI d.off a.At (d.cells.length : Int) = 0) s
  else if a.Kind % 7 = 2 then inc (mayI d.off a.At ((d.cells.length / 8 : Nat) : Int) = 0) s
  else if a.Kind % 7 = 3 then inc (d.off = false) s
  else if a.Kind % 7 = 5 ∨ a.Kind % 7 = 6 then 0
  else s
theorem refs_eq {fu n : Nat} {B s : Int} {d : Dev} {a : S_rickyardlaw05_Act} (h : DevOk n B d) (hB : B < 9223372036854775807) (hn : n ≤ 100000) (ha : okA a) (hf : n + 8 < fu) (hs : 0 ≤ s ∧ s < 9223372036854775807) (hS : Since d s) : rickyardlaw05_Refs.f fu (toM d s) a = some ((doD d a).1.1, (doD d a).1.2, toM (doD d a).2 (since d a s)) := by
  obtain ⟨hk, hat, hw, hL, hl⟩ := ha
  unfold rickyardlaw05_Refs.f doD since
  rw [rest7_eq hk (by decide), rstore_eq h hB hs hS hw, rload_eq h, rflush_eq h hB hn (by omega) hs hS, rfence_eq h hB hn (by omega) hs hS, rarm_eq h, rlay_eq' (by omega), rcrash_eq h hn hL (by omega)]
  simp only [Option.bind_some]
  have hr : 0 ≤ a.Kind % 7 ∧ a.Kind % 7 < 7 := by omega
  generalize a.Kind % 7 = r at *
  have : r = 0 ∨ r = 1 ∨ r = 2 ∨ r = 3 ∨ r = 4 ∨ r = 5 ∨ r = 6 := by omega
  rcases this with rfl | rfl | rfl | rfl | rfl | rfl | rfl
  · rfl
  · rfl
  · rfl
  · rfl
  · have e1 : (armD d a.At).cells = d.cells ∧ (armD d a.At).plan = d.plan := by
      unfold armD
      split <;> exact ⟨rfl, rfl⟩
    simp [toM, lastsD, storedD, sentD, flushedD, e1.1, e1.2]
  · rfl
  · rfl
end Go.Proofs.Ytklhbaghbmndeaa.Pure

/- The document's device: where the plan stands; lists of fates that are alike. -/
set_option linter.unusedVariables false
set_option linter.unusedSimpArgs false
namespace Go.Proofs.Ytklhbaghbmndeaa.Pure
open Go Go.Xw
theorem since_tick {d : Dev} {cs : List Cell} {s : Int} (h : Since d s) : Since (tick (withC d cs)) (s + 1) := by
  have hl : (tick (withC d cs)).plan.list = d.plan.list := by
    show (nextP d.plan).list = _
    unfold nextP
    split <;> rfl
  intro e
  rw [hl] at e
  rw [hl]
  show (nextP d.plan).at_ = _
  unfold nextP
  rw [if_neg e]
  show (d.plan.at_ + 1) % (d.plan.list.length : Int) = _
  rw [h e]
  exact Int.emod_add_emod _ _ _
theorem since_do {d : Dev} {a : S_rickyardlaw05_Act} {s : Int} (h : Since d s) : Since (doD d a).2 (since d a s) := by
  have hr : 0 ≤ a.Kind % 7 ∧ a.Kind % 7 < 7 := by omega
  unfold doD since
  generalize a.Kind % 7 = r at *
  have : r = 0 ∨ r = 1 ∨ r = 2 ∨ r = 3 ∨ r = 4 ∨ r = 5 ∨ r = 6 := by omega
  rcases this with rfl | rfl | rfl | rfl | rfl | rfl | rfl
  · show Since (storeD d a.At a.W).2 (inc (mayI d.off a.At (d.cells.length : Int) = 0) s)
    unfold storeD inc
    split
    · exact since_tick h
    · exact h
  · exact h
  · show Since (flushD d a.At).2 (inc (mayI d.off a.At ((d.cells.length / 8 : Nat) : Int) = 0) s)
    unfold flushD inc
    split
    · exact since_tick h
    · exact h
  · show Since (fenceD d).2 (inc (d.off = false) s)
    unfold fenceD inc
    cases ho : d.off
    · exact since_tick h
    · exact h
  · show Since (armD d a.At) s
    unfold armD
    split
    · exact h
    · exact h
  · show Since (planD d a.L) 0
    intro _
    show (0 : Int) = 0 % _
    simp
  · show Since (crashD d a.L) 0
    intro e
    exact absurd rfl e
theorem since_le {d : Dev} {a : S_rickyardlaw05_Act} {s : Int} (h : 0 ≤ s) : 0 ≤ since d a s ∧ since d a s ≤ s + 1 := by
  have hi : ∀ (b : Prop) [Decidable b], 0 ≤ inc b s ∧ inc b s ≤ s + 1 := by
    intro b _
    unfold inc
    split <;> omega
  unfold since
  split
  · exact hi _
  split
  · exact hi _
  split
  · exact hi _
  split <;> omega
theorem rnew_eq {fu : Nat} {k : Nat} (hk : k ≤ 4096) : rickyardref05_New.f fu (k : Int) = some (toM (newD (8 * k)) 0) := by
  unfold rickyardref05_New.f
  have w : IntKind.i64.wrap (8 * (k : Int)) = ((8 * k : Nat) : Int) := by rw [w64 (by omega) (by omega)]; omega
  have c : 0 ≤ ((8 * k : Nat) : Int) ∧ 8 * k ≤ LIM := ⟨by omega, Nat.le_trans (by omega : _ ≤ 100000) (by decide)⟩
  rw [w, Int.toNat_natCast, if_pos c, if_pos c, if_pos c, if_pos c]
  simp [toM, newD, lastsD, storedD, sentD, flushedD]
theorem same_eq {fu : Nat} {l : List S_api_Fate} (hl : l.length ≤ 100000) (hf : l.length < fu) : rickyardref05_Same.f fu l l = some true := by
  unfold rickyardref05_Same.f
  rw [decide_eq_true rfl, if_neg (by decide)]
  have : loopM (rickyardref05_Same.s0 fu l l) fu 0 = some (.inr ()) := by
    refine loopM_run (S := fun j => (j : Int)) l.length rfl (fun j hj => ?_) ?_ hf
    · unfold rickyardref05_Same.s0
      rw [decide_eq_true (show (j : Int) < (l.length : Int) by omega), if_pos rfl, if_pos (by omega), if_pos (by omega), decide_eq_true rfl, if_neg (by decide), next64 hj hl]
    · unfold rickyardref05_Same.s0
      rw [decide_eq_false (show ¬ ((l.length : Int) < (l.length : Int)) by omega), if_neg (by decide)]
  rw [this]
  rfl
end Go.Proofs.Ytklhbaghbmndeaa.Pure

/- rickyard/rickyardref06.Count: its model, and that the Go function computes it: written by gen.py. -/
set_option linter.unusedVariables false
namespace Go.Proofs.Ytklhbaghbmndeaa
open Go Go.Xw
def rickyardref06_Count.s0 (fu : Nat) (t1 : (List S_api_Fate)) : (Int × Int) → Option (Sum Int (Int × Int)) := fun s8 => (if (decide (s8.2 < (List.length t1 : Int))) = true then (if 0 ≤ s8.2 ∧ s8.2 < (List.length t1 : Int) then ((rickyardref06_Values.f fu (ix t1 s8.2) : Option (List Int)).bind fun t17 => (((if (decide ((IntKind.i64.wrap (s8.1 * (List.length t17 : Int))) > 1099511627776)) = true then some (1099511627776) else some ((IntKind.i64.wrap (s8.1 * (List.length t17 : Int))))) : Option Int).bind fun x24 => some (Sum.inr (x24, (IntKind.i64.wrap (s8.2 + 1)))))) else none) else some (Sum.inl (s8.1)))
def rickyardref06_Count.f (fu : Nat) (a0 : S_rickyardref05_Device) : Option Int := ((rickyardref05_Device_Fates.f fu a0 : Option (List S_api_Fate)).bind fun t1 => ((loopM (rickyardref06_Count.s0 fu t1) fu (1, 0)).bind fun e9 => some (e9)))
set_option maxRecDepth 100000 in
set_option maxHeartbeats 400000 in
theorem rickyardref06_Count.ok (fu : Nat) (w : World) (a0 : S_rickyardref05_Device) (G_0 : Nat) (V0_0 : Value) (R0_0 : Rd (kI .u64) w V0_0 a0.Lasts) (V0_1 : Value) (R0_1 : Rd (kI .u64) w V0_1 a0.Stored) (V0_2 : Value) (R0_2 : Rd (kI .u64) w V0_2 a0.Sent) (V0_3 : Value) (R0_3 : Rd kB w V0_3 a0.Flushed) (V0_4 : Value) (R0_4 : Rd (kI .i64) w V0_4 a0.Plan) (b_0 : Blk w G_0 65 [Seg.cell V0_0 R0_0.one, Seg.cell V0_1 R0_1.one, Seg.cell V0_2 R0_2.one, Seg.cell V0_3 R0_3.one, Seg.cell V0_4 R0_4.one, Seg.cell (.int .i64 a0.Since), Seg.cell (.int .i64 a0.Left), Seg.cell (.int .i64 a0.Steps)]) (r : Int) (h : rickyardref06_Count.f fu a0 = some r) :
    Calls Try.prog 62 (([.pointer (some ⟨G_0, 0, none⟩)] : List Value).toArray) w (fun e w' => ∃ v, e = .returned v ∧ v = .int .i64 r ∧ Gr w w') := by
  unfold rickyardref06_Count.f at h
  have fB : Gr w w := Fr.refl _ _
  refine calls_cw Try.func62 rfl Try.ntmps62 rfl ?_
  refine cw_seq ?_
  refine cw_region ?_
  refine ol_val (v := .int .i64 0) (by exact xr_assign rfl rfl) rfl rfl rfl ?_
  refine ol_nil ?_
  refine cw_seq ?_
  refine cw_region ?_
  refine ol_val (v := .pointer (some ⟨G_0, 0, none⟩)) (by exact xr_move rfl rfl) rfl rfl rfl ?_
  obtain ⟨t1, k2, h⟩ := bs h
  refine ol_op (by exact opv_call rfl cal47 (ac rfl an) (rickyardref05_Device_Fates.ok fu _ a0 G_0 V0_0 (R0_0.gr fB) V0_1 (R0_1.gr fB) V0_2 (R0_2.gr fB) V0_3 (R0_3.gr fB) V0_4 (R0_4.gr fB) b_0 _ k2)) rfl rfl rfl ?_
  rintro u3 w7 ⟨_, o4, rfl, q6⟩
  have o4 := Own.base o4 fB.size
  have b_0 := b_0.gr q6
  have fB := fB.gr q6
  refine ol_val (v := u3) (by exact xr_assign rfl rfl) rfl rfl rfl ?_
  refine ol_nil ?_
  refine cw_seq ?_
  refine cw_region ?_
  refine ol_val (v := .int .i64 1) (by exact xr_assign rfl rfl) rfl rfl rfl ?_
  refine ol_nil ?_
  refine cw_seq ?_
  refine cw_seq ?_
  refine cw_region ?_
  refine ol_val (v := .int .i64 0) (by exact xr_assign rfl rfl) rfl rfl rfl ?_
  refine ol_nil ?_
  obtain ⟨e9, l10, h11⟩ := bs h
  refine cw_mid (fun ρ' w' => ρ' 4 = .int .i64 e9 ∧ Blk w' G_0 65 [Seg.cell V0_0 R0_0.one, Seg.cell V0_1 R0_1.one, Seg.cell V0_2 R0_2.one, Seg.cell V0_3 R0_3.one, Seg.cell V0_4 R0_4.one, Seg.cell (.int .i64 a0.Since), Seg.cell (.int .i64 a0.Left), Seg.cell (.int .i64 a0.Steps)] ∧ Gr w w') ?_ ?_
  · refine cw_block ?_
    refine cw_round (fun (s8 : Int × Int) ρ' w' => ∃ o4 : Own k_api_Fate 55 w' w.heap.size u3 t1, ρ' 3 = u3 ∧ ρ' 4 = .int .i64 s8.1 ∧ ρ' 5 = .int .i64 s8.2 ∧ Blk w' G_0 65 [Seg.cell V0_0 R0_0.one, Seg.cell V0_1 R0_1.one, Seg.cell V0_2 R0_2.one, Seg.cell V0_3 R0_3.one, Seg.cell V0_4 R0_4.one, Seg.cell (.int .i64 a0.Since), Seg.cell (.int .i64 a0.Left), Seg.cell (.int .i64 a0.Steps)] ∧ Gr w w') l10 ?_ ?_
    · skip
      exact ⟨o4, rfl, rfl, rfl, b_0, fB⟩
    · rintro s8 x14 ρ12 w13 ⟨o4, e3, e4, e5, b_0, fB⟩ h
      unfold rickyardref06_Count.s0 at h
      refine cw_seq ?_
      refine cw_seq ?_
      refine cw_region ?_
      refine ol_val (v := .int .i64 s8.2) (by exact xr_move rfl e5) rfl rfl rfl ?_
      refine ol_val (v := u3) (by exact xr_move rfl e3) rfl rfl rfl ?_
      refine ol_val (v := .int .i64 (List.length t1 : Int)) (by exact xr_lenR rfl Try.underlying52 rfl o4.rd) rfl rfl rfl ?_
      refine ol_val (v := .bool (decide (s8.2 < (List.length t1 : Int)))) (by exact xr_lss rfl rfl rfl) rfl rfl rfl ?_
      refine ol_nil ?_
      rcases is h with ⟨c15, h⟩ | ⟨c15, h⟩
      · refine cw_condT rfl c15 ?_
        refine cw_skip ?_
        refine cw_seq ?_
        refine cw_block ?_
        refine cw_seq ?_
        refine cw_region ?_
        refine ol_val (v := .int .i64 s8.1) (by exact xr_move rfl e4) rfl rfl rfl ?_
        refine ol_val (v := u3) (by exact xr_move rfl e3) rfl rfl rfl ?_
        refine ol_val (v := .int .i64 s8.2) (by exact xr_move rfl e5) rfl rfl rfl ?_
        obtain ⟨g16, h⟩ := gs h
        refine ol_val (v := .pointer (some ⟨(sb u3), so u3 + Int.toNat s8.2 * 5, none⟩)) (by exact xr_indexR (K := k_api_Fate) (v := u3) rfl Try.underlying52 sz55 rfl o4.rd rfl g16.1 g16.2) rfl rfl rfl ?_
        refine ol_val (v := aggV [Seg.cell (.int .i64 ((ix t1 s8.2).At)), Seg.cell (.int .u64 ((ix t1 s8.2).Lasts)), Seg.cell (.bool ((ix t1 s8.2).Flushed)), Seg.cell (.int .u64 ((ix t1 s8.2).Sent)), Seg.cell (.int .u64 ((ix t1 s8.2).Stored))]) (by exact xr_loadS (ss := [Seg.cell (.int .i64 ((ix t1 s8.2).At)), Seg.cell (.int .u64 ((ix t1 s8.2).Lasts)), Seg.cell (.bool ((ix t1 s8.2).Flushed)), Seg.cell (.int .u64 ((ix t1 s8.2).Sent)), Seg.cell (.int .u64 ((ix t1 s8.2).Stored))]) rfl ag55 sz55 rfl rfl (o4.rd.elem g16.1 g16.2)) rfl rfl rfl ?_
        obtain ⟨t17, k18, h⟩ := bs h
        refine ol_op (by exact opv_call rfl cal51 (ac rfl an) (rickyardref06_Values.ok fu _ (ix t1 s8.2) _ k18)) rfl rfl rfl ?_
        rintro u19 w23 ⟨_, o20, rfl, q22⟩
        have o20 := Own.base o20 fB.size
        have b_0 := b_0.gr q22
        have o4 := o4.gr q22
        have fB := fB.gr q22
        refine ol_val (v := .int .i64 (List.length t17 : Int)) (by exact xr_lenR rfl Try.underlying46 rfl o20.rd) rfl rfl rfl ?_
        refine ol_val (v := .int .i64 (IntKind.i64.wrap (s8.1 * (List.length t17 : Int)))) (by exact xr_mul rfl rfl rfl) rfl rfl rfl ?_
        refine ol_val (v := .int .i64 (IntKind.i64.wrap (s8.1 * (List.length t17 : Int)))) (by exact xr_assign rfl rfl) rfl rfl rfl ?_
        refine ol_nil ?_
        refine cw_seq ?_
        refine cw_region ?_
        refine ol_val (v := .int .i64 (IntKind.i64.wrap (s8.1 * (List.length t17 : Int)))) (by exact xr_move rfl rfl) rfl rfl rfl ?_
        refine ol_val (v := .bool (decide ((IntKind.i64.wrap (s8.1 * (List.length t17 : Int))) > 1099511627776))) (by exact xr_gtr rfl rfl rfl) rfl rfl rfl ?_
        refine ol_nil ?_
        obtain ⟨x24, j25, h26⟩ := bs h
        refine cw_mid (fun ρ' w' => ∃ o4 : Own k_api_Fate 55 w' w.heap.size u3 t1, ρ' 3 = u3 ∧ ρ' 4 = .int .i64 x24 ∧ ρ' 5 = .int .i64 s8.2 ∧ Blk w' G_0 65 [Seg.cell V0_0 R0_0.one, Seg.cell V0_1 R0_1.one, Seg.cell V0_2 R0_2.one, Seg.cell V0_3 R0_3.one, Seg.cell V0_4 R0_4.one, Seg.cell (.int .i64 a0.Since), Seg.cell (.int .i64 a0.Left), Seg.cell (.int .i64 a0.Steps)] ∧ Gr w w') ?_ ?_
        · have h := j25
          rcases is h with ⟨c27, h⟩ | ⟨c27, h⟩
          · refine cw_condT rfl c27 ?_
            refine cw_region ?_
            refine ol_val (v := .int .i64 1099511627776) (by exact xr_assign rfl rfl) rfl rfl rfl ?_
            refine ol_nil ?_
            obtain rfl := Option.some.inj h
            refine thn_i ?_
            exact ⟨o4, e3, rfl, e5, b_0, fB⟩
          · refine cw_condF rfl c27 ?_
            refine cw_skip ?_
            obtain rfl := Option.some.inj h
            refine thn_i ?_
            exact ⟨o4, e3, rfl, e5, b_0, fB⟩
        · rintro ρ28 w29 ⟨o4, e3, e4, e5, b_0, fB⟩
          have h := h26
          refine blk_i ?_
          refine cw_region ?_
          refine ol_val (v := .int .i64 s8.2) (by exact xr_move rfl e5) rfl rfl rfl ?_
          refine ol_val (v := .int .i64 (IntKind.i64.wrap (s8.2 + 1))) (by exact xr_add rfl rfl rfl) rfl rfl rfl ?_
          refine ol_val (v := .int .i64 (IntKind.i64.wrap (s8.2 + 1))) (by exact xr_assign rfl rfl) rfl rfl rfl ?_
          refine ol_nil ?_
          obtain rfl := Option.some.inj h
          refine lp_in ?_
          exact ⟨o4, e3, e4, rfl, b_0, fB⟩
      · refine cw_condF rfl c15 ?_
        refine cw_exit ?_
        repeat (first | with_reducible refine thn_e ?_ | with_reducible refine blk_e rfl ?_)
        obtain rfl := Option.some.inj h
        refine lp_exit ?_
        rintro rfl
        refine thn_x ?_
        exact ⟨e4, b_0, fB⟩
  · rintro ρ30 w31 ⟨e4, b_0, fB⟩
    have h := h11
    refine cw_seq ?_
    refine cw_region ?_
    refine ol_val (v := .int .i64 e9) (by exact xr_move rfl e4) rfl rfl rfl ?_
    refine ol_val (v := .int .i64 e9) (by exact xr_assign rfl rfl) rfl rfl rfl ?_
    refine ol_nil ?_
    refine cw_ret ?_
    repeat (first | with_reducible refine thn_r ?_ | with_reducible refine blk_r ?_)
    obtain rfl := Option.some.inj h
    refine fin_ret1 Try.results62 rfl ?_
    exact ⟨_, rfl, rfl, fB⟩
end Go.Proofs.Ytklhbaghbmndeaa

/- rickyard/rickyardlaw06.made: its model, and that the Go function computes it: written by gen.py. -/
set_option linter.unusedVariables false
namespace Go.Proofs.Ytklhbaghbmndeaa
open Go Go.Xw
def rickyardlaw06_made.s0 (fu : Nat) (a1 : List S_rickyardlaw05_Act) : (Int × (List S_pmem_cell) × (List Int) × Int × Bool × Bool × Int × Int × (List Int) × (List Int) × (List Int) × (List Bool) × (List Int) × Int × Int × Int) → Option (Sum ((List S_pmem_cell) × (List Int) × Int × Bool × Bool × Int × Int × (List Int) × (List Int) × (List Int) × (List Bool) × (List Int) × Int × Int × Int) (Int × (List S_pmem_cell) × (List Int) × Int × Bool × Bool × Int × Int × (List Int) × (List Int) × (List Int) × (List Bool) × (List Int) × Int × Int × Int)) := fun s64 => (if (decide (s64.1 < (List.length a1 : Int))) = true then (if 0 ≤ s64.1 ∧ s64.1 < (List.length a1 : Int) then ((rickyardlaw05_Do.f fu (⟨s64.2.1, (⟨s64.2.2.1, s64.2.2.2.1⟩ : S_pmem_plan), s64.2.2.2.2.1, s64.2.2.2.2.2.1, s64.2.2.2.2.2.2.1, s64.2.2.2.2.2.2.2.1⟩ : S_pmem_Device) (ix a1 s64.1) : Option (Int × Int × S_pmem_Device)).bind fun t123 => (if 0 ≤ s64.1 ∧ s64.1 < (List.length a1 : Int) then ((rickyardlaw05_Refs.f fu (⟨s64.2.2.2.2.2.2.2.2.1, s64.2.2.2.2.2.2.2.2.2.1, s64.2.2.2.2.2.2.2.2.2.2.1, s64.2.2.2.2.2.2.2.2.2.2.2.1, s64.2.2.2.2.2.2.2.2.2.2.2.2.1, s64.2.2.2.2.2.2.2.2.2.2.2.2.2.1, s64.2.2.2.2.2.2.2.2.2.2.2.2.2.2.1, s64.2.2.2.2.2.2.2.2.2.2.2.2.2.2.2⟩ : S_rickyardref05_Device) (ix a1 s64.1) : Option (Int × Int × S_rickyardref05_Device)).bind fun t144 => some (Sum.inr ((IntKind.i64.wrap (s64.1 + 1)), t123.2.2.cells, t123.2.2.plan.list, t123.2.2.plan.at_, t123.2.2.off, t123.2.2.armed, t123.2.2.left, t123.2.2.steps, t144.2.2.Lasts, t144.2.2.Stored, t144.2.2.Sent, t144.2.2.Flushed, t144.2.2.Plan, t144.2.2.Since, t144.2.2.Left, t144.2.2.Steps))) else none)) else none) else some (Sum.inl (s64.2.1, s64.2.2.1, s64.2.2.2.1, s64.2.2.2.2.1, s64.2.2.2.2.2.1, s64.2.2.2.2.2.2.1, s64.2.2.2.2.2.2.2.1, s64.2.2.2.2.2.2.2.2.1, s64.2.2.2.2.2.2.2.2.2.1, s64.2.2.2.2.2.2.2.2.2.2.1, s64.2.2.2.2.2.2.2.2.2.2.2.1, s64.2.2.2.2.2.2.2.2.2.2.2.2.1, s64.2.2.2.2.2.2.2.2.2.2.2.2.2.1, s64.2.2.2.2.2.2.2.2.2.2.2.2.2.2.1, s64.2.2.2.2.2.2.2.2.2.2.2.2.2.2.2)))
def rickyardlaw06_made.f (fu : Nat) (a0 : Int) (a1 : List S_rickyardlaw05_Act) : Option ((Option S_pmem_Device) × (Option S_rickyardref05_Device)) := ((pmem_New.f fu (Int.tmod (IntKind.i64.wrap a0) 4) : Option ((Option S_pmem_Device) × Int)).bind fun t5 => (Option.elim t5.1 (some (none, none)) (fun m12 => ((((rickyardlaw05_Small.f fu a1 40 : Option Bool).bind fun t26 => some ((!t26))) : Option Bool).bind fun x24 => (if x24 = true then some (none, none) else ((rickyardref05_New.f fu (Int.tmod (IntKind.i64.wrap a0) 4) : Option S_rickyardref05_Device).bind fun t34 => ((loopM (rickyardlaw06_made.s0 fu a1) fu (0, m12.cells, m12.plan.list, m12.plan.at_, m12.off, m12.armed, m12.left, m12.steps, t34.Lasts, t34.Stored, t34.Sent, t34.Flushed, t34.Plan, t34.Since, t34.Left, t34.Steps)).bind fun e65 => some ((some (⟨e65.1, (⟨e65.2.1, e65.2.2.1⟩ : S_pmem_plan), e65.2.2.2.1, e65.2.2.2.2.1, e65.2.2.2.2.2.1, e65.2.2.2.2.2.2.1⟩ : S_pmem_Device)), (some (⟨e65.2.2.2.2.2.2.2.1, e65.2.2.2.2.2.2.2.2.1, e65.2.2.2.2.2.2.2.2.2.1, e65.2.2.2.2.2.2.2.2.2.2.1, e65.2.2.2.2.2.2.2.2.2.2.2.1, e65.2.2.2.2.2.2.2.2.2.2.2.2.1, e65.2.2.2.2.2.2.2.2.2.2.2.2.2.1, e65.2.2.2.2.2.2.2.2.2.2.2.2.2.2⟩ : S_rickyardref05_Device))))))))))
set_option maxRecDepth 100000 in
set_option maxHeartbeats 400000 in
theorem rickyardlaw06_made.ok (fu : Nat) (w : World) (a0 : Int) (a1 : List S_rickyardlaw05_Act) (V1_0 : Value) (R1_0 : RdN 4 D_rickyardlaw05_Act w V1_0 a1) (r : (Option S_pmem_Device) × (Option S_rickyardref05_Device)) (h : rickyardlaw06_made.f fu a0 a1 = some r) :
    Calls Try.prog 60 (([.int .u8 a0, V1_0] : List Value).toArray) w (fun e w' => ∃ v, e = .returned v ∧ ∃ u1 : Value, ∃ u3 : Value, ∃ p2 : (r.1 = none → u1 = .pointer none) ∧ ∀ m9, r.1 = some m9 → ∃ G9 : Nat, ∃ U0 : Value, ∃ U1 : Value, ∃ O0 : Own k_pmem_cell 142 w' w.heap.size U0 m9.cells, ∃ O1 : Own (kI .i64) 3 w' w.heap.size U1 m9.plan.list, u1 = .pointer (some ⟨G9, 0, none⟩) ∧ w.heap.size ≤ G9 ∧ Blk w' G9 139 [Seg.cell U0 O0.one, Seg.cell U1 O1.one, Seg.cell (.int .i64 m9.plan.at_), Seg.cell (.bool m9.off), Seg.cell (.bool m9.armed), Seg.cell (.int .i64 m9.left), Seg.cell (.int .i64 m9.steps)], ∃ p4 : (r.2 = none → u3 = .pointer none) ∧ ∀ m9, r.2 = some m9 → ∃ G9 : Nat, ∃ U0 : Value, ∃ U1 : Value, ∃ U2 : Value, ∃ U3 : Value, ∃ U4 : Value, ∃ O0 : Own (kI .u64) 22 w' w.heap.size U0 m9.Lasts, ∃ O1 : Own (kI .u64) 22 w' w.heap.size U1 m9.Stored, ∃ O2 : Own (kI .u64) 22 w' w.heap.size U2 m9.Sent, ∃ O3 : Own kB 4 w' w.heap.size U3 m9.Flushed, ∃ O4 : Own (kI .i64) 3 w' w.heap.size U4 m9.Plan, ∃ A0_1 : OffV U0 U1, ∃ A0_2 : OffV U0 U2, ∃ A1_2 : OffV U1 U2, u3 = .pointer (some ⟨G9, 0, none⟩) ∧ w.heap.size ≤ G9 ∧ Blk w' G9 65 [Seg.cell U0 O0.one, Seg.cell U1 O1.one, Seg.cell U2 O2.one, Seg.cell U3 O3.one, Seg.cell U4 O4.one, Seg.cell (.int .i64 m9.Since), Seg.cell (.int .i64 m9.Left), Seg.cell (.int .i64 m9.Steps)], v = .tuple #[u1, u3] ∧ Gr w w') := by
  unfold rickyardlaw06_made.f at h
  have fB : Gr w w := Fr.refl _ _
  refine calls_cw Try.func60 rfl Try.ntmps60 rfl ?_
  refine cw_seq ?_
  refine cw_region ?_
  refine ol_val (v := .pointer none) (by exact xr_assign rfl rfl) rfl rfl rfl ?_
  refine ol_val (v := .pointer none) (by exact xr_assign rfl rfl) rfl rfl rfl ?_
  refine ol_nil ?_
  refine cw_seq ?_
  refine cw_region ?_
  refine ol_val (v := .int .u8 a0) (by exact xr_move rfl rfl) rfl rfl rfl ?_
  refine ol_val (v := .int .i64 (IntKind.i64.wrap a0)) (by exact xr_conv rfl Try.underlying5 Try.underlying3 rfl) rfl rfl rfl ?_
  refine ol_val (v := .int .i64 (Int.tmod (IntKind.i64.wrap a0) 4)) (by exact xr_rem rfl rfl rfl (by decide)) rfl rfl rfl ?_
  refine ol_val (v := .int .i64 (Int.tmod (IntKind.i64.wrap a0) 4)) (by exact xr_assign rfl rfl) rfl rfl rfl ?_
  refine ol_nil ?_
  refine cw_seq ?_
  refine cw_region ?_
  refine ol_val (v := .int .i64 (Int.tmod (IntKind.i64.wrap a0) 4)) (by exact xr_move rfl rfl) rfl rfl rfl ?_
  obtain ⟨t5, k6, h⟩ := bs h
  refine ol_op (by exact opv_call rfl cal26 (ac rfl an) (pmem_New.ok fu _ (Int.tmod (IntKind.i64.wrap a0) 4) _ k6)) rfl rfl rfl ?_
  rintro _ w10 ⟨u7, p8, rfl, q9⟩
  rcases en h with ⟨e11, h⟩ | ⟨m12, e11, h⟩
  · obtain rfl := p8.1 e11
    have fB := fB.gr q9
    refine ol_val (v := .tuple #[.pointer none, .int .i64 t5.2]) (by exact xr_move rfl rfl) rfl rfl rfl ?_
    refine ol_val (v := .pointer none) (by exact xr_extract rfl rfl rfl) rfl rfl rfl ?_
    refine ol_val (v := .int .i64 t5.2) (by exact xr_extract rfl rfl rfl) rfl rfl rfl ?_
    refine ol_val (v := .pointer none) (by exact xr_assign rfl rfl) rfl rfl rfl ?_
    refine ol_val (v := .int .i64 t5.2) (by exact xr_assign rfl rfl) rfl rfl rfl ?_
    refine ol_nil ?_
    refine cw_seq ?_
    refine cw_seq ?_
    refine cw_mid (fun ρ' w' => ρ' 1 = V1_0 ∧ ρ' 6 = .int .i64 (Int.tmod (IntKind.i64.wrap a0) 4) ∧ ρ' 7 = .pointer none ∧ ρ' 25 = .bool true ∧ w10 = w') ?_ ?_
    · skip
      refine cw_region ?_
      refine ol_val (v := .pointer none) (by exact xr_move rfl rfl) rfl rfl rfl ?_
      refine ol_val (v := .bool true) (by exact xr_eqP (b := true) rfl Try.underlying30 rfl rfl (by simp) (by simp)) rfl rfl rfl ?_
      refine ol_val (v := .bool true) (by exact xr_move rfl rfl) rfl rfl rfl ?_
      refine ol_gskip rfl rfl rfl rfl rfl rfl ?_
      refine ol_gskip rfl rfl rfl rfl rfl rfl ?_
      refine ol_gskip rfl rfl rfl rfl rfl rfl ?_
      refine ol_val (v := .bool true) (by exact xr_pickT rfl rfl rfl rfl) rfl rfl rfl ?_
      refine ol_nil ?_
      refine thn_i ?_
      exact ⟨rfl, rfl, rfl, rfl, rfl⟩
    · skip
      rintro ρ13 _ ⟨e1, e6, e7, e25, rfl⟩
      refine cw_condT e25 rfl ?_
      refine cw_seq ?_
      refine cw_region ?_
      refine ol_val (v := .pointer none) (by exact xr_assign rfl rfl) rfl rfl rfl ?_
      refine ol_val (v := .pointer none) (by exact xr_assign rfl rfl) rfl rfl rfl ?_
      refine ol_nil ?_
      refine cw_ret ?_
      repeat (first | with_reducible refine thn_r ?_ | with_reducible refine blk_r ?_)
      obtain rfl := Option.some.inj h
      refine fin_ret2 Try.results60 rfl rfl ?_
      exact ⟨_, rfl, (.pointer none), (.pointer none), ⟨(fun _ => rfl), (fun _ e => by cases e)⟩, ⟨(fun _ => rfl), (fun _ e => by cases e)⟩, rfl, fB⟩
  · skip
    obtain ⟨G14, u18, u21, o19, o22, rfl, z15, b16⟩ := p8.2 _ e11
    have o19 := Own.base o19 fB.size
    have o22 := Own.base o22 fB.size
    have z15 := Nat.le_trans fB.size z15
    have fB := fB.gr q9
    refine ol_val (v := .tuple #[.pointer (some ⟨G14, 0, none⟩), .int .i64 t5.2]) (by exact xr_move rfl rfl) rfl rfl rfl ?_
    refine ol_val (v := .pointer (some ⟨G14, 0, none⟩)) (by exact xr_extract rfl rfl rfl) rfl rfl rfl ?_
    refine ol_val (v := .int .i64 t5.2) (by exact xr_extract rfl rfl rfl) rfl rfl rfl ?_
    refine ol_val (v := .pointer (some ⟨G14, 0, none⟩)) (by exact xr_assign rfl rfl) rfl rfl rfl ?_
    refine ol_val (v := .int .i64 t5.2) (by exact xr_assign rfl rfl) rfl rfl rfl ?_
    refine ol_nil ?_
    refine cw_seq ?_
    refine cw_seq ?_
    obtain ⟨x24, j25, h⟩ := bs h
    refine cw_mid (fun ρ' w' => ρ' 1 = V1_0 ∧ ρ' 6 = .int .i64 (Int.tmod (IntKind.i64.wrap a0) 4) ∧ ρ' 7 = .pointer (some ⟨G14, 0, none⟩) ∧ ρ' 25 = .bool x24 ∧ Gr w10 w') ?_ ?_
    · skip
      refine cw_region ?_
      refine ol_val (v := .pointer (some ⟨G14, 0, none⟩)) (by exact xr_move rfl rfl) rfl rfl rfl ?_
      refine ol_val (v := .bool false) (by exact xr_eqP (b := false) rfl Try.underlying30 rfl rfl (by simp) (by simp)) rfl rfl rfl ?_
      refine ol_val (v := .bool false) (by exact xr_move rfl rfl) rfl rfl rfl ?_
      refine ol_gval (v := V1_0) (by exact xr_move rfl rfl) rfl rfl rfl rfl rfl rfl ?_
      obtain ⟨t26, k27, j25⟩ := bs j25
      refine ol_gop (by exact opv_call rfl cal25 (ac rfl (ac rfl an)) (rickyardlaw05_Small.ok fu _ a1 V1_0 (RdN.gr R1_0 D_rickyardlaw05_Act.gr fB) 40 _ k27)) rfl rfl rfl rfl rfl rfl ?_
      rintro _ w29 ⟨rfl, q28⟩
      have b16 := b16.gr q28
      have o19 := o19.gr q28
      have o22 := o22.gr q28
      have fB := fB.gr q28
      refine ol_gval (v := .bool (!t26)) (by exact xr_not rfl rfl) rfl rfl rfl rfl rfl rfl ?_
      refine ol_val (v := .bool (!t26)) (by exact xr_pickF rfl rfl rfl rfl) rfl rfl rfl ?_
      refine ol_nil ?_
      obtain rfl := Option.some.inj j25
      refine thn_i ?_
      exact ⟨rfl, rfl, rfl, rfl, q28⟩
    · skip
      rintro ρ30 w31 ⟨e1, e6, e7, e25, q32⟩
      have b16 := b16.gr q32
      have o19 := o19.gr q32
      have o22 := o22.gr q32
      have fB := fB.gr q32
      rcases is h with ⟨c33, h⟩ | ⟨c33, h⟩
      · refine cw_condT e25 c33 ?_
        refine cw_seq ?_
        refine cw_region ?_
        refine ol_val (v := .pointer none) (by exact xr_assign rfl rfl) rfl rfl rfl ?_
        refine ol_val (v := .pointer none) (by exact xr_assign rfl rfl) rfl rfl rfl ?_
        refine ol_nil ?_
        refine cw_ret ?_
        repeat (first | with_reducible refine thn_r ?_ | with_reducible refine blk_r ?_)
        obtain rfl := Option.some.inj h
        refine fin_ret2 Try.results60 rfl rfl ?_
        exact ⟨_, rfl, (.pointer none), (.pointer none), ⟨(fun _ => rfl), (fun _ e => by cases e)⟩, ⟨(fun _ => rfl), (fun _ e => by cases e)⟩, rfl, fB⟩
      · refine cw_condF e25 c33 ?_
        refine cw_skip ?_
        refine cw_seq ?_
        refine cw_region ?_
        refine ol_val (v := .int .i64 (Int.tmod (IntKind.i64.wrap a0) 4)) (by exact xr_move rfl e6) rfl rfl rfl ?_
        obtain ⟨t34, k35, h⟩ := bs h
        refine ol_op (by exact opv_call rfl cal44 (ac rfl an) (rickyardref05_New.ok fu _ (Int.tmod (IntKind.i64.wrap a0) 4) _ k35)) rfl rfl rfl ?_
        rintro u36 w39 ⟨_, p37, rfl, q38⟩
        obtain ⟨G40, u44, u47, u50, u53, u56, o45, o48, o51, o54, o57, a59, a60, a61, rfl, z41, b42⟩ := p37
        have a62 := OffV.call o22 o57
        have o45 := Own.base o45 fB.size
        have o48 := Own.base o48 fB.size
        have o51 := Own.base o51 fB.size
        have o54 := Own.base o54 fB.size
        have o57 := Own.base o57 fB.size
        have n63 := b16.ne z41
        have z41 := Nat.le_trans fB.size z41
        have b16 := b16.gr q38
        have o19 := o19.gr q38
        have o22 := o22.gr q38
        have fB := fB.gr q38
        refine ol_val (v := .pointer (some ⟨G40, 0, none⟩)) (by exact xr_assign rfl rfl) rfl rfl rfl ?_
        refine ol_nil ?_
        refine cw_seq ?_
        refine cw_seq ?_
        refine cw_region ?_
        refine ol_val (v := .int .i64 0) (by exact xr_assign rfl rfl) rfl rfl rfl ?_
        refine ol_nil ?_
        obtain ⟨e65, l66, h67⟩ := bs h
        refine cw_mid (fun ρ' w' => ∃ v68 : Value, ∃ v71 : Value, ∃ v74 : Value, ∃ v77 : Value, ∃ v80 : Value, ∃ v83 : Value, ∃ v86 : Value, ∃ o69 : Own k_pmem_cell 142 w' w.heap.size v68 e65.1, ∃ o72 : Own (kI .i64) 3 w' w.heap.size v71 e65.2.1, ∃ o75 : Own (kI .u64) 22 w' w.heap.size v74 e65.2.2.2.2.2.2.2.1, ∃ o78 : Own (kI .u64) 22 w' w.heap.size v77 e65.2.2.2.2.2.2.2.2.1, ∃ o81 : Own (kI .u64) 22 w' w.heap.size v80 e65.2.2.2.2.2.2.2.2.2.1, ∃ o84 : Own kB 4 w' w.heap.size v83 e65.2.2.2.2.2.2.2.2.2.2.1, ∃ o87 : Own (kI .i64) 3 w' w.heap.size v86 e65.2.2.2.2.2.2.2.2.2.2.2.1, OffV v71 v86 ∧ OffV v74 v77 ∧ OffV v74 v80 ∧ OffV v77 v80 ∧ ρ' 7 = .pointer (some ⟨G14, 0, none⟩) ∧ ρ' 9 = .pointer (some ⟨G40, 0, none⟩) ∧ Blk w' G14 139 [Seg.cell v68 o69.one, Seg.cell v71 o72.one, Seg.cell (.int .i64 e65.2.2.1), Seg.cell (.bool e65.2.2.2.1), Seg.cell (.bool e65.2.2.2.2.1), Seg.cell (.int .i64 e65.2.2.2.2.2.1), Seg.cell (.int .i64 e65.2.2.2.2.2.2.1)] ∧ Blk w' G40 65 [Seg.cell v74 o75.one, Seg.cell v77 o78.one, Seg.cell v80 o81.one, Seg.cell v83 o84.one, Seg.cell v86 o87.one, Seg.cell (.int .i64 e65.2.2.2.2.2.2.2.2.2.2.2.2.1), Seg.cell (.int .i64 e65.2.2.2.2.2.2.2.2.2.2.2.2.2.1), Seg.cell (.int .i64 e65.2.2.2.2.2.2.2.2.2.2.2.2.2.2)] ∧ Gr w w') ?_ ?_
        · refine cw_block ?_
          refine cw_round (fun (s64 : Int × (List S_pmem_cell) × (List Int) × Int × Bool × Bool × Int × Int × (List Int) × (List Int) × (List Int) × (List Bool) × (List Int) × Int × Int × Int) ρ' w' => ∃ v93 : Value, ∃ v96 : Value, ∃ v99 : Value, ∃ v102 : Value, ∃ v105 : Value, ∃ v108 : Value, ∃ v111 : Value, ∃ o94 : Own k_pmem_cell 142 w' w.heap.size v93 s64.2.1, ∃ o97 : Own (kI .i64) 3 w' w.heap.size v96 s64.2.2.1, ∃ o100 : Own (kI .u64) 22 w' w.heap.size v99 s64.2.2.2.2.2.2.2.2.1, ∃ o103 : Own (kI .u64) 22 w' w.heap.size v102 s64.2.2.2.2.2.2.2.2.2.1, ∃ o106 : Own (kI .u64) 22 w' w.heap.size v105 s64.2.2.2.2.2.2.2.2.2.2.1, ∃ o109 : Own kB 4 w' w.heap.size v108 s64.2.2.2.2.2.2.2.2.2.2.2.1, ∃ o112 : Own (kI .i64) 3 w' w.heap.size v111 s64.2.2.2.2.2.2.2.2.2.2.2.2.1, OffV v96 v111 ∧ OffV v99 v102 ∧ OffV v99 v105 ∧ OffV v102 v105 ∧ ρ' 1 = V1_0 ∧ ρ' 7 = .pointer (some ⟨G14, 0, none⟩) ∧ ρ' 9 = .pointer (some ⟨G40, 0, none⟩) ∧ ρ' 10 = .int .i64 s64.1 ∧ Blk w' G14 139 [Seg.cell v93 o94.one, Seg.cell v96 o97.one, Seg.cell (.int .i64 s64.2.2.2.1), Seg.cell (.bool s64.2.2.2.2.1), Seg.cell (.bool s64.2.2.2.2.2.1), Seg.cell (.int .i64 s64.2.2.2.2.2.2.1), Seg.cell (.int .i64 s64.2.2.2.2.2.2.2.1)] ∧ Blk w' G40 65 [Seg.cell v99 o100.one, Seg.cell v102 o103.one, Seg.cell v105 o106.one, Seg.cell v108 o109.one, Seg.cell v111 o112.one, Seg.cell (.int .i64 s64.2.2.2.2.2.2.2.2.2.2.2.2.2.1), Seg.cell (.int .i64 s64.2.2.2.2.2.2.2.2.2.2.2.2.2.2.1), Seg.cell (.int .i64 s64.2.2.2.2.2.2.2.2.2.2.2.2.2.2.2)] ∧ Gr w w') l66 ?_ ?_
          · skip
            exact ⟨u18, u21, u44, u47, u50, u53, u56, o19, o22, o45, o48, o51, o54, o57, a62, a59, a60, a61, e1, e7, rfl, rfl, b16, b42, fB⟩
          · rintro s64 x120 ρ118 w119 ⟨v93, v96, v99, v102, v105, v108, v111, o94, o97, o100, o103, o106, o109, o112, a114, a115, a116, a117, e1, e7, e9, e10, b16, b42, fB⟩ h
            unfold rickyardlaw06_made.s0 at h
            refine cw_seq ?_
            refine cw_seq ?_
            refine cw_region ?_
            refine ol_val (v := .int .i64 s64.1) (by exact xr_move rfl e10) rfl rfl rfl ?_
            refine ol_val (v := V1_0) (by exact xr_move rfl e1) rfl rfl rfl ?_
            refine ol_val (v := .int .i64 (List.length a1 : Int)) (by exact xr_lenN rfl Try.underlying24 rfl (RdN.gr R1_0 D_rickyardlaw05_Act.gr fB)) rfl rfl rfl ?_
            refine ol_val (v := .bool (decide (s64.1 < (List.length a1 : Int)))) (by exact xr_lss rfl rfl rfl) rfl rfl rfl ?_
            refine ol_nil ?_
            rcases is h with ⟨c121, h⟩ | ⟨c121, h⟩
            · refine cw_condT rfl c121 ?_
              refine cw_skip ?_
              refine cw_seq ?_
              refine cw_block ?_
              refine cw_seq ?_
              refine cw_region ?_
              refine ol_val (v := .pointer (some ⟨G14, 0, none⟩)) (by exact xr_move rfl e7) rfl rfl rfl ?_
              refine ol_val (v := V1_0) (by exact xr_move rfl e1) rfl rfl rfl ?_
              refine ol_val (v := .int .i64 s64.1) (by exact xr_move rfl e10) rfl rfl rfl ?_
              obtain ⟨g122, h⟩ := gs h
              refine ol_val (v := .pointer (some ⟨(sb V1_0), so V1_0 + Int.toNat s64.1 * 4, none⟩)) (by exact xr_indexN (v := V1_0) rfl Try.underlying24 sz39 rfl (RdN.gr R1_0 D_rickyardlaw05_Act.gr fB) rfl g122.1 g122.2) rfl rfl rfl ?_
              refine ol_val (v := aggV [Seg.cell (.int .i64 ((ix a1 s64.1).Kind)), Seg.cell (.int .i64 ((ix a1 s64.1).At)), Seg.cell (.int .u64 ((ix a1 s64.1).W)), Seg.cell (cellAt w (sb V1_0) (so V1_0 + Int.toNat s64.1 * 4 + 3)) (N_rickyardlaw05_Act R1_0 g122.1 g122.2).2.one]) (by exact xr_loadS (ss := [Seg.cell (.int .i64 ((ix a1 s64.1).Kind)), Seg.cell (.int .i64 ((ix a1 s64.1).At)), Seg.cell (.int .u64 ((ix a1 s64.1).W)), Seg.cell (cellAt w (sb V1_0) (so V1_0 + Int.toNat s64.1 * 4 + 3)) (N_rickyardlaw05_Act R1_0 g122.1 g122.2).2.one]) rfl ag39 sz39 rfl rfl (At.gr (N_rickyardlaw05_Act R1_0 g122.1 g122.2).1 fB)) rfl rfl rfl ?_
              obtain ⟨t123, k124, h⟩ := bs h
              have f134 := (nb_or n63.symm (nb_or (nb_off (off_ty b42 o94 (by decide))) (nb_off (off_ty b42 o97 (by decide)))))
              have f135 := (vo_or (vo_eq (off_ty b16 o100 (by decide))) (vo_or (vo_own (OffV.ty o100 o94 (by decide))) (vo_own (OffV.ty o100 o97 (by decide)))))
              have f136 := (vo_or (vo_eq (off_ty b16 o103 (by decide))) (vo_or (vo_own (OffV.ty o103 o94 (by decide))) (vo_own (OffV.ty o103 o97 (by decide)))))
              have f137 := (vo_or (vo_eq (off_ty b16 o106 (by decide))) (vo_or (vo_own (OffV.ty o106 o94 (by decide))) (vo_own (OffV.ty o106 o97 (by decide)))))
              have f138 := (vo_or (vo_eq (off_ty b16 o109 (by decide))) (vo_or (vo_own (OffV.ty o109 o94 (by decide))) (vo_own (OffV.ty o109 o97 (by decide)))))
              have f139 := (vo_or (vo_eq (off_ty b16 o112 (by decide))) (vo_or (vo_own (OffV.ty o112 o94 (by decide))) (vo_own a114.symm)))
              have c140 : ∀ k, (k = G14 ∨ some k = Value.ownBlock v93 ∨ some k = Value.ownBlock v96) → w.heap.size ≤ k := (cv_or (cv_eq z15) (cv_or (cv_own o94.geO) (cv_own o97.geO)))
              refine ol_op (by exact opv_call rfl cal31 (ac rfl (ac rfl an)) (rickyardlaw05_Do.ok fu _ (⟨s64.2.1, (⟨s64.2.2.1, s64.2.2.2.1⟩ : S_pmem_plan), s64.2.2.2.2.1, s64.2.2.2.2.2.1, s64.2.2.2.2.2.2.1, s64.2.2.2.2.2.2.2.1⟩ : S_pmem_Device) G14 v93 (Own.base o94 (Nat.zero_le _)) v96 (Own.base o97 (Nat.zero_le _)) b16 (ix a1 s64.1) (cellAt w (sb V1_0) (so V1_0 + Int.toNat s64.1 * 4 + 3)) ((N_rickyardlaw05_Act R1_0 g122.1 g122.2).2.gr fB) (OffR.new (N_rickyardlaw05_Act R1_0 g122.1 g122.2).2 z15 rfl) (OffRV.call (N_rickyardlaw05_Act R1_0 g122.1 g122.2).2 o94 rfl) (OffRV.call (N_rickyardlaw05_Act R1_0 g122.1 g122.2).2 o97 rfl) _ k124)) rfl rfl rfl ?_
              rintro _ w141 ⟨u126, u130, o127, m128, o131, m132, rfl, b16, q125⟩
              have a142 := ov_new o112 f139 m132
              have o127 := Own.rebase o127 (fun g hg => (m128 g hg).elim (fun x => Nat.le_trans fB.size x) (c140 g))
              have o131 := Own.rebase o131 (fun g hg => (m132 g hg).elim (fun x => Nat.le_trans fB.size x) (c140 g))
              have b42 := b42.fr q125 f134
              have o100 := o100.fr q125 f135
              have o103 := o103.fr q125 f136
              have o106 := o106.fr q125 f137
              have o109 := o109.fr q125 f138
              have o112 := o112.fr q125 f139
              have fB := fB.call q125 (fun k h => .inl (c140 k h))
              refine ol_nil ?_
              refine cw_region ?_
              refine ol_val (v := .pointer (some ⟨G40, 0, none⟩)) (by exact xr_move rfl e9) rfl rfl rfl ?_
              refine ol_val (v := V1_0) (by exact xr_move rfl e1) rfl rfl rfl ?_
              refine ol_val (v := .int .i64 s64.1) (by exact xr_move rfl e10) rfl rfl rfl ?_
              obtain ⟨g143, h⟩ := gs h
              refine ol_val (v := .pointer (some ⟨(sb V1_0), so V1_0 + Int.toNat s64.1 * 4, none⟩)) (by exact xr_indexN (v := V1_0) rfl Try.underlying24 sz39 rfl (RdN.gr R1_0 D_rickyardlaw05_Act.gr fB) rfl g143.1 g143.2) rfl rfl rfl ?_
              refine ol_val (v := aggV [Seg.cell (.int .i64 ((ix a1 s64.1).Kind)), Seg.cell (.int .i64 ((ix a1 s64.1).At)), Seg.cell (.int .u64 ((ix a1 s64.1).W)), Seg.cell (cellAt w (sb V1_0) (so V1_0 + Int.toNat s64.1 * 4 + 3)) (N_rickyardlaw05_Act R1_0 g143.1 g143.2).2.one]) (by exact xr_loadS (ss := [Seg.cell (.int .i64 ((ix a1 s64.1).Kind)), Seg.cell (.int .i64 ((ix a1 s64.1).At)), Seg.cell (.int .u64 ((ix a1 s64.1).W)), Seg.cell (cellAt w (sb V1_0) (so V1_0 + Int.toNat s64.1 * 4 + 3)) (N_rickyardlaw05_Act R1_0 g143.1 g143.2).2.one]) rfl ag39 sz39 rfl rfl (At.gr (N_rickyardlaw05_Act R1_0 g143.1 g143.2).1 fB)) rfl rfl rfl ?_
              obtain ⟨t144, k145, h⟩ := bs h
              have f170 := (nb_or n63 (nb_or (nb_off (off_ty b16 o100 (by decide))) (nb_or (nb_off (off_ty b16 o103 (by decide))) (nb_or (nb_off (off_ty b16 o106 (by decide))) (nb_or (nb_off (off_ty b16 o109 (by decide))) (nb_off (off_ty b16 o112 (by decide))))))))
              have f171 := (vo_or (vo_eq (off_ty b42 o127 (by decide))) (vo_or (vo_own (OffV.ty o127 o100 (by decide))) (vo_or (vo_own (OffV.ty o127 o103 (by decide))) (vo_or (vo_own (OffV.ty o127 o106 (by decide))) (vo_or (vo_own (OffV.ty o127 o109 (by decide))) (vo_own (OffV.ty o127 o112 (by decide))))))))
              have f172 := (vo_or (vo_eq (off_ty b42 o131 (by decide))) (vo_or (vo_own (OffV.ty o131 o100 (by decide))) (vo_or (vo_own (OffV.ty o131 o103 (by decide))) (vo_or (vo_own (OffV.ty o131 o106 (by decide))) (vo_or (vo_own (OffV.ty o131 o109 (by decide))) (vo_own a142.symm))))))
              have c173 : ∀ k, (k = G40 ∨ some k = Value.ownBlock v99 ∨ some k = Value.ownBlock v102 ∨ some k = Value.ownBlock v105 ∨ some k = Value.ownBlock v108 ∨ some k = Value.ownBlock v111) → w.heap.size ≤ k := (cv_or (cv_eq z41) (cv_or (cv_own o100.geO) (cv_or (cv_own o103.geO) (cv_or (cv_own o106.geO) (cv_or (cv_own o109.geO) (cv_own o112.geO))))))
              refine ol_op (by exact opv_call rfl cal45 (ac rfl (ac rfl an)) (rickyardlaw05_Refs.ok fu _ (⟨s64.2.2.2.2.2.2.2.2.1, s64.2.2.2.2.2.2.2.2.2.1, s64.2.2.2.2.2.2.2.2.2.2.1, s64.2.2.2.2.2.2.2.2.2.2.2.1, s64.2.2.2.2.2.2.2.2.2.2.2.2.1, s64.2.2.2.2.2.2.2.2.2.2.2.2.2.1, s64.2.2.2.2.2.2.2.2.2.2.2.2.2.2.1, s64.2.2.2.2.2.2.2.2.2.2.2.2.2.2.2⟩ : S_rickyardref05_Device) G40 v99 (Own.base o100 (Nat.zero_le _)) v102 (Own.base o103 (Nat.zero_le _)) v105 (Own.base o106 (Nat.zero_le _)) v108 (Own.base o109 (Nat.zero_le _)) v111 (Own.base o112 (Nat.zero_le _)) b42 (ix a1 s64.1) (cellAt w (sb V1_0) (so V1_0 + Int.toNat s64.1 * 4 + 3)) ((N_rickyardlaw05_Act R1_0 g143.1 g143.2).2.gr fB) a115 a116 a117 (OffR.new (N_rickyardlaw05_Act R1_0 g143.1 g143.2).2 z41 rfl) (OffRV.call (N_rickyardlaw05_Act R1_0 g143.1 g143.2).2 o100 rfl) (OffRV.call (N_rickyardlaw05_Act R1_0 g143.1 g143.2).2 o103 rfl) (OffRV.call (N_rickyardlaw05_Act R1_0 g143.1 g143.2).2 o106 rfl) (OffRV.call (N_rickyardlaw05_Act R1_0 g143.1 g143.2).2 o109 rfl) (OffRV.call (N_rickyardlaw05_Act R1_0 g143.1 g143.2).2 o112 rfl) _ k145)) rfl rfl rfl ?_
              rintro _ w174 ⟨u147, u151, u155, u159, u163, o148, m149, o152, m153, o156, m157, o160, m161, o164, m165, a167, a168, a169, rfl, b42, q146⟩
              have a175 := ov_new o131 f172 m165
              have o148 := Own.rebase o148 (fun g hg => (m149 g hg).elim (fun x => Nat.le_trans fB.size x) (c173 g))
              have o152 := Own.rebase o152 (fun g hg => (m153 g hg).elim (fun x => Nat.le_trans fB.size x) (c173 g))
              have o156 := Own.rebase o156 (fun g hg => (m157 g hg).elim (fun x => Nat.le_trans fB.size x) (c173 g))
              have o160 := Own.rebase o160 (fun g hg => (m161 g hg).elim (fun x => Nat.le_trans fB.size x) (c173 g))
              have o164 := Own.rebase o164 (fun g hg => (m165 g hg).elim (fun x => Nat.le_trans fB.size x) (c173 g))
              have b16 := b16.fr q146 f170
              have o127 := o127.fr q146 f171
              have o131 := o131.fr q146 f172
              have fB := fB.call q146 (fun k h => .inl (c173 k h))
              refine ol_nil ?_
              refine blk_i ?_
              refine cw_region ?_
              refine ol_val (v := .int .i64 s64.1) (by exact xr_move rfl e10) rfl rfl rfl ?_
              refine ol_val (v := .int .i64 (IntKind.i64.wrap (s64.1 + 1))) (by exact xr_add rfl rfl rfl) rfl rfl rfl ?_
              refine ol_val (v := .int .i64 (IntKind.i64.wrap (s64.1 + 1))) (by exact xr_assign rfl rfl) rfl rfl rfl ?_
              refine ol_nil ?_
              obtain rfl := Option.some.inj h
              refine lp_in ?_
              exact ⟨u126, u130, u147, u151, u155, u159, u163, o127, o131, o148, o152, o156, o160, o164, a175, a167, a168, a169, e1, e7, e9, rfl, b16, b42, fB⟩
            · refine cw_condF rfl c121 ?_
              refine cw_exit ?_
              repeat (first | with_reducible refine thn_e ?_ | with_reducible refine blk_e rfl ?_)
              obtain rfl := Option.some.inj h
              refine lp_exit ?_
              rintro rfl
              refine thn_x ?_
              exact ⟨v93, v96, v99, v102, v105, v108, v111, o94, o97, o100, o103, o106, o109, o112, a114, a115, a116, a117, e7, e9, b16, b42, fB⟩
        · rintro ρ176 w177 ⟨v68, v71, v74, v77, v80, v83, v86, o69, o72, o75, o78, o81, o84, o87, a89, a90, a91, a92, e7, e9, b16, b42, fB⟩
          have h := h67
          refine cw_seq ?_
          refine cw_region ?_
          refine ol_val (v := .pointer (some ⟨G14, 0, none⟩)) (by exact xr_move rfl e7) rfl rfl rfl ?_
          refine ol_val (v := .pointer (some ⟨G40, 0, none⟩)) (by exact xr_move rfl e9) rfl rfl rfl ?_
          refine ol_val (v := .pointer (some ⟨G14, 0, none⟩)) (by exact xr_assign rfl rfl) rfl rfl rfl ?_
          refine ol_val (v := .pointer (some ⟨G40, 0, none⟩)) (by exact xr_assign rfl rfl) rfl rfl rfl ?_
          refine ol_nil ?_
          refine cw_ret ?_
          repeat (first | with_reducible refine thn_r ?_ | with_reducible refine blk_r ?_)
          obtain rfl := Option.some.inj h
          refine fin_ret2 Try.results60 rfl rfl ?_
          exact ⟨_, rfl, (.pointer (some ⟨G14, 0, none⟩)), (.pointer (some ⟨G40, 0, none⟩)), ⟨(fun e => by cases e), (fun _ e => by obtain rfl := Option.some.inj e; exact ⟨G14, v68, v71, o69, o72, rfl, z15, b16⟩)⟩, ⟨(fun e => by cases e), (fun _ e => by obtain rfl := Option.some.inj e; exact ⟨G40, v74, v77, v80, v83, v86, o75, o78, o81, o84, o87, a90, a91, a92, rfl, z41, b42⟩)⟩, rfl, fB⟩
end Go.Proofs.Ytklhbaghbmndeaa
