/- PressActs: texts merged, part 6 of 8. The last part proves that the law PressActs holds for every input. -/
import Derived.Test.YtklhbaghbmndeaaPkPressActs5
set_option linter.unusedVariables false
set_option linter.unusedSimpArgs false
namespace Go.Proofs.Ytklhbaghbmndeaa
open Go Go.Xw
def rickyardlaw15_do.f (fu : Nat) (a0 : S_pmem_Device) (a1 : S_rickyardref05_Device) (a2 : S_rickyardlaw15_Act) : Option (Bool × S_pmem_Device × S_rickyardref05_Device) := (if (decide (a2.Kind = 0)) = true then ((press_Write.f fu a0 a2.At a2.B : Option (Int × S_pmem_Device)).bind fun t37 => ((rickyardref15_Write.f fu a1 a2.At a2.B : Option (Int × S_rickyardref05_Device)).bind fun t72 => some ((decide (t37.1 = t72.1)), t37.2, t72.2))) else (if (decide (a2.Kind = 1)) = true then ((press_Word.f fu a0 a2.At a2.I a2.A.W : Option (Int × S_pmem_Device)).bind fun t106 => ((rickyardref15_Word.f fu a1 a2.At a2.I a2.A.W : Option (Int × S_rickyardref05_Device)).bind fun t139 => some ((decide (t106.1 = t139.1)), t106.2, t139.2))) else (if (decide (a2.Kind = 2)) = true then ((press_Sure.f fu a0 : Option (Int × S_pmem_Device)).bind fun t172 => ((rickyardref05_Device_Fence.f fu a1 : Option (Int × S_rickyardref05_Device)).bind fun t192 => some ((decide (t172.1 = t192.1)), t172.2, t192.2))) else (if (decide (a2.Kind = 3)) = true then ((press_Read.f fu a0 a2.At : Option ((List Int) × Int)).bind fun t225 => ((rickyardref15_Read.f fu a1 a2.At : Option ((List UInt8) × Int)).bind fun t234 => some ((if (decide ((List.map toB t225.1) = t234.1)) = true then (decide (t225.2 = t234.2)) else false), a0, a1))) else ((rickyardlaw05_Do.f fu a0 a2.A : Option (Int × Int × S_pmem_Device)).bind fun t240 => ((rickyardlaw05_Refs.f fu a1 a2.A : Option (Int × Int × S_rickyardref05_Device)).bind fun t267 => some (true, t240.2.2, t267.2.2)))))))
set_option maxRecDepth 100000 in
set_option maxHeartbeats 400000 in
theorem rickyardlaw15_do.ok (fu : Nat) (w : World) (a0 : S_pmem_Device) (G_0 : Nat) (V0_0 : Value) (O0_0 : Own k_pmem_cell 142 w 0 V0_0 a0.cells) (V0_1 : Value) (O0_1 : Own (kI .i64) 3 w 0 V0_1 a0.plan.list) (b_0 : Blk w G_0 139 [Seg.cell V0_0 O0_0.one, Seg.cell V0_1 O0_1.one, Seg.cell (.int .i64 a0.plan.at_), Seg.cell (.bool a0.off), Seg.cell (.bool a0.armed), Seg.cell (.int .i64 a0.left), Seg.cell (.int .i64 a0.steps)]) (a1 : S_rickyardref05_Device) (G_1 : Nat) (V1_0 : Value) (O1_0 : Own (kI .u64) 22 w 0 V1_0 a1.Lasts) (V1_1 : Value) (O1_1 : Own (kI .u64) 22 w 0 V1_1 a1.Stored) (V1_2 : Value) (O1_2 : Own (kI .u64) 22 w 0 V1_2 a1.Sent) (V1_3 : Value) (O1_3 : Own kB 4 w 0 V1_3 a1.Flushed) (V1_4 : Value) (O1_4 : Own (kI .i64) 3 w 0 V1_4 a1.Plan) (b_1 : Blk w G_1 65 [Seg.cell V1_0 O1_0.one, Seg.cell V1_1 O1_1.one, Seg.cell V1_2 O1_2.one, Seg.cell V1_3 O1_3.one, Seg.cell V1_4 O1_4.one, Seg.cell (.int .i64 a1.Since), Seg.cell (.int .i64 a1.Left), Seg.cell (.int .i64 a1.Steps)]) (a2 : S_rickyardlaw15_Act) (V2_0 : Value) (R2_0 : Rd (kI .u8) w V2_0 a2.B) (V2_1 : Value) (R2_1 : Rd (kI .i64) w V2_1 a2.A.L) (A_R0_1_R1_4 : OffV V0_1 V1_4) (A_R1_0_R1_1 : OffV V1_0 V1_1) (A_R1_0_R1_2 : OffV V1_0 V1_2) (A_R1_1_R1_2 : OffV V1_1 V1_2) (ne_P0_P1 : G_0 ≠ G_1) (NR2_0_P0 : OffR V2_0 a2.B G_0) (NR2_0_R0_0 : OffRV V2_0 a2.B V0_0) (NR2_0_R0_1 : OffRV V2_0 a2.B V0_1) (NR2_0_P1 : OffR V2_0 a2.B G_1) (NR2_0_R1_0 : OffRV V2_0 a2.B V1_0) (NR2_0_R1_1 : OffRV V2_0 a2.B V1_1) (NR2_0_R1_2 : OffRV V2_0 a2.B V1_2) (NR2_0_R1_3 : OffRV V2_0 a2.B V1_3) (NR2_0_R1_4 : OffRV V2_0 a2.B V1_4) (NR2_1_P0 : OffR V2_1 a2.A.L G_0) (NR2_1_R0_0 : OffRV V2_1 a2.A.L V0_0) (NR2_1_R0_1 : OffRV V2_1 a2.A.L V0_1) (NR2_1_P1 : OffR V2_1 a2.A.L G_1) (NR2_1_R1_0 : OffRV V2_1 a2.A.L V1_0) (NR2_1_R1_1 : OffRV V2_1 a2.A.L V1_1) (NR2_1_R1_2 : OffRV V2_1 a2.A.L V1_2) (NR2_1_R1_3 : OffRV V2_1 a2.A.L V1_3) (NR2_1_R1_4 : OffRV V2_1 a2.A.L V1_4) (r : Bool × S_pmem_Device × S_rickyardref05_Device) (h : rickyardlaw15_do.f fu a0 a1 a2 = some r) :
  Calls Try.prog 59 (([.pointer (some ⟨G_0, 0, none⟩), .pointer (some ⟨G_1, 0, none⟩), aggV [Seg.cell (.int .i64 a2.Kind), Seg.cell (.int .i64 a2.At), Seg.cell (.int .i64 a2.I), Seg.cell V2_0 R2_0.one, Seg.cell (.int .i64 a2.A.Kind), Seg.cell (.int .i64 a2.A.At), Seg.cell (.int .u64 a2.A.W), Seg.cell V2_1 R2_1.one]] : List Value).toArray) w (fun e w' => ∃ v, e = .returned v ∧ ∃ u1 : Value, ∃ u4 : Value, ∃ u7 : Value, ∃ u10 : Value, ∃ u13 : Value, ∃ u16 : Value, ∃ u19 : Value, ∃ o2 : Own k_pmem_cell 142 w' 0 u1 r.2.1.cells, ∃ m3 : ∀ g, Value.ownBlock u1 = some g → w.heap.size ≤ g ∨ (g = G_0 ∨ some g = Value.ownBlock V0_0 ∨ some g = Value.ownBlock V0_1 ∨ g = G_1 ∨ some g = Value.ownBlock V1_0 ∨ some g = Value.ownBlock V1_1 ∨ some g = Value.ownBlock V1_2 ∨ some g = Value.ownBlock V1_3 ∨ some g = Value.ownBlock V1_4), ∃ o5 : Own (kI .i64) 3 w' 0 u4 r.2.1.plan.list, ∃ m6 : ∀ g, Value.ownBlock u4 = some g → w.heap.size ≤ g ∨ (g = G_0 ∨ some g = Value.ownBlock V0_0 ∨ some g = Value.ownBlock V0_1 ∨ g = G_1 ∨ some g = Value.ownBlock V1_0 ∨ some g = Value.ownBlock V1_1 ∨ some g = Value.ownBlock V1_2 ∨ some g = Value.ownBlock V1_3 ∨ some g = Value.ownBlock V1_4), ∃ o8 : Own (kI .u64) 22 w' 0 u7 r.2.2.Lasts, ∃ m9 : ∀ g, Value.ownBlock u7 = some g → w.heap.size ≤ g ∨ (g = G_0 ∨ some g = Value.ownBlock V0_0 ∨ some g = Value.ownBlock V0_1 ∨ g = G_1 ∨ some g = Value.ownBlock V1_0 ∨ some g = Value.ownBlock V1_1 ∨ some g = Value.ownBlock V1_2 ∨ some g = Value.ownBlock V1_3 ∨ some g = Value.ownBlock V1_4), ∃ o11 : Own (kI .u64) 22 w' 0 u10 r.2.2.Stored, ∃ m12 : ∀ g, Value.ownBlock u10 = some g → w.heap.size ≤ g ∨ (g = G_0 ∨ some g = Value.ownBlock V0_0 ∨ some g = Value.ownBlock V0_1 ∨ g = G_1 ∨ some g = Value.ownBlock V1_0 ∨ some g = Value.ownBlock V1_1 ∨ some g = Value.ownBlock V1_2 ∨ some g = Value.ownBlock V1_3 ∨ some g = Value.ownBlock V1_4), ∃ o14 : Own (kI .u64) 22 w' 0 u13 r.2.2.Sent, ∃ m15 : ∀ g, Value.ownBlock u13 = some g → w.heap.size ≤ g ∨ (g = G_0 ∨ some g = Value.ownBlock V0_0 ∨ some g = Value.ownBlock V0_1 ∨ g = G_1 ∨ some g = Value.ownBlock V1_0 ∨ some g = Value.ownBlock V1_1 ∨ some g = Value.ownBlock V1_2 ∨ some g = Value.ownBlock V1_3 ∨ some g = Value.ownBlock V1_4), ∃ o17 : Own kB 4 w' 0 u16 r.2.2.Flushed, ∃ m18 : ∀ g, Value.ownBlock u16 = some g → w.heap.size ≤ g ∨ (g = G_0 ∨ some g = Value.ownBlock V0_0 ∨ some g = Value.ownBlock V0_1 ∨ g = G_1 ∨ some g = Value.ownBlock V1_0 ∨ some g = Value.ownBlock V1_1 ∨ some g = Value.ownBlock V1_2 ∨ some g = Value.ownBlock V1_3 ∨ some g = Value.ownBlock V1_4), ∃ o20 : Own (kI .i64) 3 w' 0 u19 r.2.2.Plan, ∃ m21 : ∀ g, Value.ownBlock u19 = some g → w.heap.size ≤ g ∨ (g = G_0 ∨ some g = Value.ownBlock V0_0 ∨ some g = Value.ownBlock V0_1 ∨ g = G_1 ∨ some g = Value.ownBlock V1_0 ∨ some g = Value.ownBlock V1_1 ∨ some g = Value.ownBlock V1_2 ∨ some g = Value.ownBlock V1_3 ∨ some g = Value.ownBlock V1_4), ∃ a22 : OffV u4 u19, ∃ a23 : OffV u7 u10, ∃ a24 : OffV u7 u13, ∃ a25 : OffV u10 u13, v = .bool r.1 ∧ Blk w' G_0 139 [Seg.cell u1 o2.one, Seg.cell u4 o5.one, Seg.cell (.int .i64 r.2.1.plan.at_), Seg.cell (.bool r.2.1.off), Seg.cell (.bool r.2.1.armed), Seg.cell (.int .i64 r.2.1.left), Seg.cell (.int .i64 r.2.1.steps)] ∧ Blk w' G_1 65 [Seg.cell u7 o8.one, Seg.cell u10 o11.one, Seg.cell u13 o14.one, Seg.cell u16 o17.one, Seg.cell u19 o20.one, Seg.cell (.int .i64 r.2.2.Since), Seg.cell (.int .i64 r.2.2.Left), Seg.cell (.int .i64 r.2.2.Steps)] ∧ Fr (fun j => j = G_0 ∨ some j = Value.ownBlock V0_0 ∨ some j = Value.ownBlock V0_1 ∨ j = G_1 ∨ some j = Value.ownBlock V1_0 ∨ some j = Value.ownBlock V1_1 ∨ some j = Value.ownBlock V1_2 ∨ some j = Value.ownBlock V1_3 ∨ some j = Value.ownBlock V1_4) w w') := by
 unfold rickyardlaw15_do.f at h
 have fB : Fr (fun j => j = G_0 ∨ some j = Value.ownBlock V0_0 ∨ some j = Value.ownBlock V0_1 ∨ j = G_1 ∨ some j = Value.ownBlock V1_0 ∨ some j = Value.ownBlock V1_1 ∨ some j = Value.ownBlock V1_2 ∨ some j = Value.ownBlock V1_3 ∨ some j = Value.ownBlock V1_4) w w := Fr.refl _ _
 have M0_0 : ∀ g, Value.ownBlock V0_0 = some g → w.heap.size ≤ g ∨ (g = G_0 ∨ some g = Value.ownBlock V0_0 ∨ some g = Value.ownBlock V0_1 ∨ g = G_1 ∨ some g = Value.ownBlock V1_0 ∨ some g = Value.ownBlock V1_1 ∨ some g = Value.ownBlock V1_2 ∨ some g = Value.ownBlock V1_3 ∨ some g = Value.ownBlock V1_4) := fun g hg => .inr (.inr (.inl hg.symm))
 have M0_1 : ∀ g, Value.ownBlock V0_1 = some g → w.heap.size ≤ g ∨ (g = G_0 ∨ some g = Value.ownBlock V0_0 ∨ some g = Value.ownBlock V0_1 ∨ g = G_1 ∨ some g = Value.ownBlock V1_0 ∨ some g = Value.ownBlock V1_1 ∨ some g = Value.ownBlock V1_2 ∨ some g = Value.ownBlock V1_3 ∨ some g = Value.ownBlock V1_4) := fun g hg => .inr (.inr (.inr (.inl hg.symm)))
 have M1_0 : ∀ g, Value.ownBlock V1_0 = some g → w.heap.size ≤ g ∨ (g = G_0 ∨ some g = Value.ownBlock V0_0 ∨ some g = Value.ownBlock V0_1 ∨ g = G_1 ∨ some g = Value.ownBlock V1_0 ∨ some g = Value.ownBlock V1_1 ∨ some g = Value.ownBlock V1_2 ∨ some g = Value.ownBlock V1_3 ∨ some g = Value.ownBlock V1_4) := fun g hg => .inr (.inr (.inr (.inr (.inr (.inl hg.symm)))))
 have M1_1 : ∀ g, Value.ownBlock V1_1 = some g → w.heap.size ≤ g ∨ (g = G_0 ∨ some g = Value.ownBlock V0_0 ∨ some g = Value.ownBlock V0_1 ∨ g = G_1 ∨ some g = Value.ownBlock V1_0 ∨ some g = Value.ownBlock V1_1 ∨ some g = Value.ownBlock V1_2 ∨ some g = Value.ownBlock V1_3 ∨ some g = Value.ownBlock V1_4) := fun g hg => .inr (.inr (.inr (.inr (.inr (.inr (.inl hg.symm))))))
 have M1_2 : ∀ g, Value.ownBlock V1_2 = some g → w.heap.size ≤ g ∨ (g = G_0 ∨ some g = Value.ownBlock V0_0 ∨ some g = Value.ownBlock V0_1 ∨ g = G_1 ∨ some g = Value.ownBlock V1_0 ∨ some g = Value.ownBlock V1_1 ∨ some g = Value.ownBlock V1_2 ∨ some g = Value.ownBlock V1_3 ∨ some g = Value.ownBlock V1_4) := fun g hg => .inr (.inr (.inr (.inr (.inr (.inr (.inr (.inl hg.symm)))))))
 have M1_3 : ∀ g, Value.ownBlock V1_3 = some g → w.heap.size ≤ g ∨ (g = G_0 ∨ some g = Value.ownBlock V0_0 ∨ some g = Value.ownBlock V0_1 ∨ g = G_1 ∨ some g = Value.ownBlock V1_0 ∨ some g = Value.ownBlock V1_1 ∨ some g = Value.ownBlock V1_2 ∨ some g = Value.ownBlock V1_3 ∨ some g = Value.ownBlock V1_4) := fun g hg => .inr (.inr (.inr (.inr (.inr (.inr (.inr (.inr (.inl hg.symm))))))))
 have M1_4 : ∀ g, Value.ownBlock V1_4 = some g → w.heap.size ≤ g ∨ (g = G_0 ∨ some g = Value.ownBlock V0_0 ∨ some g = Value.ownBlock V0_1 ∨ g = G_1 ∨ some g = Value.ownBlock V1_0 ∨ some g = Value.ownBlock V1_1 ∨ some g = Value.ownBlock V1_2 ∨ some g = Value.ownBlock V1_3 ∨ some g = Value.ownBlock V1_4) := fun g hg => .inr (.inr (.inr (.inr (.inr (.inr (.inr (.inr (.inr hg.symm))))))))
 refine calls_cw Try.func59 rfl Try.ntmps59 rfl ?_
 refine cw_seq ?_
 refine cw_region ?_
 refine ol_op (by exact opv_box (ss := [Seg.cell (.int .i64 a2.Kind), Seg.cell (.int .i64 a2.At), Seg.cell (.int .i64 a2.I), Seg.cell V2_0 R2_0.one, Seg.cell (.int .i64 a2.A.Kind), Seg.cell (.int .i64 a2.A.At), Seg.cell (.int .u64 a2.A.W), Seg.cell V2_1 R2_1.one]) rfl rfl rfl) rfl rfl rfl ?_
 rintro _ w31 ⟨G26, rfl, b27, q28, z29⟩
 have n32 := b_0.ne z29
 have n33 := b_1.ne z29
 have a34 := OffR.new R2_0 z29 rfl
 have a35 := OffR.new R2_1 z29 rfl
 have z29 := Nat.le_trans fB.size z29
 have b_0 := b_0.gr q28
 have b_1 := b_1.gr q28
 have O0_0 := O0_0.gr q28
 have O0_1 := O0_1.gr q28
 have O1_0 := O1_0.gr q28
 have O1_1 := O1_1.gr q28
 have O1_2 := O1_2.gr q28
 have O1_3 := O1_3.gr q28
 have O1_4 := O1_4.gr q28
 have R2_0 := R2_0.gr q28
 have R2_1 := R2_1.gr q28
 have fB := fB.gr q28
 refine ol_val (v := .bool false) (by exact xr_assign rfl rfl) rfl rfl rfl ?_
 refine ol_nil ?_
 refine cw_seq ?_
 refine cw_seq ?_
 refine cw_region ?_
 refine ol_val (v := .pointer (some ⟨G26, 0, none⟩)) (by exact xr_fieldAddr (p := 0) (q := 0) rfl fl85_0 rfl) rfl rfl rfl ?_
 refine ol_val (v := .int .i64 a2.Kind) (by exact xr_load1 (v := .int .i64 a2.Kind) rfl ag3 rfl (b27.seg 0 rfl rfl)) rfl rfl rfl ?_
 refine ol_nil ?_
 refine cw_block ?_
 refine cw_seq ?_
 refine cw_region ?_
 refine ol_val (v := .bool (decide (a2.Kind = 0))) (by exact xr_eqI rfl Try.underlying3 rfl rfl rfl) rfl rfl rfl ?_
 refine ol_val (v := .bool (decide (a2.Kind = 0))) (by exact xr_assign rfl rfl) rfl rfl rfl ?_
 refine ol_nil ?_
 rcases is h with ⟨c36, h⟩ | ⟨c36, h⟩
 ·refine cw_condT rfl c36 ?_
  refine cw_seq ?_
  obtain ⟨t37, k38, h⟩ := bs h
  have f49 := (nb_or ne_P0_P1.symm (nb_or (nb_off (off_ty b_1 O0_0 (by decide))) (nb_off (off_ty b_1 O0_1 (by decide)))))
  have f50 := (nb_or n32.symm (nb_or (nb_off (off_ty b27 O0_0 (by decide))) (nb_off (off_ty b27 O0_1 (by decide)))))
  have f51 := (vo_or (vo_eq (off_ty b_0 O1_0 (by decide))) (vo_or (vo_own (OffV.ty O1_0 O0_0 (by decide))) (vo_own (OffV.ty O1_0 O0_1 (by decide)))))
  have f52 := (vo_or (vo_eq (off_ty b_0 O1_1 (by decide))) (vo_or (vo_own (OffV.ty O1_1 O0_0 (by decide))) (vo_own (OffV.ty O1_1 O0_1 (by decide)))))
  have f53 := (vo_or (vo_eq (off_ty b_0 O1_2 (by decide))) (vo_or (vo_own (OffV.ty O1_2 O0_0 (by decide))) (vo_own (OffV.ty O1_2 O0_1 (by decide)))))
  have f54 := (vo_or (vo_eq (off_ty b_0 O1_3 (by decide))) (vo_or (vo_own (OffV.ty O1_3 O0_0 (by decide))) (vo_own (OffV.ty O1_3 O0_1 (by decide)))))
  have f55 := (vo_or (vo_eq (off_ty b_0 O1_4 (by decide))) (vo_or (vo_own (OffV.ty O1_4 O0_0 (by decide))) (vo_own A_R0_1_R1_4.symm)))
  have f56 := (ro_or (ro_eq NR2_0_P0) (ro_or (ro_own NR2_0_R0_0) (ro_own NR2_0_R0_1)))
  have f57 := (ro_or (ro_eq NR2_1_P0) (ro_or (ro_own NR2_1_R0_0) (ro_own NR2_1_R0_1)))
  have c58 : ∀ k, (k = G_0 ∨ some k = Value.ownBlock V0_0 ∨ some k = Value.ownBlock V0_1) → (w.heap.size ≤ k ∨ (k = G_0 ∨ some k = Value.ownBlock V0_0 ∨ some k = Value.ownBlock V0_1 ∨ k = G_1 ∨ some k = Value.ownBlock V1_0 ∨ some k = Value.ownBlock V1_1 ∨ some k = Value.ownBlock V1_2 ∨ some k = Value.ownBlock V1_3 ∨ some k = Value.ownBlock V1_4)) := (cv_or (cv_eq (.inr (.inl rfl))) (cv_or (cv_own M0_0) (cv_own M0_1)))
  refine cw_drawW 11 5 (fun j => j = G_0 ∨ some j = Value.ownBlock V0_0 ∨ some j = Value.ownBlock V0_1) [fun vz wz => vz = (.pointer (some ⟨G_0, 0, none⟩) : Value), fun vz wz => vz = (.pointer (some ⟨G26, 1, none⟩) : Value), fun vz wz => vz = (.int .i64 a2.At : Value), fun vz wz => vz = (.pointer (some ⟨G26, 3, none⟩) : Value), fun vz wz => vz = (V2_0 : Value), fun vz wz => ∃ u40 : Value, ∃ u44 : Value, ∃ o41 : Own k_pmem_cell 142 wz 0 u40 t37.2.cells, ∃ m42 : ∀ g, Value.ownBlock u40 = some g → w31.heap.size ≤ g ∨ (g = G_0 ∨ some g = Value.ownBlock V0_0 ∨ some g = Value.ownBlock V0_1), ∃ o45 : Own (kI .i64) 3 wz 0 u44 t37.2.plan.list, ∃ m46 : ∀ g, Value.ownBlock u44 = some g → w31.heap.size ≤ g ∨ (g = G_0 ∨ some g = Value.ownBlock V0_0 ∨ some g = Value.ownBlock V0_1), ∃ b48 : Blk wz G_0 139 [Seg.cell u40 o41.one, Seg.cell u44 o45.one, Seg.cell (.int .i64 t37.2.plan.at_), Seg.cell (.bool t37.2.off), Seg.cell (.bool t37.2.armed), Seg.cell (.int .i64 t37.2.left), Seg.cell (.int .i64 t37.2.steps)], vz = (.int .i64 t37.1 : Value), fun vz wz => vz = (.pointer (some ⟨G_1, 0, none⟩) : Value), fun vz wz => vz = (.pointer (some ⟨G26, 1, none⟩) : Value), fun vz wz => vz = (.int .i64 a2.At : Value), fun vz wz => vz = (.pointer (some ⟨G26, 3, none⟩) : Value), fun vz wz => vz = (V2_0 : Value)] mo rfl ⟨fun _ _ _ h _ => h, fun _ _ _ h _ => h, fun _ _ _ h _ => h, fun _ _ _ h _ => h, fun _ _ _ h _ => h, fun _ _ _ ⟨u40, u44, o41, m42, o45, m46, b48, h⟩ q => ⟨u40, u44, o41.gr q, m42, o45.gr q, m46, b48.gr q, h⟩, fun _ _ _ h _ => h, fun _ _ _ h _ => h, fun _ _ _ h _ => h, fun _ _ _ h _ => h, fun _ _ _ h _ => h, trivial⟩ ⟨.inr fun _ _ _ h _ => h, .inr fun _ _ _ h _ => h, .inr fun _ _ _ h _ => h, .inr fun _ _ _ h _ => h, .inr fun _ _ _ h _ => h, .inl rfl, .inr fun _ _ _ h _ => h, .inr fun _ _ _ h _ => h, .inr fun _ _ _ h _ => h, .inr fun _ _ _ h _ => h, .inr fun _ _ _ h _ => h, trivial⟩ ?_ ?_
  ·refine ⟨?_, ?_, ?_, ?_, ?_, ?_, ?_, ?_, ?_, ?_, ?_, trivial⟩
   ·intro ρz wz hz0 hz1 hk hd
    have hz := hz1 rfl
    refine sk_other rfl ?_
    exact sk_val (v := .pointer (some ⟨G_0, 0, none⟩)) (by exact xr_move rfl ((hk 0 rfl).trans rfl)) rfl rfl
   ·intro ρz wz hz0 hz1 hk hd
    have hz := hz1 rfl
    refine sk_other rfl ?_
    exact sk_val (v := .pointer (some ⟨G26, 1, none⟩)) (by exact xr_fieldAddr (p := 0) (q := 1) rfl fl85_1 ((hk 5 rfl).trans rfl)) rfl rfl
   ·intro ρz wz hz0 hz1 hk hd
    have hz := hz1 rfl
    have d16 := hd 1 rfl 16 rfl
    refine sk_other rfl ?_
    exact sk_val (v := .int .i64 a2.At) (by exact xr_load1 (v := .int .i64 a2.At) rfl ag3 d16 ((b27.fr hz f50).seg 1 rfl rfl)) rfl rfl
   ·intro ρz wz hz0 hz1 hk hd
    have hz := hz1 rfl
    refine sk_other rfl ?_
    exact sk_val (v := .pointer (some ⟨G26, 3, none⟩)) (by exact xr_fieldAddr (p := 0) (q := 3) rfl fl85_3 ((hk 5 rfl).trans rfl)) rfl rfl
   ·intro ρz wz hz0 hz1 hk hd
    have hz := hz1 rfl
    have d18 := hd 3 rfl 18 rfl
    refine sk_other rfl ?_
    exact sk_val (v := V2_0) (by exact xr_load1 (v := V2_0) rfl ag43 d18 ((b27.fr hz f50).seg 3 rfl rfl)) rfl rfl
   ·intro ρz wz hz0 hz1 hk hd
    have hz := hz0 rfl
    have d15 := hd 0 rfl 15 rfl
    have d17 := hd 2 rfl 17 rfl
    have d19 := hd 4 rfl 19 rfl
    refine sk_writer rfl (by exact opv_call rfl cal53 (ac d15 (ac d17 (ac d19 an))) (press_Write.ok fu _ a0 G_0 V0_0 (Own.base (O0_0.gr hz) (Nat.zero_le _)) V0_1 (Own.base (O0_1.gr hz) (Nat.zero_le _)) (b_0.gr hz) a2.At a2.B V2_0 (R2_0.gr hz) NR2_0_P0 NR2_0_R0_0 NR2_0_R0_1 _ k38)) rfl ?_
    rintro _ wy ⟨u40, u44, o41, m42, o45, m46, rfl, b_0, q39⟩
    exact ⟨⟨u40, u44, o41, (fun g hg => (m42 g hg).elim (fun x => .inl (Nat.le_trans hz.size x)) .inr), o45, (fun g hg => (m46 g hg).elim (fun x => .inl (Nat.le_trans hz.size x)) .inr), b_0, rfl⟩, q39⟩
   ·intro ρz wz hz0 hz1 hk hd
    have hz := hz1 rfl
    refine sk_other rfl ?_
    exact sk_val (v := .pointer (some ⟨G_1, 0, none⟩)) (by exact xr_move rfl ((hk 1 rfl).trans rfl)) rfl rfl
   ·intro ρz wz hz0 hz1 hk hd
    have hz := hz1 rfl
    refine sk_other rfl ?_
    exact sk_val (v := .pointer (some ⟨G26, 1, none⟩)) (by exact xr_fieldAddr (p := 0) (q := 1) rfl fl85_1 ((hk 5 rfl).trans rfl)) rfl rfl
   ·intro ρz wz hz0 hz1 hk hd
    have hz := hz1 rfl
    have d22 := hd 7 rfl 22 rfl
    refine sk_other rfl ?_
    exact sk_val (v := .int .i64 a2.At) (by exact xr_load1 (v := .int .i64 a2.At) rfl ag3 d22 ((b27.fr hz f50).seg 1 rfl rfl)) rfl rfl
   ·intro ρz wz hz0 hz1 hk hd
    have hz := hz1 rfl
    refine sk_other rfl ?_
    exact sk_val (v := .pointer (some ⟨G26, 3, none⟩)) (by exact xr_fieldAddr (p := 0) (q := 3) rfl fl85_3 ((hk 5 rfl).trans rfl)) rfl rfl
   intro ρz wz hz0 hz1 hk hd
   have hz := hz1 rfl
   have d24 := hd 9 rfl 24 rfl
   refine sk_other rfl ?_
   exact sk_val (v := V2_0) (by exact xr_load1 (v := V2_0) rfl ag43 d24 ((b27.fr hz f50).seg 3 rfl rfl)) rfl rfl
  intro ρ59 w60 q61 hk hd
  obtain ⟨u62, u63, o64, m65, o66, m67, b68, e20⟩ := hd 5 rfl 20 rfl
  have e21 := hd 6 rfl 21 rfl
  have e23 := hd 8 rfl 23 rfl
  have e25 := hd 10 rfl 25 rfl
  have a69 := orv_new R2_0 rfl f56 m65
  have a70 := ov_new O1_4 f55 m67
  have a71 := orv_new R2_0 rfl f56 m67
  have m65 : ∀ g, Value.ownBlock u62 = some g → w.heap.size ≤ g ∨ (g = G_0 ∨ some g = Value.ownBlock V0_0 ∨ some g = Value.ownBlock V0_1 ∨ g = G_1 ∨ some g = Value.ownBlock V1_0 ∨ some g = Value.ownBlock V1_1 ∨ some g = Value.ownBlock V1_2 ∨ some g = Value.ownBlock V1_3 ∨ some g = Value.ownBlock V1_4) := fun g hg => (m65 g hg).elim (fun x => .inl (Nat.le_trans fB.size x)) (c58 g)
  have m67 : ∀ g, Value.ownBlock u63 = some g → w.heap.size ≤ g ∨ (g = G_0 ∨ some g = Value.ownBlock V0_0 ∨ some g = Value.ownBlock V0_1 ∨ g = G_1 ∨ some g = Value.ownBlock V1_0 ∨ some g = Value.ownBlock V1_1 ∨ some g = Value.ownBlock V1_2 ∨ some g = Value.ownBlock V1_3 ∨ some g = Value.ownBlock V1_4) := fun g hg => (m67 g hg).elim (fun x => .inl (Nat.le_trans fB.size x)) (c58 g)
  have b_1 := b_1.fr q61 f49
  have O1_0 := O1_0.fr q61 f51
  have O1_1 := O1_1.fr q61 f52
  have O1_2 := O1_2.fr q61 f53
  have O1_3 := O1_3.fr q61 f54
  have O1_4 := O1_4.fr q61 f55
  have R2_0 := R2_0.fr q61 f56
  have fB := fB.call q61 c58
  obtain ⟨t72, k73, h⟩ := bs h
  have f98 := (nb_or ne_P0_P1 (nb_or (nb_off (off_ty b68 O1_0 (by decide))) (nb_or (nb_off (off_ty b68 O1_1 (by decide))) (nb_or (nb_off (off_ty b68 O1_2 (by decide))) (nb_or (nb_off (off_ty b68 O1_3 (by decide))) (nb_off (off_ty b68 O1_4 (by decide))))))))
  have f99 := (vo_or (vo_eq (off_ty b_1 o64 (by decide))) (vo_or (vo_own (OffV.ty o64 O1_0 (by decide))) (vo_or (vo_own (OffV.ty o64 O1_1 (by decide))) (vo_or (vo_own (OffV.ty o64 O1_2 (by decide))) (vo_or (vo_own (OffV.ty o64 O1_3 (by decide))) (vo_own (OffV.ty o64 O1_4 (by decide))))))))
  have f100 := (vo_or (vo_eq (off_ty b_1 o66 (by decide))) (vo_or (vo_own (OffV.ty o66 O1_0 (by decide))) (vo_or (vo_own (OffV.ty o66 O1_1 (by decide))) (vo_or (vo_own (OffV.ty o66 O1_2 (by decide))) (vo_or (vo_own (OffV.ty o66 O1_3 (by decide))) (vo_own a70.symm))))))
  have f101 := (ro_or (ro_eq NR2_0_P1) (ro_or (ro_own NR2_0_R1_0) (ro_or (ro_own NR2_0_R1_1) (ro_or (ro_own NR2_0_R1_2) (ro_or (ro_own NR2_0_R1_3) (ro_own NR2_0_R1_4))))))
  have c102 : ∀ k, (k = G_1 ∨ some k = Value.ownBlock V1_0 ∨ some k = Value.ownBlock V1_1 ∨ some k = Value.ownBlock V1_2 ∨ some k = Value.ownBlock V1_3 ∨ some k = Value.ownBlock V1_4) → (w.heap.size ≤ k ∨ (k = G_0 ∨ some k = Value.ownBlock V0_0 ∨ some k = Value.ownBlock V0_1 ∨ k = G_1 ∨ some k = Value.ownBlock V1_0 ∨ some k = Value.ownBlock V1_1 ∨ some k = Value.ownBlock V1_2 ∨ some k = Value.ownBlock V1_3 ∨ some k = Value.ownBlock V1_4)) := (cv_or (cv_eq (.inr (.inr (.inr (.inr (.inl rfl)))))) (cv_or (cv_own M1_0) (cv_or (cv_own M1_1) (cv_or (cv_own M1_2) (cv_or (cv_own M1_3) (cv_own M1_4))))))
  refine ol_op (by exact opv_call rfl cal105 (ac e21 (ac e23 (ac e25 an))) (rickyardref15_Write.ok fu _ a1 G_1 V1_0 (Own.base O1_0 (Nat.zero_le _)) V1_1 (Own.base O1_1 (Nat.zero_le _)) V1_2 (Own.base O1_2 (Nat.zero_le _)) V1_3 (Own.base O1_3 (Nat.zero_le _)) V1_4 (Own.base O1_4 (Nat.zero_le _)) b_1 a2.At a2.B V2_0 (R2_0) A_R1_0_R1_1 A_R1_0_R1_2 A_R1_1_R1_2 NR2_0_P1 NR2_0_R1_0 NR2_0_R1_1 NR2_0_R1_2 NR2_0_R1_3 NR2_0_R1_4 _ k73)) rfl rfl rfl ?_
  rintro _ w103 ⟨u75, u79, u83, u87, u91, o76, m77, o80, m81, o84, m85, o88, m89, o92, m93, a95, a96, a97, rfl, b_1, q74⟩
  have a104 := ov_new o66 f100 m93
  have m77 : ∀ g, Value.ownBlock u75 = some g → w.heap.size ≤ g ∨ (g = G_0 ∨ some g = Value.ownBlock V0_0 ∨ some g = Value.ownBlock V0_1 ∨ g = G_1 ∨ some g = Value.ownBlock V1_0 ∨ some g = Value.ownBlock V1_1 ∨ some g = Value.ownBlock V1_2 ∨ some g = Value.ownBlock V1_3 ∨ some g = Value.ownBlock V1_4) := fun g hg => (m77 g hg).elim (fun x => .inl (Nat.le_trans fB.size x)) (c102 g)
  have m81 : ∀ g, Value.ownBlock u79 = some g → w.heap.size ≤ g ∨ (g = G_0 ∨ some g = Value.ownBlock V0_0 ∨ some g = Value.ownBlock V0_1 ∨ g = G_1 ∨ some g = Value.ownBlock V1_0 ∨ some g = Value.ownBlock V1_1 ∨ some g = Value.ownBlock V1_2 ∨ some g = Value.ownBlock V1_3 ∨ some g = Value.ownBlock V1_4) := fun g hg => (m81 g hg).elim (fun x => .inl (Nat.le_trans fB.size x)) (c102 g)
  have m85 : ∀ g, Value.ownBlock u83 = some g → w.heap.size ≤ g ∨ (g = G_0 ∨ some g = Value.ownBlock V0_0 ∨ some g = Value.ownBlock V0_1 ∨ g = G_1 ∨ some g = Value.ownBlock V1_0 ∨ some g = Value.ownBlock V1_1 ∨ some g = Value.ownBlock V1_2 ∨ some g = Value.ownBlock V1_3 ∨ some g = Value.ownBlock V1_4) := fun g hg => (m85 g hg).elim (fun x => .inl (Nat.le_trans fB.size x)) (c102 g)
  have m89 : ∀ g, Value.ownBlock u87 = some g → w.heap.size ≤ g ∨ (g = G_0 ∨ some g = Value.ownBlock V0_0 ∨ some g = Value.ownBlock V0_1 ∨ g = G_1 ∨ some g = Value.ownBlock V1_0 ∨ some g = Value.ownBlock V1_1 ∨ some g = Value.ownBlock V1_2 ∨ some g = Value.ownBlock V1_3 ∨ some g = Value.ownBlock V1_4) := fun g hg => (m89 g hg).elim (fun x => .inl (Nat.le_trans fB.size x)) (c102 g)
  have m93 : ∀ g, Value.ownBlock u91 = some g → w.heap.size ≤ g ∨ (g = G_0 ∨ some g = Value.ownBlock V0_0 ∨ some g = Value.ownBlock V0_1 ∨ g = G_1 ∨ some g = Value.ownBlock V1_0 ∨ some g = Value.ownBlock V1_1 ∨ some g = Value.ownBlock V1_2 ∨ some g = Value.ownBlock V1_3 ∨ some g = Value.ownBlock V1_4) := fun g hg => (m93 g hg).elim (fun x => .inl (Nat.le_trans fB.size x)) (c102 g)
  have b68 := b68.fr q74 f98
  have o64 := o64.fr q74 f99
  have o66 := o66.fr q74 f100
  have fB := fB.call q74 c102
  refine ol_val (v := .bool (decide (t37.1 = t72.1))) (by exact xr_eqI rfl Try.underlying3 rfl e20 rfl) rfl rfl rfl ?_
  refine ol_val (v := .bool (decide (t37.1 = t72.1))) (by exact xr_assign rfl rfl) rfl rfl rfl ?_
  refine ol_nil ?_
  refine cw_ret ?_
  repeat (first | with_reducible refine thn_r ?_ | with_reducible refine blk_r ?_)
  obtain rfl := Option.some.inj h
  refine fin_ret1 Try.results59 rfl ?_
  exact ⟨_, rfl, u62, u63, u75, u79, u83, u87, u91, o64, m65, o66, m67, o76, m77, o80, m81, o84, m85, o88, m89, o92, m93, a104, a95, a96, a97, rfl, b68, b_1, fB⟩
 refine cw_condF rfl c36 ?_
 refine cw_seq ?_
 refine cw_region ?_
 refine ol_val (v := .bool (decide (a2.Kind = 1))) (by exact xr_eqI rfl Try.underlying3 rfl rfl rfl) rfl rfl rfl ?_
 refine ol_val (v := .bool (decide (a2.Kind = 1))) (by exact xr_assign rfl rfl) rfl rfl rfl ?_
 refine ol_nil ?_
 rcases is h with ⟨c105, h⟩ | ⟨c105, h⟩
 ·refine cw_condT rfl c105 ?_
  refine cw_seq ?_
  obtain ⟨t106, k107, h⟩ := bs h
  have f118 := (nb_or ne_P0_P1.symm (nb_or (nb_off (off_ty b_1 O0_0 (by decide))) (nb_off (off_ty b_1 O0_1 (by decide)))))
  have f119 := (nb_or n32.symm (nb_or (nb_off (off_ty b27 O0_0 (by decide))) (nb_off (off_ty b27 O0_1 (by decide)))))
  have f120 := (vo_or (vo_eq (off_ty b_0 O1_0 (by decide))) (vo_or (vo_own (OffV.ty O1_0 O0_0 (by decide))) (vo_own (OffV.ty O1_0 O0_1 (by decide)))))
  have f121 := (vo_or (vo_eq (off_ty b_0 O1_1 (by decide))) (vo_or (vo_own (OffV.ty O1_1 O0_0 (by decide))) (vo_own (OffV.ty O1_1 O0_1 (by decide)))))
  have f122 := (vo_or (vo_eq (off_ty b_0 O1_2 (by decide))) (vo_or (vo_own (OffV.ty O1_2 O0_0 (by decide))) (vo_own (OffV.ty O1_2 O0_1 (by decide)))))
  have f123 := (vo_or (vo_eq (off_ty b_0 O1_3 (by decide))) (vo_or (vo_own (OffV.ty O1_3 O0_0 (by decide))) (vo_own (OffV.ty O1_3 O0_1 (by decide)))))
  have f124 := (vo_or (vo_eq (off_ty b_0 O1_4 (by decide))) (vo_or (vo_own (OffV.ty O1_4 O0_0 (by decide))) (vo_own A_R0_1_R1_4.symm)))
  have f125 := (ro_or (ro_eq NR2_0_P0) (ro_or (ro_own NR2_0_R0_0) (ro_own NR2_0_R0_1)))
  have f126 := (ro_or (ro_eq NR2_1_P0) (ro_or (ro_own NR2_1_R0_0) (ro_own NR2_1_R0_1)))
  have c127 : ∀ k, (k = G_0 ∨ some k = Value.ownBlock V0_0 ∨ some k = Value.ownBlock V0_1) → (w.heap.size ≤ k ∨ (k = G_0 ∨ some k = Value.ownBlock V0_0 ∨ some k = Value.ownBlock V0_1 ∨ k = G_1 ∨ some k = Value.ownBlock V1_0 ∨ some k = Value.ownBlock V1_1 ∨ some k = Value.ownBlock V1_2 ∨ some k = Value.ownBlock V1_3 ∨ some k = Value.ownBlock V1_4)) := (cv_or (cv_eq (.inr (.inl rfl))) (cv_or (cv_own M0_0) (cv_own M0_1)))
  refine cw_drawW 17 8 (fun j => j = G_0 ∨ some j = Value.ownBlock V0_0 ∨ some j = Value.ownBlock V0_1) [fun vz wz => vz = (.pointer (some ⟨G_0, 0, none⟩) : Value), fun vz wz => vz = (.pointer (some ⟨G26, 1, none⟩) : Value), fun vz wz => vz = (.int .i64 a2.At : Value), fun vz wz => vz = (.pointer (some ⟨G26, 2, none⟩) : Value), fun vz wz => vz = (.int .i64 a2.I : Value), fun vz wz => vz = (.pointer (some ⟨G26, 4, none⟩) : Value), fun vz wz => vz = (.pointer (some ⟨G26, 6, none⟩) : Value), fun vz wz => vz = (.int .u64 a2.A.W : Value), fun vz wz => ∃ u109 : Value, ∃ u113 : Value, ∃ o110 : Own k_pmem_cell 142 wz 0 u109 t106.2.cells, ∃ m111 : ∀ g, Value.ownBlock u109 = some g → w31.heap.size ≤ g ∨ (g = G_0 ∨ some g = Value.ownBlock V0_0 ∨ some g = Value.ownBlock V0_1), ∃ o114 : Own (kI .i64) 3 wz 0 u113 t106.2.plan.list, ∃ m115 : ∀ g, Value.ownBlock u113 = some g → w31.heap.size ≤ g ∨ (g = G_0 ∨ some g = Value.ownBlock V0_0 ∨ some g = Value.ownBlock V0_1), ∃ b117 : Blk wz G_0 139 [Seg.cell u109 o110.one, Seg.cell u113 o114.one, Seg.cell (.int .i64 t106.2.plan.at_), Seg.cell (.bool t106.2.off), Seg.cell (.bool t106.2.armed), Seg.cell (.int .i64 t106.2.left), Seg.cell (.int .i64 t106.2.steps)], vz = (.int .i64 t106.1 : Value), fun vz wz => vz = (.pointer (some ⟨G_1, 0, none⟩) : Value), fun vz wz => vz = (.pointer (some ⟨G26, 1, none⟩) : Value), fun vz wz => vz = (.int .i64 a2.At : Value), fun vz wz => vz = (.pointer (some ⟨G26, 2, none⟩) : Value), fun vz wz => vz = (.int .i64 a2.I : Value), fun vz wz => vz = (.pointer (some ⟨G26, 4, none⟩) : Value), fun vz wz => vz = (.pointer (some ⟨G26, 6, none⟩) : Value), fun vz wz => vz = (.int .u64 a2.A.W : Value)] mo rfl ⟨fun _ _ _ h _ => h, fun _ _ _ h _ => h, fun _ _ _ h _ => h, fun _ _ _ h _ => h, fun _ _ _ h _ => h, fun _ _ _ h _ => h, fun _ _ _ h _ => h, fun _ _ _ h _ => h, fun _ _ _ ⟨u109, u113, o110, m111, o114, m115, b117, h⟩ q => ⟨u109, u113, o110.gr q, m111, o114.gr q, m115, b117.gr q, h⟩, fun _ _ _ h _ => h, fun _ _ _ h _ => h, fun _ _ _ h _ => h, fun _ _ _ h _ => h, fun _ _ _ h _ => h, fun _ _ _ h _ => h, fun _ _ _ h _ => h, fun _ _ _ h _ => h, trivial⟩ ⟨.inr fun _ _ _ h _ => h, .inr fun _ _ _ h _ => h, .inr fun _ _ _ h _ => h, .inr fun _ _ _ h _ => h, .inr fun _ _ _ h _ => h, .inr fun _ _ _ h _ => h, .inr fun _ _ _ h _ => h, .inr fun _ _ _ h _ => h, .inl rfl, .inr fun _ _ _ h _ => h, .inr fun _ _ _ h _ => h, .inr fun _ _ _ h _ => h, .inr fun _ _ _ h _ => h, .inr fun _ _ _ h _ => h, .inr fun _ _ _ h _ => h, .inr fun _ _ _ h _ => h, .inr fun _ _ _ h _ => h, trivial⟩ ?_ ?_
  ·refine ⟨?_, ?_, ?_, ?_, ?_, ?_, ?_, ?_, ?_, ?_, ?_, ?_, ?_, ?_, ?_, ?_, ?_, trivial⟩
   ·intro ρz wz hz0 hz1 hk hd
    have hz := hz1 rfl
    refine sk_other rfl ?_
    exact sk_val (v := .pointer (some ⟨G_0, 0, none⟩)) (by exact xr_move rfl ((hk 0 rfl).trans rfl)) rfl rfl
   ·intro ρz wz hz0 hz1 hk hd
    have hz := hz1 rfl
    refine sk_other rfl ?_
    exact sk_val (v := .pointer (some ⟨G26, 1, none⟩)) (by exact xr_fieldAddr (p := 0) (q := 1) rfl fl85_1 ((hk 5 rfl).trans rfl)) rfl rfl
   ·intro ρz wz hz0 hz1 hk hd
    have hz := hz1 rfl
    have d31 := hd 1 rfl 31 rfl
    refine sk_other rfl ?_
    exact sk_val (v := .int .i64 a2.At) (by exact xr_load1 (v := .int .i64 a2.At) rfl ag3 d31 ((b27.fr hz f119).seg 1 rfl rfl)) rfl rfl
   ·intro ρz wz hz0 hz1 hk hd
    have hz := hz1 rfl
    refine sk_other rfl ?_
    exact sk_val (v := .pointer (some ⟨G26, 2, none⟩)) (by exact xr_fieldAddr (p := 0) (q := 2) rfl fl85_2 ((hk 5 rfl).trans rfl)) rfl rfl
   ·intro ρz wz hz0 hz1 hk hd
    have hz := hz1 rfl
    have d33 := hd 3 rfl 33 rfl
    refine sk_other rfl ?_
    exact sk_val (v := .int .i64 a2.I) (by exact xr_load1 (v := .int .i64 a2.I) rfl ag3 d33 ((b27.fr hz f119).seg 2 rfl rfl)) rfl rfl
   ·intro ρz wz hz0 hz1 hk hd
    have hz := hz1 rfl
    refine sk_other rfl ?_
    exact sk_val (v := .pointer (some ⟨G26, 4, none⟩)) (by exact xr_fieldAddr (p := 0) (q := 4) rfl fl85_4 ((hk 5 rfl).trans rfl)) rfl rfl
   ·intro ρz wz hz0 hz1 hk hd
    have hz := hz1 rfl
    have d35 := hd 5 rfl 35 rfl
    refine sk_other rfl ?_
    exact sk_val (v := .pointer (some ⟨G26, 6, none⟩)) (by exact xr_fieldAddr (p := 4) (q := 2) rfl fl39_2 d35) rfl rfl
   ·intro ρz wz hz0 hz1 hk hd
    have hz := hz1 rfl
    have d36 := hd 6 rfl 36 rfl
    refine sk_other rfl ?_
    exact sk_val (v := .int .u64 a2.A.W) (by exact xr_load1 (v := .int .u64 a2.A.W) rfl ag22 d36 ((b27.fr hz f119).seg 6 rfl rfl)) rfl rfl
   ·intro ρz wz hz0 hz1 hk hd
    have hz := hz0 rfl
    have d30 := hd 0 rfl 30 rfl
    have d32 := hd 2 rfl 32 rfl
    have d34 := hd 4 rfl 34 rfl
    have d37 := hd 7 rfl 37 rfl
    refine sk_writer rfl (by exact opv_call rfl cal57 (ac d30 (ac d32 (ac d34 (ac d37 an)))) (press_Word.ok fu _ a0 G_0 V0_0 (Own.base (O0_0.gr hz) (Nat.zero_le _)) V0_1 (Own.base (O0_1.gr hz) (Nat.zero_le _)) (b_0.gr hz) a2.At a2.I a2.A.W _ k107)) rfl ?_
    rintro _ wy ⟨u109, u113, o110, m111, o114, m115, rfl, b_0, q108⟩
    exact ⟨⟨u109, u113, o110, (fun g hg => (m111 g hg).elim (fun x => .inl (Nat.le_trans hz.size x)) .inr), o114, (fun g hg => (m115 g hg).elim (fun x => .inl (Nat.le_trans hz.size x)) .inr), b_0, rfl⟩, q108⟩
   ·intro ρz wz hz0 hz1 hk hd
    have hz := hz1 rfl
    refine sk_other rfl ?_
    exact sk_val (v := .pointer (some ⟨G_1, 0, none⟩)) (by exact xr_move rfl ((hk 1 rfl).trans rfl)) rfl rfl
   ·intro ρz wz hz0 hz1 hk hd
    have hz := hz1 rfl
    refine sk_other rfl ?_
    exact sk_val (v := .pointer (some ⟨G26, 1, none⟩)) (by exact xr_fieldAddr (p := 0) (q := 1) rfl fl85_1 ((hk 5 rfl).trans rfl)) rfl rfl
   ·intro ρz wz hz0 hz1 hk hd
    have hz := hz1 rfl
    have d40 := hd 10 rfl 40 rfl
    refine sk_other rfl ?_
    exact sk_val (v := .int .i64 a2.At) (by exact xr_load1 (v := .int .i64 a2.At) rfl ag3 d40 ((b27.fr hz f119).seg 1 rfl rfl)) rfl rfl
   ·intro ρz wz hz0 hz1 hk hd
    have hz := hz1 rfl
    refine sk_other rfl ?_
    exact sk_val (v := .pointer (some ⟨G26, 2, none⟩)) (by exact xr_fieldAddr (p := 0) (q := 2) rfl fl85_2 ((hk 5 rfl).trans rfl)) rfl rfl
   ·intro ρz wz hz0 hz1 hk hd
    have hz := hz1 rfl
    have d42 := hd 12 rfl 42 rfl
    refine sk_other rfl ?_
    exact sk_val (v := .int .i64 a2.I) (by exact xr_load1 (v := .int .i64 a2.I) rfl ag3 d42 ((b27.fr hz f119).seg 2 rfl rfl)) rfl rfl
   ·intro ρz wz hz0 hz1 hk hd
    have hz := hz1 rfl
    refine sk_other rfl ?_
    exact sk_val (v := .pointer (some ⟨G26, 4, none⟩)) (by exact xr_fieldAddr (p := 0) (q := 4) rfl fl85_4 ((hk 5 rfl).trans rfl)) rfl rfl
   ·intro ρz wz hz0 hz1 hk hd
    have hz := hz1 rfl
    have d44 := hd 14 rfl 44 rfl
    refine sk_other rfl ?_
    exact sk_val (v := .pointer (some ⟨G26, 6, none⟩)) (by exact xr_fieldAddr (p := 4) (q := 2) rfl fl39_2 d44) rfl rfl
   intro ρz wz hz0 hz1 hk hd
   have hz := hz1 rfl
   have d45 := hd 15 rfl 45 rfl
   refine sk_other rfl ?_
   exact sk_val (v := .int .u64 a2.A.W) (by exact xr_load1 (v := .int .u64 a2.A.W) rfl ag22 d45 ((b27.fr hz f119).seg 6 rfl rfl)) rfl rfl
  intro ρ128 w129 q130 hk hd
  obtain ⟨u131, u132, o133, m134, o135, m136, b137, e38⟩ := hd 8 rfl 38 rfl
  have e39 := hd 9 rfl 39 rfl
  have e41 := hd 11 rfl 41 rfl
  have e43 := hd 13 rfl 43 rfl
  have e46 := hd 16 rfl 46 rfl
  have a138 := ov_new O1_4 f124 m136
  have m134 : ∀ g, Value.ownBlock u131 = some g → w.heap.size ≤ g ∨ (g = G_0 ∨ some g = Value.ownBlock V0_0 ∨ some g = Value.ownBlock V0_1 ∨ g = G_1 ∨ some g = Value.ownBlock V1_0 ∨ some g = Value.ownBlock V1_1 ∨ some g = Value.ownBlock V1_2 ∨ some g = Value.ownBlock V1_3 ∨ some g = Value.ownBlock V1_4) := fun g hg => (m134 g hg).elim (fun x => .inl (Nat.le_trans fB.size x)) (c127 g)
  have m136 : ∀ g, Value.ownBlock u132 = some g → w.heap.size ≤ g ∨ (g = G_0 ∨ some g = Value.ownBlock V0_0 ∨ some g = Value.ownBlock V0_1 ∨ g = G_1 ∨ some g = Value.ownBlock V1_0 ∨ some g = Value.ownBlock V1_1 ∨ some g = Value.ownBlock V1_2 ∨ some g = Value.ownBlock V1_3 ∨ some g = Value.ownBlock V1_4) := fun g hg => (m136 g hg).elim (fun x => .inl (Nat.le_trans fB.size x)) (c127 g)
  have b_1 := b_1.fr q130 f118
  have O1_0 := O1_0.fr q130 f120
  have O1_1 := O1_1.fr q130 f121
  have O1_2 := O1_2.fr q130 f122
  have O1_3 := O1_3.fr q130 f123
  have O1_4 := O1_4.fr q130 f124
  have fB := fB.call q130 c127
  obtain ⟨t139, k140, h⟩ := bs h
  have f165 := (nb_or ne_P0_P1 (nb_or (nb_off (off_ty b137 O1_0 (by decide))) (nb_or (nb_off (off_ty b137 O1_1 (by decide))) (nb_or (nb_off (off_ty b137 O1_2 (by decide))) (nb_or (nb_off (off_ty b137 O1_3 (by decide))) (nb_off (off_ty b137 O1_4 (by decide))))))))
  have f166 := (vo_or (vo_eq (off_ty b_1 o133 (by decide))) (vo_or (vo_own (OffV.ty o133 O1_0 (by decide))) (vo_or (vo_own (OffV.ty o133 O1_1 (by decide))) (vo_or (vo_own (OffV.ty o133 O1_2 (by decide))) (vo_or (vo_own (OffV.ty o133 O1_3 (by decide))) (vo_own (OffV.ty o133 O1_4 (by decide))))))))
  have f167 := (vo_or (vo_eq (off_ty b_1 o135 (by decide))) (vo_or (vo_own (OffV.ty o135 O1_0 (by decide))) (vo_or (vo_own (OffV.ty o135 O1_1 (by decide))) (vo_or (vo_own (OffV.ty o135 O1_2 (by decide))) (vo_or (vo_own (OffV.ty o135 O1_3 (by decide))) (vo_own a138.symm))))))
  have c168 : ∀ k, (k = G_1 ∨ some k = Value.ownBlock V1_0 ∨ some k = Value.ownBlock V1_1 ∨ some k = Value.ownBlock V1_2 ∨ some k = Value.ownBlock V1_3 ∨ some k = Value.ownBlock V1_4) → (w.heap.size ≤ k ∨ (k = G_0 ∨ some k = Value.ownBlock V0_0 ∨ some k = Value.ownBlock V0_1 ∨ k = G_1 ∨ some k = Value.ownBlock V1_0 ∨ some k = Value.ownBlock V1_1 ∨ some k = Value.ownBlock V1_2 ∨ some k = Value.ownBlock V1_3 ∨ some k = Value.ownBlock V1_4)) := (cv_or (cv_eq (.inr (.inr (.inr (.inr (.inl rfl)))))) (cv_or (cv_own M1_0) (cv_or (cv_own M1_1) (cv_or (cv_own M1_2) (cv_or (cv_own M1_3) (cv_own M1_4))))))
  refine ol_op (by exact opv_call rfl cal106 (ac e39 (ac e41 (ac e43 (ac e46 an)))) (rickyardref15_Word.ok fu _ a1 G_1 V1_0 (Own.base O1_0 (Nat.zero_le _)) V1_1 (Own.base O1_1 (Nat.zero_le _)) V1_2 (Own.base O1_2 (Nat.zero_le _)) V1_3 (Own.base O1_3 (Nat.zero_le _)) V1_4 (Own.base O1_4 (Nat.zero_le _)) b_1 a2.At a2.I a2.A.W A_R1_0_R1_1 A_R1_0_R1_2 A_R1_1_R1_2 _ k140)) rfl rfl rfl ?_
  rintro _ w169 ⟨u142, u146, u150, u154, u158, o143, m144, o147, m148, o151, m152, o155, m156, o159, m160, a162, a163, a164, rfl, b_1, q141⟩
  have a170 := ov_new o135 f167 m160
  have m144 : ∀ g, Value.ownBlock u142 = some g → w.heap.size ≤ g ∨ (g = G_0 ∨ some g = Value.ownBlock V0_0 ∨ some g = Value.ownBlock V0_1 ∨ g = G_1 ∨ some g = Value.ownBlock V1_0 ∨ some g = Value.ownBlock V1_1 ∨ some g = Value.ownBlock V1_2 ∨ some g = Value.ownBlock V1_3 ∨ some g = Value.ownBlock V1_4) := fun g hg => (m144 g hg).elim (fun x => .inl (Nat.le_trans fB.size x)) (c168 g)
  have m148 : ∀ g, Value.ownBlock u146 = some g → w.heap.size ≤ g ∨ (g = G_0 ∨ some g = Value.ownBlock V0_0 ∨ some g = Value.ownBlock V0_1 ∨ g = G_1 ∨ some g = Value.ownBlock V1_0 ∨ some g = Value.ownBlock V1_1 ∨ some g = Value.ownBlock V1_2 ∨ some g = Value.ownBlock V1_3 ∨ some g = Value.ownBlock V1_4) := fun g hg => (m148 g hg).elim (fun x => .inl (Nat.le_trans fB.size x)) (c168 g)
  have m152 : ∀ g, Value.ownBlock u150 = some g → w.heap.size ≤ g ∨ (g = G_0 ∨ some g = Value.ownBlock V0_0 ∨ some g = Value.ownBlock V0_1 ∨ g = G_1 ∨ some g = Value.ownBlock V1_0 ∨ some g = Value.ownBlock V1_1 ∨ some g = Value.ownBlock V1_2 ∨ some g = Value.ownBlock V1_3 ∨ some g = Value.ownBlock V1_4) := fun g hg => (m152 g hg).elim (fun x => .inl (Nat.le_trans fB.size x)) (c168 g)
  have m156 : ∀ g, Value.ownBlock u154 = some g → w.heap.size ≤ g ∨ (g = G_0 ∨ some g = Value.ownBlock V0_0 ∨ some g = Value.ownBlock V0_1 ∨ g = G_1 ∨ some g = Value.ownBlock V1_0 ∨ some g = Value.ownBlock V1_1 ∨ some g = Value.ownBlock V1_2 ∨ some g = Value.ownBlock V1_3 ∨ some g = Value.ownBlock V1_4) := fun g hg => (m156 g hg).elim (fun x => .inl (Nat.le_trans fB.size x)) (c168 g)
  have m160 : ∀ g, Value.ownBlock u158 = some g → w.heap.size ≤ g ∨ (g = G_0 ∨ some g = Value.ownBlock V0_0 ∨ some g = Value.ownBlock V0_1 ∨ g = G_1 ∨ some g = Value.ownBlock V1_0 ∨ some g = Value.ownBlock V1_1 ∨ some g = Value.ownBlock V1_2 ∨ some g = Value.ownBlock V1_3 ∨ some g = Value.ownBlock V1_4) := fun g hg => (m160 g hg).elim (fun x => .inl (Nat.le_trans fB.size x)) (c168 g)
  have b137 := b137.fr q141 f165
  have o133 := o133.fr q141 f166
  have o135 := o135.fr q141 f167
  have fB := fB.call q141 c168
  refine ol_val (v := .bool (decide (t106.1 = t139.1))) (by exact xr_eqI rfl Try.underlying3 rfl e38 rfl) rfl rfl rfl ?_
  refine ol_val (v := .bool (decide (t106.1 = t139.1))) (by exact xr_assign rfl rfl) rfl rfl rfl ?_
  refine ol_nil ?_
  refine cw_ret ?_
  repeat (first | with_reducible refine thn_r ?_ | with_reducible refine blk_r ?_)
  obtain rfl := Option.some.inj h
  refine fin_ret1 Try.results59 rfl ?_
  exact ⟨_, rfl, u131, u132, u142, u146, u150, u154, u158, o133, m134, o135, m136, o143, m144, o147, m148, o151, m152, o155, m156, o159, m160, a170, a162, a163, a164, rfl, b137, b_1, fB⟩
 refine cw_condF rfl c105 ?_
 refine cw_seq ?_
 refine cw_region ?_
 refine ol_val (v := .bool (decide (a2.Kind = 2))) (by exact xr_eqI rfl Try.underlying3 rfl rfl rfl) rfl rfl rfl ?_
 refine ol_val (v := .bool (decide (a2.Kind = 2))) (by exact xr_assign rfl rfl) rfl rfl rfl ?_
 refine ol_nil ?_
 rcases is h with ⟨c171, h⟩ | ⟨c171, h⟩
 ·refine cw_condT rfl c171 ?_
  refine cw_seq ?_
  refine cw_region ?_
  refine ol_val (v := .pointer (some ⟨G_0, 0, none⟩)) (by exact xr_move rfl rfl) rfl rfl rfl ?_
  obtain ⟨t172, k173, h⟩ := bs h
  have f183 := (nb_or ne_P0_P1.symm (nb_or (nb_off (off_ty b_1 O0_0 (by decide))) (nb_off (off_ty b_1 O0_1 (by decide)))))
  have f184 := (vo_or (vo_eq (off_ty b_0 O1_0 (by decide))) (vo_or (vo_own (OffV.ty O1_0 O0_0 (by decide))) (vo_own (OffV.ty O1_0 O0_1 (by decide)))))
  have f185 := (vo_or (vo_eq (off_ty b_0 O1_1 (by decide))) (vo_or (vo_own (OffV.ty O1_1 O0_0 (by decide))) (vo_own (OffV.ty O1_1 O0_1 (by decide)))))
  have f186 := (vo_or (vo_eq (off_ty b_0 O1_2 (by decide))) (vo_or (vo_own (OffV.ty O1_2 O0_0 (by decide))) (vo_own (OffV.ty O1_2 O0_1 (by decide)))))
  have f187 := (vo_or (vo_eq (off_ty b_0 O1_3 (by decide))) (vo_or (vo_own (OffV.ty O1_3 O0_0 (by decide))) (vo_own (OffV.ty O1_3 O0_1 (by decide)))))
  have f188 := (vo_or (vo_eq (off_ty b_0 O1_4 (by decide))) (vo_or (vo_own (OffV.ty O1_4 O0_0 (by decide))) (vo_own A_R0_1_R1_4.symm)))
  have c189 : ∀ k, (k = G_0 ∨ some k = Value.ownBlock V0_0 ∨ some k = Value.ownBlock V0_1) → (w.heap.size ≤ k ∨ (k = G_0 ∨ some k = Value.ownBlock V0_0 ∨ some k = Value.ownBlock V0_1 ∨ k = G_1 ∨ some k = Value.ownBlock V1_0 ∨ some k = Value.ownBlock V1_1 ∨ some k = Value.ownBlock V1_2 ∨ some k = Value.ownBlock V1_3 ∨ some k = Value.ownBlock V1_4)) := (cv_or (cv_eq (.inr (.inl rfl))) (cv_or (cv_own M0_0) (cv_own M0_1)))
  refine ol_op (by exact opv_call rfl cal54 (ac rfl an) (press_Sure.ok fu _ a0 G_0 V0_0 (Own.base O0_0 (Nat.zero_le _)) V0_1 (Own.base O0_1 (Nat.zero_le _)) b_0 _ k173)) rfl rfl rfl ?_
  rintro _ w190 ⟨u175, u179, o176, m177, o180, m181, rfl, b_0, q174⟩
  have a191 := ov_new O1_4 f188 m181
  have m177 : ∀ g, Value.ownBlock u175 = some g → w.heap.size ≤ g ∨ (g = G_0 ∨ some g = Value.ownBlock V0_0 ∨ some g = Value.ownBlock V0_1 ∨ g = G_1 ∨ some g = Value.ownBlock V1_0 ∨ some g = Value.ownBlock V1_1 ∨ some g = Value.ownBlock V1_2 ∨ some g = Value.ownBlock V1_3 ∨ some g = Value.ownBlock V1_4) := fun g hg => (m177 g hg).elim (fun x => .inl (Nat.le_trans fB.size x)) (c189 g)
  have m181 : ∀ g, Value.ownBlock u179 = some g → w.heap.size ≤ g ∨ (g = G_0 ∨ some g = Value.ownBlock V0_0 ∨ some g = Value.ownBlock V0_1 ∨ g = G_1 ∨ some g = Value.ownBlock V1_0 ∨ some g = Value.ownBlock V1_1 ∨ some g = Value.ownBlock V1_2 ∨ some g = Value.ownBlock V1_3 ∨ some g = Value.ownBlock V1_4) := fun g hg => (m181 g hg).elim (fun x => .inl (Nat.le_trans fB.size x)) (c189 g)
  have b_1 := b_1.fr q174 f183
  have O1_0 := O1_0.fr q174 f184
  have O1_1 := O1_1.fr q174 f185
  have O1_2 := O1_2.fr q174 f186
  have O1_3 := O1_3.fr q174 f187
  have O1_4 := O1_4.fr q174 f188
  have fB := fB.call q174 c189
  refine ol_val (v := .pointer (some ⟨G_1, 0, none⟩)) (by exact xr_move rfl rfl) rfl rfl rfl ?_
  obtain ⟨t192, k193, h⟩ := bs h
  have f218 := (nb_or ne_P0_P1 (nb_or (nb_off (off_ty b_0 O1_0 (by decide))) (nb_or (nb_off (off_ty b_0 O1_1 (by decide))) (nb_or (nb_off (off_ty b_0 O1_2 (by decide))) (nb_or (nb_off (off_ty b_0 O1_3 (by decide))) (nb_off (off_ty b_0 O1_4 (by decide))))))))
  have f219 := (vo_or (vo_eq (off_ty b_1 o176 (by decide))) (vo_or (vo_own (OffV.ty o176 O1_0 (by decide))) (vo_or (vo_own (OffV.ty o176 O1_1 (by decide))) (vo_or (vo_own (OffV.ty o176 O1_2 (by decide))) (vo_or (vo_own (OffV.ty o176 O1_3 (by decide))) (vo_own (OffV.ty o176 O1_4 (by decide))))))))
  have f220 := (vo_or (vo_eq (off_ty b_1 o180 (by decide))) (vo_or (vo_own (OffV.ty o180 O1_0 (by decide))) (vo_or (vo_own (OffV.ty o180 O1_1 (by decide))) (vo_or (vo_own (OffV.ty o180 O1_2 (by decide))) (vo_or (vo_own (OffV.ty o180 O1_3 (by decide))) (vo_own a191.symm))))))
  have c221 : ∀ k, (k = G_1 ∨ some k = Value.ownBlock V1_0 ∨ some k = Value.ownBlock V1_1 ∨ some k = Value.ownBlock V1_2 ∨ some k = Value.ownBlock V1_3 ∨ some k = Value.ownBlock V1_4) → (w.heap.size ≤ k ∨ (k = G_0 ∨ some k = Value.ownBlock V0_0 ∨ some k = Value.ownBlock V0_1 ∨ k = G_1 ∨ some k = Value.ownBlock V1_0 ∨ some k = Value.ownBlock V1_1 ∨ some k = Value.ownBlock V1_2 ∨ some k = Value.ownBlock V1_3 ∨ some k = Value.ownBlock V1_4)) := (cv_or (cv_eq (.inr (.inr (.inr (.inr (.inl rfl)))))) (cv_or (cv_own M1_0) (cv_or (cv_own M1_1) (cv_or (cv_own M1_2) (cv_or (cv_own M1_3) (cv_own M1_4))))))
  refine ol_op (by exact opv_call rfl cal95 (ac rfl an) (rickyardref05_Device_Fence.ok fu _ a1 G_1 V1_0 (Own.base O1_0 (Nat.zero_le _)) V1_1 (Own.base O1_1 (Nat.zero_le _)) V1_2 (Own.base O1_2 (Nat.zero_le _)) V1_3 (Own.base O1_3 (Nat.zero_le _)) V1_4 (Own.base O1_4 (Nat.zero_le _)) b_1 A_R1_0_R1_1 A_R1_0_R1_2 A_R1_1_R1_2 _ k193)) rfl rfl rfl ?_
  rintro _ w222 ⟨u195, u199, u203, u207, u211, o196, m197, o200, m201, o204, m205, o208, m209, o212, m213, a215, a216, a217, rfl, b_1, q194⟩
  have a223 := ov_new o180 f220 m213
  have m197 : ∀ g, Value.ownBlock u195 = some g → w.heap.size ≤ g ∨ (g = G_0 ∨ some g = Value.ownBlock V0_0 ∨ some g = Value.ownBlock V0_1 ∨ g = G_1 ∨ some g = Value.ownBlock V1_0 ∨ some g = Value.ownBlock V1_1 ∨ some g = Value.ownBlock V1_2 ∨ some g = Value.ownBlock V1_3 ∨ some g = Value.ownBlock V1_4) := fun g hg => (m197 g hg).elim (fun x => .inl (Nat.le_trans fB.size x)) (c221 g)
  have m201 : ∀ g, Value.ownBlock u199 = some g → w.heap.size ≤ g ∨ (g = G_0 ∨ some g = Value.ownBlock V0_0 ∨ some g = Value.ownBlock V0_1 ∨ g = G_1 ∨ some g = Value.ownBlock V1_0 ∨ some g = Value.ownBlock V1_1 ∨ some g = Value.ownBlock V1_2 ∨ some g = Value.ownBlock V1_3 ∨ some g = Value.ownBlock V1_4) := fun g hg => (m201 g hg).elim (fun x => .inl (Nat.le_trans fB.size x)) (c221 g)
  have m205 : ∀ g, Value.ownBlock u203 = some g → w.heap.size ≤ g ∨ (g = G_0 ∨ some g = Value.ownBlock V0_0 ∨ some g = Value.ownBlock V0_1 ∨ g = G_1 ∨ some g = Value.ownBlock V1_0 ∨ some g = Value.ownBlock V1_1 ∨ some g = Value.ownBlock V1_2 ∨ some g = Value.ownBlock V1_3 ∨ some g = Value.ownBlock V1_4) := fun g hg => (m205 g hg).elim (fun x => .inl (Nat.le_trans fB.size x)) (c221 g)
  have m209 : ∀ g, Value.ownBlock u207 = some g → w.heap.size ≤ g ∨ (g = G_0 ∨ some g = Value.ownBlock V0_0 ∨ some g = Value.ownBlock V0_1 ∨ g = G_1 ∨ some g = Value.ownBlock V1_0 ∨ some g = Value.ownBlock V1_1 ∨ some g = Value.ownBlock V1_2 ∨ some g = Value.ownBlock V1_3 ∨ some g = Value.ownBlock V1_4) := fun g hg => (m209 g hg).elim (fun x => .inl (Nat.le_trans fB.size x)) (c221 g)
  have m213 : ∀ g, Value.ownBlock u211 = some g → w.heap.size ≤ g ∨ (g = G_0 ∨ some g = Value.ownBlock V0_0 ∨ some g = Value.ownBlock V0_1 ∨ g = G_1 ∨ some g = Value.ownBlock V1_0 ∨ some g = Value.ownBlock V1_1 ∨ some g = Value.ownBlock V1_2 ∨ some g = Value.ownBlock V1_3 ∨ some g = Value.ownBlock V1_4) := fun g hg => (m213 g hg).elim (fun x => .inl (Nat.le_trans fB.size x)) (c221 g)
  have b_0 := b_0.fr q194 f218
  have o176 := o176.fr q194 f219
  have o180 := o180.fr q194 f220
  have fB := fB.call q194 c221
  refine ol_val (v := .bool (decide (t172.1 = t192.1))) (by exact xr_eqI rfl Try.underlying3 rfl rfl rfl) rfl rfl rfl ?_
  refine ol_val (v := .bool (decide (t172.1 = t192.1))) (by exact xr_assign rfl rfl) rfl rfl rfl ?_
  refine ol_nil ?_
  refine cw_ret ?_
  repeat (first | with_reducible refine thn_r ?_ | with_reducible refine blk_r ?_)
  obtain rfl := Option.some.inj h
  refine fin_ret1 Try.results59 rfl ?_
  exact ⟨_, rfl, u175, u179, u195, u199, u203, u207, u211, o176, m177, o180, m181, o196, m197, o200, m201, o204, m205, o208, m209, o212, m213, a223, a215, a216, a217, rfl, b_0, b_1, fB⟩
 refine cw_condF rfl c171 ?_
 refine cw_seq ?_
 refine cw_region ?_
 refine ol_val (v := .bool (decide (a2.Kind = 3))) (by exact xr_eqI rfl Try.underlying3 rfl rfl rfl) rfl rfl rfl ?_
 refine ol_val (v := .bool (decide (a2.Kind = 3))) (by exact xr_assign rfl rfl) rfl rfl rfl ?_
 refine ol_nil ?_
 rcases is h with ⟨c224, h⟩ | ⟨c224, h⟩
 ·refine cw_condT rfl c224 ?_
  refine cw_seq ?_
  refine cw_region ?_
  refine ol_val (v := .pointer (some ⟨G_0, 0, none⟩)) (by exact xr_move rfl rfl) rfl rfl rfl ?_
  refine ol_val (v := .pointer (some ⟨G26, 1, none⟩)) (by exact xr_fieldAddr (p := 0) (q := 1) rfl fl85_1 rfl) rfl rfl rfl ?_
  refine ol_val (v := .int .i64 a2.At) (by exact xr_load1 (v := .int .i64 a2.At) rfl ag3 rfl (b27.seg 1 rfl rfl)) rfl rfl rfl ?_
  obtain ⟨t225, k226, h⟩ := bs h
  refine ol_op (by exact opv_call rfl cal55 (ac rfl (ac rfl an)) (press_Read.ok fu _ a0 G_0 V0_0 (O0_0.rd) V0_1 (O0_1.rd) b_0 a2.At _ k226)) rfl rfl rfl ?_
  rintro _ w231 ⟨u227, o228, rfl, q230⟩
  have a232 := OffRV.call R2_0 o228 rfl
  have a233 := OffRV.call R2_1 o228 rfl
  have o228 := Own.base o228 fB.size
  have b_0 := b_0.gr q230
  have b_1 := b_1.gr q230
  have b27 := b27.gr q230
  have O0_0 := O0_0.gr q230
  have O0_1 := O0_1.gr q230
  have O1_0 := O1_0.gr q230
  have O1_1 := O1_1.gr q230
  have O1_2 := O1_2.gr q230
  have O1_3 := O1_3.gr q230
  have O1_4 := O1_4.gr q230
  have R2_0 := R2_0.gr q230
  have R2_1 := R2_1.gr q230
  have fB := fB.gr q230
  refine ol_val (v := .tuple #[u227, .int .i64 t225.2]) (by exact xr_move rfl rfl) rfl rfl rfl ?_
  refine ol_val (v := u227) (by exact xr_extract rfl rfl rfl) rfl rfl rfl ?_
  refine ol_val (v := .int .i64 t225.2) (by exact xr_extract rfl rfl rfl) rfl rfl rfl ?_
  refine ol_val (v := u227) (by exact xr_assign rfl rfl) rfl rfl rfl ?_
  refine ol_val (v := .int .i64 t225.2) (by exact xr_assign rfl rfl) rfl rfl rfl ?_
  refine ol_nil ?_
  refine cw_seq ?_
  refine cw_region ?_
  refine ol_val (v := .pointer (some ⟨G_1, 0, none⟩)) (by exact xr_move rfl rfl) rfl rfl rfl ?_
  refine ol_val (v := .pointer (some ⟨G26, 1, none⟩)) (by exact xr_fieldAddr (p := 0) (q := 1) rfl fl85_1 rfl) rfl rfl rfl ?_
  refine ol_val (v := .int .i64 a2.At) (by exact xr_load1 (v := .int .i64 a2.At) rfl ag3 rfl (b27.seg 1 rfl rfl)) rfl rfl rfl ?_
  obtain ⟨t234, k235, h⟩ := bs h
  refine ol_op (by exact opv_call rfl cal107 (ac rfl (ac rfl an)) (rickyardref15_Read.ok fu _ a1 G_1 V1_0 (O1_0.rd) V1_1 (O1_1.rd) V1_2 (O1_2.rd) V1_3 (O1_3.rd) V1_4 (O1_4.rd) b_1 a2.At _ k235)) rfl rfl rfl ?_
  rintro _ w237 ⟨rfl, q236⟩
  have b_0 := b_0.gr q236
  have b_1 := b_1.gr q236
  have O0_0 := O0_0.gr q236
  have O0_1 := O0_1.gr q236
  have O1_0 := O1_0.gr q236
  have O1_1 := O1_1.gr q236
  have O1_2 := O1_2.gr q236
  have O1_3 := O1_3.gr q236
  have O1_4 := O1_4.gr q236
  have o228 := o228.gr q236
  have fB := fB.gr q236
  refine ol_val (v := .tuple #[sv t234.1, .int .i64 t234.2]) (by exact xr_move rfl rfl) rfl rfl rfl ?_
  refine ol_val (v := sv t234.1) (by exact xr_extract rfl rfl rfl) rfl rfl rfl ?_
  refine ol_val (v := .int .i64 t234.2) (by exact xr_extract rfl rfl rfl) rfl rfl rfl ?_
  refine ol_val (v := sv t234.1) (by exact xr_assign rfl rfl) rfl rfl rfl ?_
  refine ol_val (v := .int .i64 t234.2) (by exact xr_assign rfl rfl) rfl rfl rfl ?_
  refine ol_nil ?_
  refine cw_seq ?_
  refine cw_mid (fun ρ' w' => ρ' 6 = .bool (if (decide ((List.map toB t225.1) = t234.1)) = true then (decide (t225.2 = t234.2)) else false) ∧ w237 = w') ?_ ?_
  ·skip
   refine cw_region ?_
   refine ol_val (v := u227) (by exact xr_move rfl rfl) rfl rfl rfl ?_
   refine ol_val (v := sv (List.map toB t225.1)) (by exact xr_toStr rfl Try.underlying43 Try.underlying5 Try.underlying9 rfl o228.rd) rfl rfl rfl ?_
   refine ol_val (v := sv t234.1) (by exact xr_move rfl rfl) rfl rfl rfl ?_
   refine ol_val (v := .bool (decide ((List.map toB t225.1) = t234.1))) (by exact xr_eqStr rfl Try.underlying9 rfl rfl) rfl rfl rfl ?_
   refine ol_val (v := .bool (decide ((List.map toB t225.1) = t234.1))) (by exact xr_move rfl rfl) rfl rfl rfl ?_
   rcases bt (decide ((List.map toB t225.1) = t234.1)) with c238 | c238
   ·skip
    refine ol_gval (v := .int .i64 t225.2) (by exact xr_move rfl rfl) rfl rfl rfl rfl rfl c238 ?_
    refine ol_gval (v := .int .i64 t234.2) (by exact xr_move rfl rfl) rfl rfl rfl rfl rfl c238 ?_
    refine ol_gval (v := .bool (decide (t225.2 = t234.2))) (by exact xr_eqI rfl Try.underlying3 rfl rfl rfl) rfl rfl rfl rfl rfl c238 ?_
    refine ol_val (v := .bool (decide (t225.2 = t234.2))) (by exact xr_pickT rfl rfl c238 rfl) rfl rfl rfl ?_
    refine ol_val (v := .bool (decide (t225.2 = t234.2))) (by exact xr_assign rfl rfl) rfl rfl rfl ?_
    refine ol_nil ?_
    refine thn_i ?_
    exact ⟨(rfl).trans (congrArg (fun z => (.bool z : Value)) (show (decide (t225.2 = t234.2)) = (if (decide ((List.map toB t225.1) = t234.1)) = true then (decide (t225.2 = t234.2)) else false) from by rw [ite_t c238])), rfl⟩
   refine ol_gskip rfl rfl rfl rfl rfl c238 ?_
   refine ol_gskip rfl rfl rfl rfl rfl c238 ?_
   refine ol_gskip rfl rfl rfl rfl rfl c238 ?_
   refine ol_val (v := .bool false) (by exact xr_pickF rfl rfl c238 rfl) rfl rfl rfl ?_
   refine ol_val (v := .bool false) (by exact xr_assign rfl rfl) rfl rfl rfl ?_
   refine ol_nil ?_
   refine thn_i ?_
   exact ⟨(rfl).trans (congrArg (fun z => (.bool z : Value)) (show false = (if (decide ((List.map toB t225.1) = t234.1)) = true then (decide (t225.2 = t234.2)) else false) from by rw [ite_f c238])), rfl⟩
  rintro ρ239 _ ⟨e6, rfl⟩
  refine cw_ret ?_
  repeat (first | with_reducible refine thn_r ?_ | with_reducible refine blk_r ?_)
  obtain rfl := Option.some.inj h
  refine fin_ret1 Try.results59 e6 ?_
  exact ⟨_, rfl, V0_0, V0_1, V1_0, V1_1, V1_2, V1_3, V1_4, O0_0, M0_0, O0_1, M0_1, O1_0, M1_0, O1_1, M1_1, O1_2, M1_2, O1_3, M1_3, O1_4, M1_4, A_R0_1_R1_4, A_R1_0_R1_1, A_R1_0_R1_2, A_R1_1_R1_2, rfl, b_0, b_1, fB⟩
 refine cw_condF rfl c224 ?_
 refine cw_skip ?_
 refine blk_i ?_
 refine cw_seq ?_
 refine cw_region ?_
 refine ol_val (v := .pointer (some ⟨G_0, 0, none⟩)) (by exact xr_move rfl rfl) rfl rfl rfl ?_
 refine ol_val (v := .pointer (some ⟨G26, 4, none⟩)) (by exact xr_fieldAddr (p := 0) (q := 4) rfl fl85_4 rfl) rfl rfl rfl ?_
 refine ol_val (v := aggV [Seg.cell (.int .i64 a2.A.Kind), Seg.cell (.int .i64 a2.A.At), Seg.cell (.int .u64 a2.A.W), Seg.cell V2_1 R2_1.one]) (by exact xr_loadS (ss := [Seg.cell (.int .i64 a2.A.Kind), Seg.cell (.int .i64 a2.A.At), Seg.cell (.int .u64 a2.A.W), Seg.cell V2_1 R2_1.one]) rfl ag39 sz39 rfl rfl (b27.segs 4 4 rfl)) rfl rfl rfl ?_
 obtain ⟨t240, k241, h⟩ := bs h
 have f251 := (nb_or ne_P0_P1.symm (nb_or (nb_off (off_ty b_1 O0_0 (by decide))) (nb_off (off_ty b_1 O0_1 (by decide)))))
 have f252 := (nb_or n32.symm (nb_or (nb_off (off_ty b27 O0_0 (by decide))) (nb_off (off_ty b27 O0_1 (by decide)))))
 have f253 := (vo_or (vo_eq (off_ty b_0 O1_0 (by decide))) (vo_or (vo_own (OffV.ty O1_0 O0_0 (by decide))) (vo_own (OffV.ty O1_0 O0_1 (by decide)))))
 have f254 := (vo_or (vo_eq (off_ty b_0 O1_1 (by decide))) (vo_or (vo_own (OffV.ty O1_1 O0_0 (by decide))) (vo_own (OffV.ty O1_1 O0_1 (by decide)))))
 have f255 := (vo_or (vo_eq (off_ty b_0 O1_2 (by decide))) (vo_or (vo_own (OffV.ty O1_2 O0_0 (by decide))) (vo_own (OffV.ty O1_2 O0_1 (by decide)))))
 have f256 := (vo_or (vo_eq (off_ty b_0 O1_3 (by decide))) (vo_or (vo_own (OffV.ty O1_3 O0_0 (by decide))) (vo_own (OffV.ty O1_3 O0_1 (by decide)))))
 have f257 := (vo_or (vo_eq (off_ty b_0 O1_4 (by decide))) (vo_or (vo_own (OffV.ty O1_4 O0_0 (by decide))) (vo_own A_R0_1_R1_4.symm)))
 have f258 := (ro_or (ro_eq NR2_0_P0) (ro_or (ro_own NR2_0_R0_0) (ro_own NR2_0_R0_1)))
 have f259 := (ro_or (ro_eq NR2_1_P0) (ro_or (ro_own NR2_1_R0_0) (ro_own NR2_1_R0_1)))
 have c260 : ∀ k, (k = G_0 ∨ some k = Value.ownBlock V0_0 ∨ some k = Value.ownBlock V0_1) → (w.heap.size ≤ k ∨ (k = G_0 ∨ some k = Value.ownBlock V0_0 ∨ some k = Value.ownBlock V0_1 ∨ k = G_1 ∨ some k = Value.ownBlock V1_0 ∨ some k = Value.ownBlock V1_1 ∨ some k = Value.ownBlock V1_2 ∨ some k = Value.ownBlock V1_3 ∨ some k = Value.ownBlock V1_4)) := (cv_or (cv_eq (.inr (.inl rfl))) (cv_or (cv_own M0_0) (cv_own M0_1)))
 refine ol_op (by exact opv_call rfl cal31 (ac rfl (ac rfl an)) (rickyardlaw05_Do.ok fu _ a0 G_0 V0_0 (Own.base O0_0 (Nat.zero_le _)) V0_1 (Own.base O0_1 (Nat.zero_le _)) b_0 a2.A V2_1 (R2_1) NR2_1_P0 NR2_1_R0_0 NR2_1_R0_1 _ k241)) rfl rfl rfl ?_
 rintro _ w261 ⟨u243, u247, o244, m245, o248, m249, rfl, b_0, q242⟩
 have a262 := orv_new R2_0 rfl f258 m245
 have a263 := orv_new R2_1 rfl f259 m245
 have a264 := ov_new O1_4 f257 m249
 have a265 := orv_new R2_0 rfl f258 m249
 have a266 := orv_new R2_1 rfl f259 m249
 have m245 : ∀ g, Value.ownBlock u243 = some g → w.heap.size ≤ g ∨ (g = G_0 ∨ some g = Value.ownBlock V0_0 ∨ some g = Value.ownBlock V0_1 ∨ g = G_1 ∨ some g = Value.ownBlock V1_0 ∨ some g = Value.ownBlock V1_1 ∨ some g = Value.ownBlock V1_2 ∨ some g = Value.ownBlock V1_3 ∨ some g = Value.ownBlock V1_4) := fun g hg => (m245 g hg).elim (fun x => .inl (Nat.le_trans fB.size x)) (c260 g)
 have m249 : ∀ g, Value.ownBlock u247 = some g → w.heap.size ≤ g ∨ (g = G_0 ∨ some g = Value.ownBlock V0_0 ∨ some g = Value.ownBlock V0_1 ∨ g = G_1 ∨ some g = Value.ownBlock V1_0 ∨ some g = Value.ownBlock V1_1 ∨ some g = Value.ownBlock V1_2 ∨ some g = Value.ownBlock V1_3 ∨ some g = Value.ownBlock V1_4) := fun g hg => (m249 g hg).elim (fun x => .inl (Nat.le_trans fB.size x)) (c260 g)
 have b_1 := b_1.fr q242 f251
 have b27 := b27.fr q242 f252
 have O1_0 := O1_0.fr q242 f253
 have O1_1 := O1_1.fr q242 f254
 have O1_2 := O1_2.fr q242 f255
 have O1_3 := O1_3.fr q242 f256
 have O1_4 := O1_4.fr q242 f257
 have R2_0 := R2_0.fr q242 f258
 have R2_1 := R2_1.fr q242 f259
 have fB := fB.call q242 c260
 refine ol_nil ?_
 refine cw_seq ?_
 refine cw_region ?_
 refine ol_val (v := .pointer (some ⟨G_1, 0, none⟩)) (by exact xr_move rfl rfl) rfl rfl rfl ?_
 refine ol_val (v := .pointer (some ⟨G26, 4, none⟩)) (by exact xr_fieldAddr (p := 0) (q := 4) rfl fl85_4 rfl) rfl rfl rfl ?_
 refine ol_val (v := aggV [Seg.cell (.int .i64 a2.A.Kind), Seg.cell (.int .i64 a2.A.At), Seg.cell (.int .u64 a2.A.W), Seg.cell V2_1 R2_1.one]) (by exact xr_loadS (ss := [Seg.cell (.int .i64 a2.A.Kind), Seg.cell (.int .i64 a2.A.At), Seg.cell (.int .u64 a2.A.W), Seg.cell V2_1 R2_1.one]) rfl ag39 sz39 rfl rfl (b27.segs 4 4 rfl)) rfl rfl rfl ?_
 obtain ⟨t267, k268, h⟩ := bs h
 have f293 := (nb_or ne_P0_P1 (nb_or (nb_off (off_ty b_0 O1_0 (by decide))) (nb_or (nb_off (off_ty b_0 O1_1 (by decide))) (nb_or (nb_off (off_ty b_0 O1_2 (by decide))) (nb_or (nb_off (off_ty b_0 O1_3 (by decide))) (nb_off (off_ty b_0 O1_4 (by decide))))))))
 have f294 := (vo_or (vo_eq (off_ty b_1 o244 (by decide))) (vo_or (vo_own (OffV.ty o244 O1_0 (by decide))) (vo_or (vo_own (OffV.ty o244 O1_1 (by decide))) (vo_or (vo_own (OffV.ty o244 O1_2 (by decide))) (vo_or (vo_own (OffV.ty o244 O1_3 (by decide))) (vo_own (OffV.ty o244 O1_4 (by decide))))))))
 have f295 := (vo_or (vo_eq (off_ty b_1 o248 (by decide))) (vo_or (vo_own (OffV.ty o248 O1_0 (by decide))) (vo_or (vo_own (OffV.ty o248 O1_1 (by decide))) (vo_or (vo_own (OffV.ty o248 O1_2 (by decide))) (vo_or (vo_own (OffV.ty o248 O1_3 (by decide))) (vo_own a264.symm))))))
 have f296 := (ro_or (ro_eq NR2_1_P1) (ro_or (ro_own NR2_1_R1_0) (ro_or (ro_own NR2_1_R1_1) (ro_or (ro_own NR2_1_R1_2) (ro_or (ro_own NR2_1_R1_3) (ro_own NR2_1_R1_4))))))
 have c297 : ∀ k, (k = G_1 ∨ some k = Value.ownBlock V1_0 ∨ some k = Value.ownBlock V1_1 ∨ some k = Value.ownBlock V1_2 ∨ some k = Value.ownBlock V1_3 ∨ some k = Value.ownBlock V1_4) → (w.heap.size ≤ k ∨ (k = G_0 ∨ some k = Value.ownBlock V0_0 ∨ some k = Value.ownBlock V0_1 ∨ k = G_1 ∨ some k = Value.ownBlock V1_0 ∨ some k = Value.ownBlock V1_1 ∨ some k = Value.ownBlock V1_2 ∨ some k = Value.ownBlock V1_3 ∨ some k = Value.ownBlock V1_4)) := (cv_or (cv_eq (.inr (.inr (.inr (.inr (.inl rfl)))))) (cv_or (cv_own M1_0) (cv_or (cv_own M1_1) (cv_or (cv_own M1_2) (cv_or (cv_own M1_3) (cv_own M1_4))))))
 refine ol_op (by exact opv_call rfl cal45 (ac rfl (ac rfl an)) (rickyardlaw05_Refs.ok fu _ a1 G_1 V1_0 (Own.base O1_0 (Nat.zero_le _)) V1_1 (Own.base O1_1 (Nat.zero_le _)) V1_2 (Own.base O1_2 (Nat.zero_le _)) V1_3 (Own.base O1_3 (Nat.zero_le _)) V1_4 (Own.base O1_4 (Nat.zero_le _)) b_1 a2.A V2_1 (R2_1) A_R1_0_R1_1 A_R1_0_R1_2 A_R1_1_R1_2 NR2_1_P1 NR2_1_R1_0 NR2_1_R1_1 NR2_1_R1_2 NR2_1_R1_3 NR2_1_R1_4 _ k268)) rfl rfl rfl ?_
 rintro _ w298 ⟨u270, u274, u278, u282, u286, o271, m272, o275, m276, o279, m280, o283, m284, o287, m288, a290, a291, a292, rfl, b_1, q269⟩
 have a299 := ov_new o248 f295 m288
 have m272 : ∀ g, Value.ownBlock u270 = some g → w.heap.size ≤ g ∨ (g = G_0 ∨ some g = Value.ownBlock V0_0 ∨ some g = Value.ownBlock V0_1 ∨ g = G_1 ∨ some g = Value.ownBlock V1_0 ∨ some g = Value.ownBlock V1_1 ∨ some g = Value.ownBlock V1_2 ∨ some g = Value.ownBlock V1_3 ∨ some g = Value.ownBlock V1_4) := fun g hg => (m272 g hg).elim (fun x => .inl (Nat.le_trans fB.size x)) (c297 g)
 have m276 : ∀ g, Value.ownBlock u274 = some g → w.heap.size ≤ g ∨ (g = G_0 ∨ some g = Value.ownBlock V0_0 ∨ some g = Value.ownBlock V0_1 ∨ g = G_1 ∨ some g = Value.ownBlock V1_0 ∨ some g = Value.ownBlock V1_1 ∨ some g = Value.ownBlock V1_2 ∨ some g = Value.ownBlock V1_3 ∨ some g = Value.ownBlock V1_4) := fun g hg => (m276 g hg).elim (fun x => .inl (Nat.le_trans fB.size x)) (c297 g)
 have m280 : ∀ g, Value.ownBlock u278 = some g → w.heap.size ≤ g ∨ (g = G_0 ∨ some g = Value.ownBlock V0_0 ∨ some g = Value.ownBlock V0_1 ∨ g = G_1 ∨ some g = Value.ownBlock V1_0 ∨ some g = Value.ownBlock V1_1 ∨ some g = Value.ownBlock V1_2 ∨ some g = Value.ownBlock V1_3 ∨ some g = Value.ownBlock V1_4) := fun g hg => (m280 g hg).elim (fun x => .inl (Nat.le_trans fB.size x)) (c297 g)
 have m284 : ∀ g, Value.ownBlock u282 = some g → w.heap.size ≤ g ∨ (g = G_0 ∨ some g = Value.ownBlock V0_0 ∨ some g = Value.ownBlock V0_1 ∨ g = G_1 ∨ some g = Value.ownBlock V1_0 ∨ some g = Value.ownBlock V1_1 ∨ some g = Value.ownBlock V1_2 ∨ some g = Value.ownBlock V1_3 ∨ some g = Value.ownBlock V1_4) := fun g hg => (m284 g hg).elim (fun x => .inl (Nat.le_trans fB.size x)) (c297 g)
 have m288 : ∀ g, Value.ownBlock u286 = some g → w.heap.size ≤ g ∨ (g = G_0 ∨ some g = Value.ownBlock V0_0 ∨ some g = Value.ownBlock V0_1 ∨ g = G_1 ∨ some g = Value.ownBlock V1_0 ∨ some g = Value.ownBlock V1_1 ∨ some g = Value.ownBlock V1_2 ∨ some g = Value.ownBlock V1_3 ∨ some g = Value.ownBlock V1_4) := fun g hg => (m288 g hg).elim (fun x => .inl (Nat.le_trans fB.size x)) (c297 g)
 have b_0 := b_0.fr q269 f293
 have o244 := o244.fr q269 f294
 have o248 := o248.fr q269 f295
 have fB := fB.call q269 c297
 refine ol_nil ?_
 refine cw_seq ?_
 refine cw_region ?_
 refine ol_val (v := .bool true) (by exact xr_assign rfl rfl) rfl rfl rfl ?_
 refine ol_nil ?_
 refine cw_ret ?_
 repeat (first | with_reducible refine thn_r ?_ | with_reducible refine blk_r ?_)
 obtain rfl := Option.some.inj h
 refine fin_ret1 Try.results59 rfl ?_
 exact ⟨_, rfl, u243, u247, u270, u274, u278, u282, u286, o244, m245, o248, m249, o271, m272, o275, m276, o279, m280, o283, m284, o287, m288, a299, a290, a291, a292, rfl, b_0, b_1, fB⟩
end Go.Proofs.Ytklhbaghbmndeaa
namespace Go.Xw
open Go
section
variable {P : Program} {N : Nat} {l : List Oper} {Q : Exit → Env → World → Prop}
/-- Of a region the first m operations are done, and no other one. -/
def RD (P : Program) (N : Nat) (l : List Oper) (Q : Exit → Env → World → Prop) (m : Nat) (ρ : Env) (w : World) : Prop :=
  ∀ (fuel : Nat) (listed : Array Bool) (a : Act), Fits N a ρ → listed.size = l.length → (List.range l.length).countP (fun k => !listed.getD k false) ≤ fuel → (∀ k, k < l.length → listed.getD k false = Nat.blt k m) → wpAny P .any l.toArray (lift N Q) fuel listed a w
def backB (l : List Oper) : Bool := (List.range l.length).all fun k => match l[k]? with
  | some o => o.after.toList.all fun e => !Region.binds .any e || Nat.blt e.on k
  | none => false
/-- Operation p comes behind all ahead of it, and all behind it come behind it. -/
def pivB (l : List Oper) (p : Nat) : Bool :=
  ((List.range p).all fun j => (List.range (p + 1)).any fun k => Nat.blt j k && aftB l k j) &&
  ((List.range l.length).all fun i => Nat.ble i p || (List.range i).any fun k => Nat.ble p k && aftB l i k)
/-- Nothing from n on comes up ahead of what stands ahead of n. -/
def bndB (l : List Oper) (n : Nat) : Bool := Nat.beq n l.length || pivB l n || Nat.beq n 0 || pivB l (n - 1)
theorem blt_f {a b : Nat} (h : ¬ a < b) : Nat.blt a b = false := by
  cases hb : Nat.blt a b
  · rfl
  · exact absurd (blt_iff.1 hb) h
theorem beq_f {a b : Nat} (h : ¬ a = b) : Nat.beq a b = false := by
  cases hb : Nat.beq a b
  · rfl
  · exact absurd (Nat.eq_of_beq_eq_true hb) h
theorem piv_listed {listed : Array Bool} {p : Nat} (hp : pivB l p = true) (hcl : ∀ k, listed.getD k false = true → ∀ j, aftB l k j = true → listed.getD j false = true) : ∀ d i, i ≤ d → p < i → i < l.length → (∀ j, aftB l i j = true → listed.getD j false = true) → listed.getD p false = true
  | 0, i, h, h1, _, _ => by omega
  | d + 1, i, h, h1, hil, hi => by
    have h2 := hp
    simp only [pivB, Bool.and_eq_true] at h2
    have h3 := List.all_eq_true.1 h2.2 i (List.mem_range.2 hil)
    have h4 : Nat.ble i p = false := by
      cases hb : Nat.ble i p
      · rfl
      · have := Nat.le_of_ble_eq_true hb
        omega
    rw [h4, Bool.false_or] at h3
    obtain ⟨k, hk, hk2⟩ := List.any_eq_true.1 h3
    rw [Bool.and_eq_true] at hk2
    have hki := List.mem_range.1 hk
    have hpk := Nat.le_of_ble_eq_true hk2.1
    have hlk := hi k hk2.2
    by_cases e : k = p
    · rw [← e]
      exact hlk
    · exact piv_listed hp hcl d k (by omega) (by omega) (by omega) (hcl k hlk)
theorem bnd_all {listed : Array Bool} {n i : Nat} (hb : bndB l n = true) (hcl : ∀ k, listed.getD k false = true → ∀ j, aftB l k j = true → listed.getD j false = true) (hni : n ≤ i) (hil : i < l.length) (hi : ∀ j, aftB l i j = true → listed.getD j false = true) : ∀ j, j < n → listed.getD j false = true := by
  have full : ∀ p, pivB l p = true → (∀ j, aftB l p j = true → listed.getD j false = true) → ∀ j, j < p → listed.getD j false = true := by
    intro p hp hpa j hj
    have h2 := hp
    simp only [pivB, Bool.and_eq_true] at h2
    exact all_before hcl hpa h2.1 p j (by omega) hj
  simp only [bndB, Bool.or_eq_true] at hb
  rcases hb with ((hb | hb) | hb) | hb
  · have := Nat.eq_of_beq_eq_true hb
    omega
  · intro j hj
    by_cases e : i = n
    · subst e
      exact full i hb hi j hj
    · have := piv_listed hb hcl i i (Nat.le_refl _) (by omega) hil hi
      exact full n hb (hcl n this) j hj
  · intro j hj
    have := Nat.eq_of_beq_eq_true hb
    omega
  · intro j hj
    have := piv_listed hb hcl i i (Nat.le_refl _) (by omega) hil hi
    by_cases e : j = n - 1
    · rw [e]
      exact this
    · exact full (n - 1) hb (hcl _ this) j (by omega)
theorem closed_at (hback : backB l = true) {listed : Array Bool} (hsz : listed.size = l.length) {m : Nat} (hl : ∀ k, k < l.length → listed.getD k false = Nat.blt k m) : ∀ k, listed.getD k false = true → ∀ j, aftB l k j = true → listed.getD j false = true := by
  intro k hk j hj
  have hkl : k < l.length := by
    rcases Nat.lt_or_ge k l.length with h | h
    · exact h
    · rw [Array.getD_eq_getD_getElem?, Array.getElem?_eq_none (by omega)] at hk; simp at hk
  have hb := List.all_eq_true.1 hback k (List.mem_range.2 hkl)
  rw [List.getElem?_eq_getElem hkl] at hb
  simp only [aftB, List.getElem?_eq_getElem hkl] at hj
  obtain ⟨e, he, he2⟩ := List.any_eq_true.1 hj
  rw [Bool.and_eq_true] at he2
  have hq := List.all_eq_true.1 hb e he
  rw [he2.1, Nat.eq_of_beq_eq_true he2.2] at hq
  have hjk := blt_iff.1 hq
  have h2 := hl k hkl
  rw [hk] at h2
  have h4 := blt_iff.1 h2.symm
  rw [hl j (by omega)]
  exact blt_iff.2 (by omega)
theorem rd_region {id : Nat} {ρ : Env} {w : World} (hm : P.follows .mixedOrders = true) (h : ∀ w', Gr w w' → RD P N l Q 0 ρ w') : CW P N (.region id l.toArray true) Q ρ w := by
  intro a ha
  refine wp_region_any hm ?_
  have hempty : ∀ k, (Array.replicate l.toArray.size false).getD k false = false := fun k => by rw [Array.getD_eq_getD_getElem?, Array.getElem?_replicate]; split <;> rfl
  refine h _ (Fr.drew w) l.toArray.size _ a ha (by simp) (Nat.le_trans (List.countP_le_length) (by simp)) fun k _ => ?_
  rw [hempty]
  rfl
theorem rd_end {m : Nat} {ρ : Env} {w : World} (hm : Nat.beq m l.length = true) (h : Q .normal ρ w) : RD P N l Q m ρ w := by
  obtain rfl := Nat.eq_of_beq_eq_true hm
  intro fuel listed a ha hsz hc hl
  have hr : Region.ready .any l.toArray listed = [] := by
    apply List.eq_nil_iff_forall_not_mem.2
    intro i hi
    obtain ⟨h1, h2, _⟩ := ready_iff hsz hi
    rw [getD_tf (by omega), hl i h1, blt_iff.2 h1] at h2
    cases h2
  cases fuel with
  | zero => exact ⟨hr, ρ, ha, h⟩
  | succ fuel => exact ⟨fun _ => ⟨ρ, ha, h⟩, fun i hi => by rw [hr] at hi; cases hi⟩
theorem rd_seq {m n : Nat} {ρ : Env} {w : World} (hB : (backB l && Nat.ble m n && Nat.ble n l.length && (List.range (n + 1)).all fun p => Nat.ble p m || bndB l p) = true) (h : OL P N l.toArray (thn (RD P N l Q n) Q) ((l.drop m).take (n - m)) ρ w) : RD P N l Q m ρ w := by
  simp only [Bool.and_eq_true] at hB
  obtain ⟨⟨⟨hback, hmn⟩, hnl⟩, hbd⟩ := hB
  have hmn := Nat.le_of_ble_eq_true hmn
  have hnl := Nat.le_of_ble_eq_true hnl
  have hbnd : ∀ p, m < p → p ≤ n → bndB l p = true := by
    intro p h1 h2
    have := List.all_eq_true.1 hbd p (List.mem_range.2 (by omega))
    have h3 : Nat.ble p m = false := by
      cases hb : Nat.ble p m
      · rfl
      · have := Nat.le_of_ble_eq_true hb
        omega
    rwa [h3, Bool.false_or] at this
  have key : ∀ (d p fuel : Nat) (listed : Array Bool) (a : Act) (w : World), p + d = n → m ≤ p → listed.size = l.length → (List.range l.length).countP (fun k => !listed.getD k false) ≤ fuel → (∀ k, k < l.length → listed.getD k false = Nat.blt k p) → wpList P l.toArray (lift N (thn (RD P N l Q n) Q)) ((l.drop p).take d) a w → wpAny P .any l.toArray (lift N Q) fuel listed a w := by
    intro d
    induction d with
    | zero =>
      intro p fuel listed a w hpd hmp hsz hc hl h
      have : p = n := by omega
      subst this
      simp only [List.take_zero, wpList] at h
      obtain ⟨ρ, ha, hr⟩ := h
      exact hr fuel listed a ha hsz hc hl
    | succ d ih =>
      intro p fuel listed a w hpd hmp hsz hc hl h
      have hpl : p < l.length := by omega
      have hcl := closed_at hback hsz hl
      have hlp : listed.getD p false = false := by
        rw [hl p hpl]
        exact blt_f (by omega)
      have hready : ∀ i ∈ Region.ready .any l.toArray listed, i = p := by
        intro i hi
        obtain ⟨h1, h2, h3⟩ := ready_iff hsz hi
        rw [getD_tf (by omega), hl i h1] at h2
        have hpi : p ≤ i := by
          rcases Nat.lt_or_ge i p with h | h
          · rw [blt_iff.2 h] at h2; simp at h2
          · exact h
        rcases Nat.lt_or_ge p i with h | h
        · have := bnd_all (hbnd (p + 1) (by omega) (by omega)) hcl (by omega) h1 h3 p (by omega)
          rw [hlp] at this
          cases this
        · omega
      have hin : p ∈ Region.ready .any l.toArray listed := by
        refine ready_of hpl ?_ ?_
        · rw [getD_tf (by omega)]
          exact hlp
        · intro o ho e he hbd
          have hb := List.all_eq_true.1 hback p (List.mem_range.2 hpl)
          rw [ho] at hb
          have hlt : e.on < p := by
            have := List.all_eq_true.1 hb e he
            rw [hbd] at this
            exact blt_iff.1 this
          rw [hl e.on (by omega)]
          exact blt_iff.2 hlt
      cases fuel with
      | zero =>
        exfalso
        have h0 : (List.range l.length).countP (fun k => !listed.getD k false) = 0 := by omega
        have := List.countP_eq_zero.1 h0 p (List.mem_range.2 hpl)
        rw [hlp] at this
        simp at this
      | succ fuel =>
        refine ⟨fun hr => ?_, fun i hi => ?_⟩
        · rw [hr] at hin
          cases hin
        · obtain rfl := hready i hi
          rw [List.drop_eq_getElem_cons hpl, List.take_succ_cons] at h
          unfold Go.wpOp
          have ho : l.toArray[i]? = some l[i] := by simp [hpl]
          rw [ho]
          have hK : ∀ a w, wpList P l.toArray (lift N (thn (RD P N l Q n) Q)) ((l.drop (i + 1)).take d) a w → wpAny P .any l.toArray (lift N Q) fuel (listed.setIfInBounds i true) a w := by
            intro a w hh
            refine ih (i + 1) fuel _ a w (by omega) (by omega) (by simpa using hsz) ?_ (fun k hk => ?_) hh
            · have := countP_lt (l := List.range l.length) (p := fun k => !(listed.setIfInBounds i true).getD k false) (q := fun k => !listed.getD k false) (fun k hk h => by
                rw [getD_set (by omega)] at h
                cases hx : listed.getD k false
                · rfl
                · rw [hx] at h; simp at h) (List.mem_range.2 hpl) (by rw [getD_set (by omega)]; simp) (by rw [hlp]; rfl)
              omega
            · rw [getD_set (by omega), hl k hk]
              by_cases e : k = i
              · subst e
                rw [blt_iff.2 (Nat.lt_succ_self k), Nat.beq_refl]
                rfl
              · rw [beq_f e, Bool.false_or, Bool.eq_iff_iff, Nat.blt_eq, Nat.blt_eq]
                omega
          simp only [wpList] at h
          split at h
          · rename_i hw
            simp only [hw, if_true]
            rcases h with h | h
            · exact .inl (Oper.wp_mono hK h)
            · exact .inr h
          · rename_i hw
            simp only [hw]
            exact hK _ _ h
  intro fuel listed a ha hsz hc hl
  exact key (n - m) m fuel listed a w (by omega) (Nat.le_refl _) hsz hc hl (h a ha)
/-- Slot t is, when operation i of the piece comes up, what it was at the piece's begin. -/
def keepS (l : List Oper) (m n i t : Nat) : Bool := (List.range n).all fun k => Nat.blt k m || dstAt l k != some t || aftB l k i
def segB (l : List Oper) (m n N : Nat) : Bool :=
  Nat.ble m n && Nat.ble n l.length && backB l && bndB l n &&
  ((List.range n).all fun k => Nat.blt k m || match dstAt l k with
    | some d => Nat.blt d N && (List.range n).all fun j => Nat.blt j m || Nat.beq j k || dstAt l j != some d
    | none => false)
theorem rd_draw (m n : Nat) (G : Nat → Value → World → Prop) (Inv : (Nat → Bool) → World → Prop) {ρ0 : Env} {w0 : World} (hB : segB l m n N = true)
    (h0 : Inv (fun k => Nat.blt k m) w0)
    (step : ∀ i, m ≤ i → i < n → ∀ o, l[i]? = some o → ∀ (dn : Nat → Bool) ρ w, dn i = false → (∀ k, dn k = true → ∀ j, aftB l k j = true → dn j = true) → Inv dn w → (∀ t, keepS l m n i t = true → ρ t = ρ0 t) → (∀ j, m ≤ j → aftB l i j = true → ∀ d, dstAt l j = some d → G j (ρ d) w) → StepOk P l.toArray o (fun v w' => G i v w' ∧ Inv (fun k => Nat.beq k i || dn k) w' ∧ ∀ k v', m ≤ k → k < n → k ≠ i → dn k = true → G k v' w → G k v' w') ρ w)
    (tail : ∀ ρ w (dn : Nat → Bool), (∀ k, k < n → dn k = true) → Inv dn w → (∀ t, ((List.range n).all fun k => Nat.blt k m || dstAt l k != some t) = true → ρ t = ρ0 t) → (∀ j, m ≤ j → j < n → ∀ d, dstAt l j = some d → G j (ρ d) w) → RD P N l Q n ρ w) :
    RD P N l Q m ρ0 w0 := by
  have hB' := hB
  simp only [segB, Bool.and_eq_true] at hB'
  obtain ⟨⟨⟨⟨hmn, hnl⟩, hback⟩, hbd⟩, hd⟩ := hB'
  have hmn := Nat.le_of_ble_eq_true hmn
  have hnl := Nat.le_of_ble_eq_true hnl
  have key : ∀ (fuel : Nat) (listed : Array Bool) (a : Act) (ρ : Env) (w : World), Fits N a ρ → listed.size = l.length → (List.range l.length).countP (fun k => !listed.getD k false) ≤ fuel → (∀ k, k < m → listed.getD k false = true) → (∀ k, k < l.length → listed.getD k false = true → k < n) → (∀ k, listed.getD k false = true → ∀ j, aftB l k j = true → listed.getD j false = true) → Inv (fun k => listed.getD k false) w →
      (∀ t, (∀ k, m ≤ k → k < n → listed.getD k false = true → dstAt l k ≠ some t) → ρ t = ρ0 t) → (∀ k, m ≤ k → k < n → listed.getD k false = true → ∀ d, dstAt l k = some d → G k (ρ d) w) → wpAny P .any l.toArray (lift N Q) fuel listed a w := by
    intro fuel
    induction fuel with
    | zero =>
      intro listed a ρ w hf hsz hc hlm hln hcl hgr hkeep hG
      have hall : ∀ k, k < l.length → listed.getD k false = true := by
        intro k hk
        have h0 : (List.range l.length).countP (fun k => !listed.getD k false) = 0 := by omega
        have := List.countP_eq_zero.1 h0 k (List.mem_range.2 hk)
        simpa using this
      refine tail ρ w _ (fun k hk => hall k (by omega)) hgr (fun t ht => hkeep t fun k hmk hk _ e => by
          have := List.all_eq_true.1 ht k (List.mem_range.2 hk)
          rw [e, blt_f (by omega)] at this
          simp at this) (fun j hmj hj d he => hG j hmj hj (hall j (by omega)) d he) 0 listed a hf hsz hc fun k hk => ?_
      rw [hall k hk, blt_iff.2 (hln k hk (hall k hk))]
    | succ fuel ih =>
      intro listed a ρ w hf hsz hc hlm hln hcl hgr hkeep hG
      by_cases hall : ∀ k, k < n → listed.getD k false = true
      · refine tail ρ w _ hall hgr (fun t ht => hkeep t fun k hmk hk _ e => by
            have := List.all_eq_true.1 ht k (List.mem_range.2 hk)
            rw [e, blt_f (by omega)] at this
            simp at this) (fun j hmj hj d he => hG j hmj hj (hall j hj) d he) (fuel + 1) listed a hf hsz hc fun k hk => ?_
        rw [Bool.eq_iff_iff, Nat.blt_eq]
        exact ⟨hln k hk, hall k⟩
      · refine ⟨fun hr => ?_, fun i hi => ?_⟩
        · exfalso
          have hex : ∃ k, k < l.length ∧ listed.getD k false = false := by
            apply Classical.byContradiction
            intro hne
            apply hall
            intro k hk
            cases hb : listed.getD k false
            · exact absurd ⟨k, by omega, hb⟩ hne
            · rfl
          obtain ⟨i, ⟨hil, hif⟩, hmin⟩ : ∃ i, (i < l.length ∧ listed.getD i false = false) ∧ ∀ j, j < i → ¬ (j < l.length ∧ listed.getD j false = false) := by
            obtain ⟨k, hk⟩ := hex
            have : ∀ m k, k ≤ m → (k < l.length ∧ listed.getD k false = false) → ∃ i, (i < l.length ∧ listed.getD i false = false) ∧ ∀ j, j < i → ¬ (j < l.length ∧ listed.getD j false = false) := by
              intro m
              induction m with
              | zero => intro k hk h; exact ⟨k, h, fun j hj => by omega⟩
              | succ m ihm =>
                intro k hk h
                by_cases hx : ∃ j, j < k ∧ (j < l.length ∧ listed.getD j false = false)
                · obtain ⟨j, hj, hjj⟩ := hx
                  exact ihm j (by omega) hjj
                · exact ⟨k, h, fun j hj hjj => hx ⟨j, hj, hjj⟩⟩
            exact this k k (Nat.le_refl _) hk
          have : i ∈ Region.ready .any l.toArray listed := by
            refine ready_of hil (by rw [getD_tf (by omega)]; exact hif) ?_
            intro o ho e he hbd
            have hb := List.all_eq_true.1 hback i (List.mem_range.2 hil)
            rw [ho] at hb
            have hlt : e.on < i := by
              have := List.all_eq_true.1 hb e he
              rw [hbd] at this
              exact blt_iff.1 this
            cases hb2 : listed.getD e.on false
            · exact absurd ⟨by omega, hb2⟩ (hmin e.on hlt)
            · rfl
          rw [hr] at this
          simp at this
        · obtain ⟨hil, hif, hprev⟩ := ready_iff hsz hi
          rw [getD_tf (by omega)] at hif
          have hin : i < n := by
            rcases Nat.lt_or_ge i n with h | h
            · exact h
            · exfalso
              exact hall (bnd_all hbd hcl h hil hprev)
          have hmi : m ≤ i := by
            rcases Nat.lt_or_ge i m with h | h
            · have := hlm i h
              rw [hif] at this
              cases this
            · exact h
          have ho : l[i]? = some l[i] := List.getElem?_eq_getElem hil
          have hdi := List.all_eq_true.1 hd i (List.mem_range.2 hin)
          rw [blt_f (by omega), Bool.false_or] at hdi
          cases hdst : dstAt l i with
          | none => rw [hdst] at hdi; simp at hdi
          | some d =>
            rw [hdst] at hdi
            simp only [Bool.and_eq_true] at hdi
            have hod : l[i].dst = some d := by simpa [dstAt, ho] using hdst
            have hother : ∀ j, m ≤ j → j < n → j ≠ i → dstAt l j ≠ some d := by
              intro j hmj hj hne e
              have := List.all_eq_true.1 hdi.2 j (List.mem_range.2 hj)
              rw [e, beq_f hne, blt_f (by omega)] at this
              simp at this
            have hst := step i hmi hin l[i] ho _ ρ w hif hcl hgr (fun t ht => hkeep t fun k hmk hk hlk e => by
              have := List.all_eq_true.1 ht k (List.mem_range.2 hk)
              rw [e, blt_f (by omega)] at this
              simp only [bne_self_eq_false, Bool.false_or] at this
              have hli := hcl k hlk i this
              rw [hli] at hif
              simp at hif) (fun j hmj hj dj hdj => by
              have hlj := hprev j hj
              have hjl : j < l.length := by
                rcases Nat.lt_or_ge j l.length with h | h
                · exact h
                · rw [Array.getD_eq_getD_getElem?, Array.getElem?_eq_none (by omega)] at hlj; simp at hlj
              exact hG j hmj (hln j hjl hlj) hlj dj hdj)
            refine hst.wpOp (n := N) (by simp [hil]) hf ?_
            rintro v w' ⟨hGv, hinv', hkeepG⟩
            have hinv : Inv (fun k => (listed.setIfInBounds i true).getD k false) w' := by
              rw [show (fun k => (listed.setIfInBounds i true).getD k false) = fun k => (Nat.beq k i || listed.getD k false) from funext fun k => getD_set (by omega)]
              exact hinv'
            rw [hod]
            refine ih _ _ (upd ρ d v) w' (hf.put hdi.1 v) (by simpa using hsz) ?_ ?_ ?_ ?_ hinv ?_ ?_
            · have := countP_lt (l := List.range l.length) (p := fun k => !(listed.setIfInBounds i true).getD k false) (q := fun k => !listed.getD k false) (fun k hk h => by
                rw [getD_set (by omega)] at h
                cases hx : listed.getD k false
                · rfl
                · rw [hx] at h; simp at h) (List.mem_range.2 hil) (by rw [getD_set (by omega)]; simp) (by rw [hif]; rfl)
              omega
            · intro k hk
              rw [getD_set (by omega), hlm k hk]
              simp
            · intro k hk hlk
              rw [getD_set (by omega)] at hlk
              by_cases e : k = i
              · omega
              · rw [beq_f e, Bool.false_or] at hlk
                exact hln k hk hlk
            · intro k hlk j hj
              rw [getD_set (by omega)] at hlk ⊢
              by_cases e : k = i
              · subst e
                rw [hprev j hj]
                simp
              · rw [beq_f e, Bool.false_or] at hlk
                rw [hcl k hlk j hj]
                simp
            · intro t ht
              have htd : t ≠ d := by
                intro e
                exact ht i hmi hin (by rw [getD_set (by omega)]; simp) (by rw [hdst, e])
              rw [upd, beq_f htd, cond_false]
              exact hkeep t fun k hmk hk hlk => ht k hmk hk (by rw [getD_set (by omega), hlk]; simp)
            · intro k hmk hk hlk dk hdk
              rw [getD_set (by omega)] at hlk
              by_cases e : k = i
              · subst e
                rw [hdst] at hdk
                obtain rfl := Option.some.inj hdk
                rw [upd, Nat.beq_refl, cond_true]
                exact hGv
              · rw [beq_f e, Bool.false_or] at hlk
                have hne : dk ≠ d := fun e2 => hother k hmk hk e (by rw [hdk, e2])
                rw [upd, beq_f hne, cond_false]
                exact hkeepG k _ hmk hk e hlk (hG k hmk hk hlk dk hdk)
  intro fuel listed a ha hsz hc hl
  refine key fuel listed a ρ0 w0 ha hsz hc (fun k hk => by rw [hl k (by omega), blt_iff.2 hk]) (fun k hk h => ?_) (closed_at hback hsz hl) ?_ (fun _ _ => rfl) (fun k hmk hk h => ?_)
  · rw [hl k hk] at h
    have := blt_iff.1 h
    omega
  · have : (fun k => listed.getD k false) = fun k => Nat.blt k m := by
      funext k
      by_cases hk : k < l.length
      · exact hl k hk
      · rw [Array.getD_eq_getD_getElem?, Array.getElem?_eq_none (by omega), blt_f (by omega)]
        rfl
    rw [this]
    exact h0
  · rw [hl k (by omega)] at h
    have := blt_iff.1 h
    omega
def DStepS (P : Program) (l : List Oper) (m n : Nat) (Gl : List (Value → World → Prop)) (ρ0 : Env) (w0 : World) (i : Nat) (o : Oper) : Prop :=
  ∀ ρ w, Gr w0 w → (∀ t, keepS l m n i t = true → ρ t = ρ0 t) → (∀ j, Nat.ble m j = true → aftB l i j = true → ∀ d, dstAt l j = some d → gAt Gl j (ρ d) w) → StepOk P l.toArray o (fun v w' => gAt Gl i v w' ∧ Gr w w') ρ w
theorem rd_drawL (m n : Nat) (Gl : List (Value → World → Prop)) {ρ0 : Env} {w0 : World} (hB : segB l m n N = true) (stab : StabL Gl)
    (step : AllOps (DStepS P l m n Gl ρ0 w0) m ((l.take n).drop m))
    (tail : ∀ ρ w, Gr w0 w → (∀ t, ((List.range n).all fun k => Nat.blt k m || dstAt l k != some t) = true → ρ t = ρ0 t) → (∀ j, Nat.ble m j = true → Nat.blt j n = true → ∀ d, dstAt l j = some d → gAt Gl j (ρ d) w) → RD P N l Q n ρ w) :
    RD P N l Q m ρ0 w0 :=
  rd_draw m n (gAt Gl) (fun _ w => Gr w0 w) hB (Fr.refl _ _)
    (fun i hmi hi o ho dn ρ w hdn hcl hg hk hd => by
      have hs := step.get (i - m) o (by rw [List.getElem?_drop, List.getElem?_take, if_pos (by omega), show m + (i - m) = i from by omega]; exact ho)
      rw [show m + (i - m) = i from by omega] at hs
      refine (hs ρ w hg hk fun j hj => hd j (Nat.le_of_ble_eq_true hj)).mono ?_
      rintro v w' ⟨h1, h2⟩
      exact ⟨h1, Fr.gr hg h2, fun k v' _ _ _ _ h => stab.get k v' w w' h h2⟩)
    (fun ρ w dn _ hg hk hd => tail ρ w hg hk fun j hmj hj => hd j (Nat.le_of_ble_eq_true hmj) (blt_iff.1 hj))
end
end Go.Xw
