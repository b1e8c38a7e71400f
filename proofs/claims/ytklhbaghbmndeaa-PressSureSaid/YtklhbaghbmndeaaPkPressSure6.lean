/- PressSure: texts merged, part 6 of 8. The last part proves that the law PressSure holds for every input. -/
import Derived.Test.YtklhbaghbmndeaaPkPressSure5
import Derived.ProofKit
import Derived.OpenShut
import Derived.ChangeOld
import Derived.Below
import Derived.SizedLaws
import Derived.WalkKit
/- rickyard/rickyardlaw15.do: its model, and that the Go function computes it: written by gen.py. -/
set_option linter.unusedVariables false
namespace Go.Proofs.Ytklhbaghbmndeaa
open Go Go.Xw
def rickyardlaw15_do.f (fu : Nat) (a0 : S_pmem_Device) (a1 : S_rickyardref05_Device) (a2 : S_rickyardlaw15_Act) : Option (Bool × S_pmem_Device × S_rickyardref05_Device) := (if (decide (a2.Kind = 0)) = true then ((press_Write.f fu a0 a2.At a2.B : Option (Int × S_pmem_Device)).bind fun t37 => ((rickyardref15_Write.f fu a1 a2.At a2.B : Option (Int × S_rickyardref05_Device)).bind fun t72 => some ((decide (t37.1 = t72.1)), t37.2, t72.2))) else (if (decide (a2.Kind = 1)) = true then ((press_Word.f fu a0 a2.At a2.I a2.A.W : Option (Int × S_pmem_Device)).bind fun t106 => ((rickyardref15_Word.f fu a1 a2.At a2.I a2.A.W : Option (Int × S_rickyardref05_Device)).bind fun t139 => some ((decide (t106.1 = t139.1)), t106.2, t139.2))) else (if (decide (a2.Kind = 2)) = true then ((press_Sure.f fu a0 : Option (Int × S_pmem_Device)).bind fun t172 => ((rickyardref05_Device_Fence.f fu a1 : Option (Int × S_rickyardref05_Device)).bind fun t192 => some ((decide (t172.1 = t192.1)), t172.2, t192.2))) else (if (decide (a2.Kind = 3)) = true then ((press_Read.f fu a0 a2.At : Option ((List Int) × Int)).bind fun t225 => ((rickyardref15_Read.f fu a1 a2.At : Option ((List UInt8) × Int)).bind fun t234 => some ((if (decide ((List.map toB t225.1) = t234.1)) = true then (decide (t225.2 = t234.2)) else false), a0, a1))) else ((rickyardlaw05_Do.f fu a0 a2.A : Option (Int × Int × S_pmem_Device)).bind fun t240 => ((rickyardlaw05_Refs.f fu a1 a2.A : Option (Int × Int × S_rickyardref05_Device)).bind fun t267 => some (true, t240.2.2, t267.2.2)))))))
set_option maxRecDepth 100000 in
set_option maxHeartbeats 400000 in
theorem rickyardlaw15_do.ok (fu : Nat) (w : World) (a0 : S_pmem_Device) (G_0 : Nat) (V0_0 : Value) (O0_0 : Own k_pmem_cell 142 w 0 V0_0 a0.cells) (V0_1 : Value) (O0_1 : Own (kI .i64) 3 w 0 V0_1 a0.plan.list) (b_0 : Blk w G_0 139 [Seg.cell V0_0 O0_0.one, Seg.cell V0_1 O0_1.one, Seg.cell (.int .i64 a0.plan.at_), Seg.cell (.bool a0.off), Seg.cell (.bool a0.armed), Seg.cell (.int .i64 a0.left), Seg.cell (.int .i64 a0.steps)]) (a1 : S_rickyardref05_Device) (G_1 : Nat) (V1_0 : Value) (O1_0 : Own (kI .u64) 22 w 0 V1_0 a1.Lasts) (V1_1 : Value) (O1_1 : Own (kI .u64) 22 w 0 V1_1 a1.Stored) (V1_2 : Value) (O1_2 : Own (kI .u64) 22 w 0 V1_2 a1.Sent) (V1_3 : Value) (O1_3 : Own kB 4 w 0 V1_3 a1.Flushed) (V1_4 : Value) (O1_4 : Own (kI .i64) 3 w 0 V1_4 a1.Plan) (b_1 : Blk w G_1 65 [Seg.cell V1_0 O1_0.one, Seg.cell V1_1 O1_1.one, Seg.cell V1_2 O1_2.one, Seg.cell V1_3 O1_3.one, Seg.cell V1_4 O1_4.one, Seg.cell (.int .i64 a1.Since), Seg.cell (.int .i64 a1.Left), Seg.cell (.int .i64 a1.Steps)]) (a2 : S_rickyardlaw15_Act) (V2_0 : Value) (R2_0 : Rd (kI .u8) w V2_0 a2.B) (V2_1 : Value) (R2_1 : Rd (kI .i64) w V2_1 a2.A.L) (A_R0_1_R1_4 : OffV V0_1 V1_4) (A_R1_0_R1_1 : OffV V1_0 V1_1) (A_R1_0_R1_2 : OffV V1_0 V1_2) (A_R1_1_R1_2 : OffV V1_1 V1_2) (ne_P0_P1 : G_0 ≠ G_1) (NR2_0_P0 : OffR V2_0 a2.B G_0) (NR2_0_R0_0 : OffRV V2_0 a2.B V0_0) (NR2_0_R0_1 : OffRV V2_0 a2.B V0_1) (NR2_0_P1 : OffR V2_0 a2.B G_1) (NR2_0_R1_0 : OffRV V2_0 a2.B V1_0) (NR2_0_R1_1 : OffRV V2_0 a2.B V1_1) (NR2_0_R1_2 : OffRV V2_0 a2.B V1_2) (NR2_0_R1_3 : OffRV V2_0 a2.B V1_3) (NR2_0_R1_4 : OffRV V2_0 a2.B V1_4) (NR2_1_P0 : OffR V2_1 a2.A.L G_0) (NR2_1_R0_0 : OffRV V2_1 a2.A.L V0_0) (NR2_1_R0_1 : OffRV V2_1 a2.A.L V0_1) (NR2_1_P1 : OffR V2_1 a2.A.L G_1) (NR2_1_R1_0 : OffRV V2_1 a2.A.L V1_0) (NR2_1_R1_1 : OffRV V2_1 a2.A.L V1_1) (NR2_1_R1_2 : OffRV V2_1 a2.A.L V1_2) (NR2_1_R1_3 : OffRV V2_1 a2.A.L V1_3) (NR2_1_R1_4 : OffRV V2_1 a2.A.L V1_4) (r : Bool × S_pmem_Device × S_rickyardref05_Device) (h : rickyardlaw15_do.f fu a0 a1 a2 = some r) :
  Calls Try.prog 59 (([.pointer (some ⟨G_0, 0, none⟩), .pointer (some ⟨G_1, 0, none⟩), aggV [Seg.cell (.int .i64 a2.Kind), Seg.cell (.int .i64 a2.At), Seg.cell (.int .i64 a2.I), Seg.cell V2_0 R2_0.one, Seg.cell (.int .i64 a2.A.Kind), Seg.cell (.int .i64 a2.A.At), Seg.cell (.int .u64 a2.A.W), Seg.cell V2_1 R2_1.one]] : List Value).toArray) w (fun e w' => ∃ v, e = .returned v ∧ ∃ u1 : Value, ∃ u4 : Value, ∃ u7 : Value, ∃ u10 : Value, ∃ u13 : Value, ∃ u16 : Value, ∃ u19 : Value, ∃ o2 : Own k_pmem_cell 142 w' 0 u1 r.2.1.cells, ∃ m3 : ∀ g, Value.ownBlock u1 = some g → w.heap.size ≤ g ∨ (g = G_0 ∨ some g = Value.ownBlock V0_0 ∨ some g = Value.ownBlock V0_1 ∨ g = G_1 ∨ some g = Value.ownBlock V1_0 ∨ some g = Value.ownBlock V1_1 ∨ some g = Value.ownBlock V1_2 ∨ some g = Value.ownBlock V1_3 ∨ some g = Value.ownBlock V1_4), ∃ o5 : Own (kI .i64) 3 w' 0 u4 r.2.1.plan.list, ∃ m6 : ∀ g, Value.ownBlock u4 = some g → w.heap.size ≤ g ∨ (g = G_0 ∨ some g = Value.ownBlock V0_0 ∨ some g = Value.ownBlock V0_1 ∨ g = G_1 ∨ some g = Value.ownBlock V1_0 ∨ some g = Value.ownBlock V1_1 ∨ some g = Value.ownBlock V1_2 ∨ some g = Value.ownBlock V1_3 ∨ some g = Value.ownBlock V1_4), ∃ o8 : Own (kI .u64) 22 w' 0 u7 r.2.2.Lasts, ∃ m9 : ∀ g, Value.ownBlock u7 = some g → w.heap.size ≤ g ∨ (g = G_0 ∨ some g = Value.ownBlock V0_0 ∨ some g = Value.ownBlock V0_1 ∨ g = G_1 ∨ some g = Value.ownBlock V1_0 ∨ some g = Value.ownBlock V1_1 ∨ some g = Value.ownBlock V1_2 ∨ some g = Value.ownBlock V1_3 ∨ some g = Value.ownBlock V1_4), ∃ o11 : Own (kI .u64) 22 w' 0 u10 r.2.2.Stored, ∃ m12 : ∀ g, Value.ownBlock u10 = some g → w.heap.size ≤ g ∨ (g = G_0 ∨ some g = Value.ownBlock V0_0 ∨ some g = Value.ownBlock V0_1 ∨ g = G_1 ∨ some g = Value.ownBlock V1_0 ∨ some g = Value.ownBlock V1_1 ∨ some g = Value.ownBlock V1_2 ∨ some g = Value.ownBlock V1_3 ∨ some g = Value.ownBlock V1_4), ∃ o14 : Own (kI .u64) 22 w' 0 u13 r.2.2.Sent, ∃ m15 : ∀ g, Value.ownBlock u13 = some g → w.heap.size ≤ g ∨ (g = G_0 ∨ some g = Value.ownBlock V0_0 ∨ some g = Value.ownBlock V0_1 ∨ g = G_1 ∨ some g = Value.ownBlock V1_0 ∨ some g = Value.ownBlock V1_1 ∨ some g = Value.ownBlock V1_2 ∨ some g = Value.ownBlock V1_3 ∨ some g = Value.ownBlock V1_4), ∃ o17 : Own kB 4 w' 0 u16 r.2.2.Flushed, ∃ m18 : ∀ g, Value.ownBlock u16 = some g → w.heap.size ≤ g ∨ (g = G_0 ∨ some g = Value.ownBlock V0_0 ∨ some g = Value.ownBlock V0_1 ∨ g = G_1 ∨ some g = Value.ownBlock V1_0 ∨ some g = Value.ownBlock V1_1 ∨ some g = Value.ownBlock V1_2 ∨ some g = Value.ownBlock V1_3 ∨ some g = Value.ownBlock V1_4), ∃ o20 : Own (kI .i64) 3 w' 0 u19 r.2.2.Plan, ∃ m21 : ∀ g, Value.ownBlock u19 = some g → w.heap.size ≤ g ∨ (g = G_0 ∨ some g = Value.ownBlock V0_0 ∨ some g = Value.ownBlock V0_1 ∨ g = G_1 ∨ some g = Value.ownBlock V1_0 ∨ some g = Value.ownBlock V1_1 ∨ some g = Value.ownBlock V1_2 ∨ some g = Value.ownBlock V1_3 ∨ some g = Value.ownBlock V1_4), ∃ a22 : OffV u4 u19, ∃ a23 : OffV u7 u10, ∃ a24 : OffV u7 u13, ∃ a25 : OffV u10 u13, v = .bool r.1 ∧ Blk w' G_0 139 [Seg.cell u1 o2.one, Seg.cell u4 o5.one, Seg.cell (.int .i64 r.2.1.plan.at_), Seg.cell (.bool r.2.1.off), Seg.cell (.bool r.2.1.armed), Seg.cell (.int .i64 r.2.1.left), Seg.cell (.int .i64 r.2.1.steps)] ∧ Blk w' G_1 65 [Seg.cell u7 o8.one, Seg.cell u10 o11.one, Seg.cell u13 o14.one, Seg.cell u16 o17.one, Seg.cell u19 o20.one, Seg.cell (.int .i64 r.2.2.Since), Seg.cell (.int .i64 r.2.2.Left), Seg.cell (.int .i64 r.2.2.Steps)] ∧ Fr (fun j => j = G_0 ∨ some j = Value.ownBlock V0_0 ∨ some j = Value.ownBlock V0_1 ∨ j = G_1 ∨ some j = Value.ownBlock V1_0 ∨ some j = Value.ownBlock V1_1 ∨ some j = Value.ownBlock V1_2 ∨ some j = Value.ownBlock V1_3 ∨ some j = Value.ownBlock V1_4) w w') := by
 unfold rickyardlaw15_do.f at h
 have fB : Fr (fun j => j = G_0 ∨ some j = Value.ownBlock V0_0 ∨ some j = Value.ownBlock V0_1 ∨ j = G_1 ∨ some j = Value.ownBlock V1_0 ∨ some j = Value.ownBlock V1_1 ∨ some j = Value.ownBlock V1_2 ∨ some j = Value.ownBlock V1_3 ∨ some j = Value.ownBlock V1_4) w w := Fr.refl _ _
 have M0_0 : ∀ g, Value.ownBlock V0_0 = some g → w.heap.size ≤ g ∨ (g = G_0 ∨ some g = Value.ownBlock V0_0 ∨ some g = Value.ownBlock V0_1 ∨ g = G_1 ∨ some g = Value.ownBlock V1_0 ∨ some g = Value.ownBlock V1_1 ∨ some g = Value.ownBlock V1_2 ∨ some g = Value.ownBlock V1_3 ∨ some g = Value.ownBlock V1_4) := fun g hg => .inr (.inr (.inl hg.symm))
 have M0_1 : ∀ g, Value.ownBlock V0_1 = some g → w.heap.size ≤ g ∨ (g = G_0 ∨ some g = Value.ownBlock V0_0 ∨ some g = Value.ownBlock V0_1 ∨ g = G_1 ∨ some g = Value.ownBlock V1_0 ∨ some g = Value.ownBlock V1_1 ∨ some g = Value.ownBlock V1_2 ∨ some g = Value.ownBlock V1_3 ∨ some g = Value.ownBlock V1_4) := fun g hg => .inr (.inr (.inr (.inl hg.symm)))
 have M1_0 : ∀ g, Value.ownBlock V1_0 = some g → w.heap.size ≤ g ∨ (g = G_0 ∨ some g = Value.ownBlock V0_0 ∨ some g = Value.ownBlock V0_1 ∨ g = G_1 ∨ some g = Value.ownBlock V1_0 ∨ some g = Value.ownBlock V1_1 ∨ some g = Value.ownBlock V1_2 ∨ some g = Value.ownBlock V1_3 ∨ some g = Value.ownBlock V1_4) := fun g hg => .inr (.inr (.inr (.inr (.inr (.inl hg.symm)))))
 have M1_1 : ∀ g, Value.ownBlock V1_1 = some g → w.heap.size ≤ g ∨ (g = G_0 ∨ some g = Value.ownBlock V0_0 ∨ some g = Value.ownBlock V0_1 ∨ g = G_1 ∨ some g = Value.ownBlock V1_0 ∨ some g = Value.ownBlock V1_1 ∨ some g = Value.ownBlock V1_2 ∨ some g = Value.ownBlock V1_3 ∨ some g = Value.ownBlock V1_4) := fun g hg => .inr (.inr (.inr (.inr (.inr (.inr (.inl hg.symm))))))
 have M1_2 : ∀ g, Value.ownBlock V1_2 = some g → w.heap.size ≤ g ∨ (g = G_0 ∨ some g = Value.ownBlock V0_0 ∨ some g = Value.ownBlock V0_1 ∨ g = G_1 ∨ some g = Value.ownBlock V1_0 ∨ some g = Value.ownBlock V1_1 ∨ some g = Value.ownBlock V1_2 ∨ some g = Value.ownBlock V1_3 ∨ some g = Value.ownBlock V1_4) := fun g hg => .inr (.inr (.inr (.inr (.inr (.inr (.inr (.inl hg.symm)))))))
 have M1_3 : ∀ g, Value.ownBlock V1_3 = some g → w.heap.size ≤ g ∨ (g = G_0 ∨ some g = Value.ownBlock V0_0 ∨ some g = Value.ownBlock V0_1 ∨ g = G_1 ∨ some g = Value.ownBlock V1_0 ∨ some g = Value.ownBlock V1_1 ∨ some g = Value.ownBlock V1_2 ∨ some g = Value.ownBlock V1_3 ∨ some g = Value.ownBlock V1_4) := fun g hg => .inr (.inr (.inr (.inr (.inr (.inr (.inr (.inr (.inl hg.symm))))))))
 have M1_4 : ∀ g, Value.ownBlock V1_4 = some g → w.heap.size ≤ g ∨ (g = G_0 ∨ some g = Value.ownBlock V0_0 ∨ some g = Value.ownBlock V0_1 ∨ g = G_1 ∨ some g = Value.ownBlock V1_0 ∨ some g = Value.ownBlock V1_1 ∨ some g = Value.ownBlock V1_2 ∨ some g = Value.ownBlock V1_3 ∨ some g = Value.ownBlock V1_4) := fun g hg => .inr (.inr (.inr (.inr (.inr (.inr (.inr (.inr (.inr hg.symm))))))))
 refine calls_cw Try.func59 rfl Try.ntmps59 rfl ?_
 refine cw_seq ?_
 refine cw_region ?_
 refine ol_op (by exact opv_box (ss := [Seg.cell (.int .i64 a2.Kind), Seg.cell (.int .i64 a2.At), Seg.cell (.int .i64 a2.I), Seg.cell V2_0 R2_0.one, Seg.cell (.int .i64 a2.A.Kind), Seg.cell (.int .i64 a2.A.At), Seg.cell (.int .u64 a2.A.W), Seg.cell V2_1 R2_1.one]) rfl rfl rfl) rfl rfl rfl ?_
 rintro _ w31 ⟨G26, rfl, b27, q28, z29⟩
 have n32 := b_0.ne z29
 have n33 := b_1.ne z29
 have a34 := OffR.new R2_0 z29 rfl
 have a35 := OffR.new R2_1 z29 rfl
 have z29 := Nat.le_trans fB.size z29
 have b_0 := b_0.gr q28
 have b_1 := b_1.gr q28
 have O0_0 := O0_0.gr q28
 have O0_1 := O0_1.gr q28
 have O1_0 := O1_0.gr q28
 have O1_1 := O1_1.gr q28
 have O1_2 := O1_2.gr q28
 have O1_3 := O1_3.gr q28
 have O1_4 := O1_4.gr q28
 have R2_0 := R2_0.gr q28
 have R2_1 := R2_1.gr q28
 have fB := fB.gr q28
 refine ol_val (v := .bool false) (by exact xr_assign rfl rfl) rfl rfl rfl ?_
 refine ol_nil ?_
 refine cw_seq ?_
 refine cw_seq ?_
 refine cw_region ?_
 refine ol_val (v := .pointer (some ⟨G26, 0, none⟩)) (by exact xr_fieldAddr (p := 0) (q := 0) rfl fl85_0 rfl) rfl rfl rfl ?_
 refine ol_val (v := .int .i64 a2.Kind) (by exact xr_load1 (v := .int .i64 a2.Kind) rfl ag3 rfl (b27.seg 0 rfl rfl)) rfl rfl rfl ?_
 refine ol_nil ?_
 refine cw_block ?_
 refine cw_seq ?_
 refine cw_region ?_
 refine ol_val (v := .bool (decide (a2.Kind = 0))) (by exact xr_eqI rfl Try.underlying3 rfl rfl rfl) rfl rfl rfl ?_
 refine ol_val (v := .bool (decide (a2.Kind = 0))) (by exact xr_assign rfl rfl) rfl rfl rfl ?_
 refine ol_nil ?_
 rcases is h with ⟨c36, h⟩ | ⟨c36, h⟩
 ·refine cw_condT rfl c36 ?_
  refine cw_seq ?_
  obtain ⟨t37, k38, h⟩ := bs h
  have f49 := (nb_or ne_P0_P1.symm (nb_or (nb_off (off_ty b_1 O0_0 (by decide))) (nb_off (off_ty b_1 O0_1 (by decide)))))
  have f50 := (nb_or n32.symm (nb_or (nb_off (off_ty b27 O0_0 (by decide))) (nb_off (off_ty b27 O0_1 (by decide)))))
  have f51 := (vo_or (vo_eq (off_ty b_0 O1_0 (by decide))) (vo_or (vo_own (OffV.ty O1_0 O0_0 (by decide))) (vo_own (OffV.ty O1_0 O0_1 (by decide)))))
  have f52 := (vo_or (vo_eq (off_ty b_0 O1_1 (by decide))) (vo_or (vo_own (OffV.ty O1_1 O0_0 (by decide))) (vo_own (OffV.ty O1_1 O0_1 (by decide)))))
  have f53 := (vo_or (vo_eq (off_ty b_0 O1_2 (by decide))) (vo_or (vo_own (OffV.ty O1_2 O0_0 (by decide))) (vo_own (OffV.ty O1_2 O0_1 (by decide)))))
  have f54 := (vo_or (vo_eq (off_ty b_0 O1_3 (by decide))) (vo_or (vo_own (OffV.ty O1_3 O0_0 (by decide))) (vo_own (OffV.ty O1_3 O0_1 (by decide)))))
  have f55 := (vo_or (vo_eq (off_ty b_0 O1_4 (by decide))) (vo_or (vo_own (OffV.ty O1_4 O0_0 (by decide))) (vo_own A_R0_1_R1_4.symm)))
  have f56 := (ro_or (ro_eq NR2_0_P0) (ro_or (ro_own NR2_0_R0_0) (ro_own NR2_0_R0_1)))
  have f57 := (ro_or (ro_eq NR2_1_P0) (ro_or (ro_own NR2_1_R0_0) (ro_own NR2_1_R0_1)))
  have c58 : ∀ k, (k = G_0 ∨ some k = Value.ownBlock V0_0 ∨ some k = Value.ownBlock V0_1) → (w.heap.size ≤ k ∨ (k = G_0 ∨ some k = Value.ownBlock V0_0 ∨ some k = Value.ownBlock V0_1 ∨ k = G_1 ∨ some k = Value.ownBlock V1_0 ∨ some k = Value.ownBlock V1_1 ∨ some k = Value.ownBlock V1_2 ∨ some k = Value.ownBlock V1_3 ∨ some k = Value.ownBlock V1_4)) := (cv_or (cv_eq (.inr (.inl rfl))) (cv_or (cv_own M0_0) (cv_own M0_1)))
  refine cw_drawW 11 5 (fun j => j = G_0 ∨ some j = Value.ownBlock V0_0 ∨ some j = Value.ownBlock V0_1) [fun vz wz => vz = (.pointer (some ⟨G_0, 0, none⟩) : Value), fun vz wz => vz = (.pointer (some ⟨G26, 1, none⟩) : Value), fun vz wz => vz = (.int .i64 a2.At : Value), fun vz wz => vz = (.pointer (some ⟨G26, 3, none⟩) : Value), fun vz wz => vz = (V2_0 : Value), fun vz wz => ∃ u40 : Value, ∃ u44 : Value, ∃ o41 : Own k_pmem_cell 142 wz 0 u40 t37.2.cells, ∃ m42 : ∀ g, Value.ownBlock u40 = some g → w31.heap.size ≤ g ∨ (g = G_0 ∨ some g = Value.ownBlock V0_0 ∨ some g = Value.ownBlock V0_1), ∃ o45 : Own (kI .i64) 3 wz 0 u44 t37.2.plan.list, ∃ m46 : ∀ g, Value.ownBlock u44 = some g → w31.heap.size ≤ g ∨ (g = G_0 ∨ some g = Value.ownBlock V0_0 ∨ some g = Value.ownBlock V0_1), ∃ b48 : Blk wz G_0 139 [Seg.cell u40 o41.one, Seg.cell u44 o45.one, Seg.cell (.int .i64 t37.2.plan.at_), Seg.cell (.bool t37.2.off), Seg.cell (.bool t37.2.armed), Seg.cell (.int .i64 t37.2.left), Seg.cell (.int .i64 t37.2.steps)], vz = (.int .i64 t37.1 : Value), fun vz wz => vz = (.pointer (some ⟨G_1, 0, none⟩) : Value), fun vz wz => vz = (.pointer (some ⟨G26, 1, none⟩) : Value), fun vz wz => vz = (.int .i64 a2.At : Value), fun vz wz => vz = (.pointer (some ⟨G26, 3, none⟩) : Value), fun vz wz => vz = (V2_0 : Value)] mo rfl ⟨fun _ _ _ h _ => h, fun _ _ _ h _ => h, fun _ _ _ h _ => h, fun _ _ _ h _ => h, fun _ _ _ h _ => h, fun _ _ _ ⟨u40, u44, o41, m42, o45, m46, b48, h⟩ q => ⟨u40, u44, o41.gr q, m42, o45.gr q, m46, b48.gr q, h⟩, fun _ _ _ h _ => h, fun _ _ _ h _ => h, fun _ _ _ h _ => h, fun _ _ _ h _ => h, fun _ _ _ h _ => h, trivial⟩ ⟨.inr fun _ _ _ h _ => h, .inr fun _ _ _ h _ => h, .inr fun _ _ _ h _ => h, .inr fun _ _ _ h _ => h, .inr fun _ _ _ h _ => h, .inl rfl, .inr fun _ _ _ h _ => h, .inr fun _ _ _ h _ => h, .inr fun _ _ _ h _ => h, .inr fun _ _ _ h _ => h, .inr fun _ _ _ h _ => h, trivial⟩ ?_ ?_
  ·refine ⟨?_, ?_, ?_, ?_, ?_, ?_, ?_, ?_, ?_, ?_, ?_, trivial⟩
   ·intro ρz wz hz0 hz1 hk hd
    have hz := hz1 rfl
    refine sk_other rfl ?_
    exact sk_val (v := .pointer (some ⟨G_0, 0, none⟩)) (by exact xr_move rfl ((hk 0 rfl).trans rfl)) rfl rfl
   ·intro ρz wz hz0 hz1 hk hd
    have hz := hz1 rfl
    refine sk_other rfl ?_
    exact sk_val (v := .pointer (some ⟨G26, 1, none⟩)) (by exact xr_fieldAddr (p := 0) (q := 1) rfl fl85_1 ((hk 5 rfl).trans rfl)) rfl rfl
   ·intro ρz wz hz0 hz1 hk hd
    have hz := hz1 rfl
    have d16 := hd 1 rfl 16 rfl
    refine sk_other rfl ?_
    exact sk_val (v := .int .i64 a2.At) (by exact xr_load1 (v := .int .i64 a2.At) rfl ag3 d16 ((b27.fr hz f50).seg 1 rfl rfl)) rfl rfl
   ·intro ρz wz hz0 hz1 hk hd
    have hz := hz1 rfl
    refine sk_other rfl ?_
    exact sk_val (v := .pointer (some ⟨G26, 3, none⟩)) (by exact xr_fieldAddr (p := 0) (q := 3) rfl fl85_3 ((hk 5 rfl).trans rfl)) rfl rfl
   ·intro ρz wz hz0 hz1 hk hd
    have hz := hz1 rfl
    have d18 := hd 3 rfl 18 rfl
    refine sk_other rfl ?_
    exact sk_val (v := V2_0) (by exact xr_load1 (v := V2_0) rfl ag43 d18 ((b27.fr hz f50).seg 3 rfl rfl)) rfl rfl
   ·intro ρz wz hz0 hz1 hk hd
    have hz := hz0 rfl
    have d15 := hd 0 rfl 15 rfl
    have d17 := hd 2 rfl 17 rfl
    have d19 := hd 4 rfl 19 rfl
    refine sk_writer rfl (by exact opv_call rfl cal53 (ac d15 (ac d17 (ac d19 an))) (press_Write.ok fu _ a0 G_0 V0_0 (Own.base (O0_0.gr hz) (Nat.zero_le _)) V0_1 (Own.base (O0_1.gr hz) (Nat.zero_le _)) (b_0.gr hz) a2.At a2.B V2_0 (R2_0.gr hz) NR2_0_P0 NR2_0_R0_0 NR2_0_R0_1 _ k38)) rfl ?_
    rintro _ wy ⟨u40, u44, o41, m42, o45, m46, rfl, b_0, q39⟩
    exact ⟨⟨u40, u44, o41, (fun g hg => (m42 g hg).elim (fun x => .inl (Nat.le_trans hz.size x)) .inr), o45, (fun g hg => (m46 g hg).elim (fun x => .inl (Nat.le_trans hz.size x)) .inr), b_0, rfl⟩, q39⟩
   ·intro ρz wz hz0 hz1 hk hd
    have hz := hz1 rfl
    refine sk_other rfl ?_
    exact sk_val (v := .pointer (some ⟨G_1, 0, none⟩)) (by exact xr_move rfl ((hk 1 rfl).trans rfl)) rfl rfl
   ·intro ρz wz hz0 hz1 hk hd
    have hz := hz1 rfl
    refine sk_other rfl ?_
    exact sk_val (v := .pointer (some ⟨G26, 1, none⟩)) (by exact xr_fieldAddr (p := 0) (q := 1) rfl fl85_1 ((hk 5 rfl).trans rfl)) rfl rfl
   ·intro ρz wz hz0 hz1 hk hd
    have hz := hz1 rfl
    have d22 := hd 7 rfl 22 rfl
    refine sk_other rfl ?_
    exact sk_val (v := .int .i64 a2.At) (by exact xr_load1 (v := .int .i64 a2.At) rfl ag3 d22 ((b27.fr hz f50).seg 1 rfl rfl)) rfl rfl
   ·intro ρz wz hz0 hz1 hk hd
    have hz := hz1 rfl
    refine sk_other rfl ?_
    exact sk_val (v := .pointer (some ⟨G26, 3, none⟩)) (by exact xr_fieldAddr (p := 0) (q := 3) rfl fl85_3 ((hk 5 rfl).trans rfl)) rfl rfl
   intro ρz wz hz0 hz1 hk hd
   have hz := hz1 rfl
   have d24 := hd 9 rfl 24 rfl
   refine sk_other rfl ?_
   exact sk_val (v := V2_0) (by exact xr_load1 (v := V2_0) rfl ag43 d24 ((b27.fr hz f50).seg 3 rfl rfl)) rfl rfl
  intro ρ59 w60 q61 hk hd
  obtain ⟨u62, u63, o64, m65, o66, m67, b68, e20⟩ := hd 5 rfl 20 rfl
  have e21 := hd 6 rfl 21 rfl
  have e23 := hd 8 rfl 23 rfl
  have e25 := hd 10 rfl 25 rfl
  have a69 := orv_new R2_0 rfl f56 m65
  have a70 := ov_new O1_4 f55 m67
  have a71 := orv_new R2_0 rfl f56 m67
  have m65 : ∀ g, Value.ownBlock u62 = some g → w.heap.size ≤ g ∨ (g = G_0 ∨ some g = Value.ownBlock V0_0 ∨ some g = Value.ownBlock V0_1 ∨ g = G_1 ∨ some g = Value.ownBlock V1_0 ∨ some g = Value.ownBlock V1_1 ∨ some g = Value.ownBlock V1_2 ∨ some g = Value.ownBlock V1_3 ∨ some g = Value.ownBlock V1_4) := fun g hg => (m65 g hg).elim (fun x => .inl (Nat.le_trans fB.size x)) (c58 g)
  have m67 : ∀ g, Value.ownBlock u63 = some g → w.heap.size ≤ g ∨ (g = G_0 ∨ some g = Value.ownBlock V0_0 ∨ some g = Value.ownBlock V0_1 ∨ g = G_1 ∨ some g = Value.ownBlock V1_0 ∨ some g = Value.ownBlock V1_1 ∨ some g = Value.ownBlock V1_2 ∨ some g = Value.ownBlock V1_3 ∨ some g = Value.ownBlock V1_4) := fun g hg => (m67 g hg).elim (fun x => .inl (Nat.le_trans fB.size x)) (c58 g)
  have b_1 := b_1.fr q61 f49
  have O1_0 := O1_0.fr q61 f51
  have O1_1 := O1_1.fr q61 f52
  have O1_2 := O1_2.fr q61 f53
  have O1_3 := O1_3.fr q61 f54
  have O1_4 := O1_4.fr q61 f55
  have R2_0 := R2_0.fr q61 f56
  have fB := fB.call q61 c58
  obtain ⟨t72, k73, h⟩ := bs h
  have f98 := (nb_or ne_P0_P1 (nb_or (nb_off (off_ty b68 O1_0 (by decide))) (nb_or (nb_off (off_ty b68 O1_1 (by decide))) (nb_or (nb_off (off_ty b68 O1_2 (by decide))) (nb_or (nb_off (off_ty b68 O1_3 (by decide))) (nb_off (off_ty b68 O1_4 (by decide))))))))
  have f99 := (vo_or (vo_eq (off_ty b_1 o64 (by decide))) (vo_or (vo_own (OffV.ty o64 O1_0 (by decide))) (vo_or (vo_own (OffV.ty o64 O1_1 (by decide))) (vo_or (vo_own (OffV.ty o64 O1_2 (by decide))) (vo_or (vo_own (OffV.ty o64 O1_3 (by decide))) (vo_own (OffV.ty o64 O1_4 (by decide))))))))
  have f100 := (vo_or (vo_eq (off_ty b_1 o66 (by decide))) (vo_or (vo_own (OffV.ty o66 O1_0 (by decide))) (vo_or (vo_own (OffV.ty o66 O1_1 (by decide))) (vo_or (vo_own (OffV.ty o66 O1_2 (by decide))) (vo_or (vo_own (OffV.ty o66 O1_3 (by decide))) (vo_own a70.symm))))))
  have f101 := (ro_or (ro_eq NR2_0_P1) (ro_or (ro_own NR2_0_R1_0) (ro_or (ro_own NR2_0_R1_1) (ro_or (ro_own NR2_0_R1_2) (ro_or (ro_own NR2_0_R1_3) (ro_own NR2_0_R1_4))))))
  have c102 : ∀ k, (k = G_1 ∨ some k = Value.ownBlock V1_0 ∨ some k = Value.ownBlock V1_1 ∨ some k = Value.ownBlock V1_2 ∨ some k = Value.ownBlock V1_3 ∨ some k = Value.ownBlock V1_4) → (w.heap.size ≤ k ∨ (k = G_0 ∨ some k = Value.ownBlock V0_0 ∨ some k = Value.ownBlock V0_1 ∨ k = G_1 ∨ some k = Value.ownBlock V1_0 ∨ some k = Value.ownBlock V1_1 ∨ some k = Value.ownBlock V1_2 ∨ some k = Value.ownBlock V1_3 ∨ some k = Value.ownBlock V1_4)) := (cv_or (cv_eq (.inr (.inr (.inr (.inr (.inl rfl)))))) (cv_or (cv_own M1_0) (cv_or (cv_own M1_1) (cv_or (cv_own M1_2) (cv_or (cv_own M1_3) (cv_own M1_4))))))
  refine ol_op (by exact opv_call rfl cal105 (ac e21 (ac e23 (ac e25 an))) (rickyardref15_Write.ok fu _ a1 G_1 V1_0 (Own.base O1_0 (Nat.zero_le _)) V1_1 (Own.base O1_1 (Nat.zero_le _)) V1_2 (Own.base O1_2 (Nat.zero_le _)) V1_3 (Own.base O1_3 (Nat.zero_le _)) V1_4 (Own.base O1_4 (Nat.zero_le _)) b_1 a2.At a2.B V2_0 (R2_0) A_R1_0_R1_1 A_R1_0_R1_2 A_R1_1_R1_2 NR2_0_P1 NR2_0_R1_0 NR2_0_R1_1 NR2_0_R1_2 NR2_0_R1_3 NR2_0_R1_4 _ k73)) rfl rfl rfl ?_
  rintro _ w103 ⟨u75, u79, u83, u87, u91, o76, m77, o80, m81, o84, m85, o88, m89, o92, m93, a95, a96, a97, rfl, b_1, q74⟩
  have a104 := ov_new o66 f100 m93
  have m77 : ∀ g, Value.ownBlock u75 = some g → w.heap.size ≤ g ∨ (g = G_0 ∨ some g = Value.ownBlock V0_0 ∨ some g = Value.ownBlock V0_1 ∨ g = G_1 ∨ some g = Value.ownBlock V1_0 ∨ some g = Value.ownBlock V1_1 ∨ some g = Value.ownBlock V1_2 ∨ some g = Value.ownBlock V1_3 ∨ some g = Value.ownBlock V1_4) := fun g hg => (m77 g hg).elim (fun x => .inl (Nat.le_trans fB.size x)) (c102 g)
  have m81 : ∀ g, Value.ownBlock u79 = some g → w.heap.size ≤ g ∨ (g = G_0 ∨ some g = Value.ownBlock V0_0 ∨ some g = Value.ownBlock V0_1 ∨ g = G_1 ∨ some g = Value.ownBlock V1_0 ∨ some g = Value.ownBlock V1_1 ∨ some g = Value.ownBlock V1_2 ∨ some g = Value.ownBlock V1_3 ∨ some g = Value.ownBlock V1_4) := fun g hg => (m81 g hg).elim (fun x => .inl (Nat.le_trans fB.size x)) (c102 g)
  have m85 : ∀ g, Value.ownBlock u83 = some g → w.heap.size ≤ g ∨ (g = G_0 ∨ some g = Value.ownBlock V0_0 ∨ some g = Value.ownBlock V0_1 ∨ g = G_1 ∨ some g = Value.ownBlock V1_0 ∨ some g = Value.ownBlock V1_1 ∨ some g = Value.ownBlock V1_2 ∨ some g = Value.ownBlock V1_3 ∨ some g = Value.ownBlock V1_4) := fun g hg => (m85 g hg).elim (fun x => .inl (Nat.le_trans fB.size x)) (c102 g)
  have m89 : ∀ g, Value.ownBlock u87 = some g → w.heap.size ≤ g ∨ (g = G_0 ∨ some g = Value.ownBlock V0_0 ∨ some g = Value.ownBlock V0_1 ∨ g = G_1 ∨ some g = Value.ownBlock V1_0 ∨ some g = Value.ownBlock V1_1 ∨ some g = Value.ownBlock V1_2 ∨ some g = Value.ownBlock V1_3 ∨ some g = Value.ownBlock V1_4) := fun g hg => (m89 g hg).elim (fun x => .inl (Nat.le_trans fB.size x)) (c102 g)
  have m93 : ∀ g, Value.ownBlock u91 = some g → w.heap.size ≤ g ∨ (g = G_0 ∨ some g = Value.ownBlock V0_0 ∨ some g = Value.ownBlock V0_1 ∨ g = G_1 ∨ some g = Value.ownBlock V1_0 ∨ some g = Value.ownBlock V1_1 ∨ some g = Value.ownBlock V1_2 ∨ some g = Value.ownBlock V1_3 ∨ some g = Value.ownBlock V1_4) := fun g hg => (m93 g hg).elim (fun x => .inl (Nat.le_trans fB.size x)) (c102 g)
  have b68 := b68.fr q74 f98
  have o64 := o64.fr q74 f99
  have o66 := o66.fr q74 f100
  have fB := fB.call q74 c102
  refine ol_val (v := .bool (decide (t37.1 = t72.1))) (by exact xr_eqI rfl Try.underlying3 rfl e20 rfl) rfl rfl rfl ?_
  refine ol_val (v := .bool (decide (t37.1 = t72.1))) (by exact xr_assign rfl rfl) rfl rfl rfl ?_
  refine ol_nil ?_
  refine cw_ret ?_
  repeat (first | with_reducible refine thn_r ?_ | with_reducible refine blk_r ?_)
  obtain rfl := Option.some.inj h
  refine fin_ret1 Try.results59 rfl ?_
  exact ⟨_, rfl, u62, u63, u75, u79, u83, u87, u91, o64, m65, o66, m67, o76, m77, o80, m81, o84, m85, o88, m89, o92, m93, a104, a95, a96, a97, rfl, b68, b_1, fB⟩
 refine cw_condF rfl c36 ?_
 refine cw_seq ?_
 refine cw_region ?_
 refine ol_val (v := .bool (decide (a2.Kind = 1))) (by exact xr_eqI rfl Try.underlying3 rfl rfl rfl) rfl rfl rfl ?_
 refine ol_val (v := .bool (decide (a2.Kind = 1))) (by exact xr_assign rfl rfl) rfl rfl rfl ?_
 refine ol_nil ?_
 rcases is h with ⟨c105, h⟩ | ⟨c105, h⟩
 ·refine cw_condT rfl c105 ?_
  refine cw_seq ?_
  obtain ⟨t106, k107, h⟩ := bs h
  have f118 := (nb_or ne_P0_P1.symm (nb_or (nb_off (off_ty b_1 O0_0 (by decide))) (nb_off (off_ty b_1 O0_1 (by decide)))))
  have f119 := (nb_or n32.symm (nb_or (nb_off (off_ty b27 O0_0 (by decide))) (nb_off (off_ty b27 O0_1 (by decide)))))
  have f120 := (vo_or (vo_eq (off_ty b_0 O1_0 (by decide))) (vo_or (vo_own (OffV.ty O1_0 O0_0 (by decide))) (vo_own (OffV.ty O1_0 O0_1 (by decide)))))
  have f121 := (vo_or (vo_eq (off_ty b_0 O1_1 (by decide))) (vo_or (vo_own (OffV.ty O1_1 O0_0 (by decide))) (vo_own (OffV.ty O1_1 O0_1 (by decide)))))
  have f122 := (vo_or (vo_eq (off_ty b_0 O1_2 (by decide))) (vo_or (vo_own (OffV.ty O1_2 O0_0 (by decide))) (vo_own (OffV.ty O1_2 O0_1 (by decide)))))
  have f123 := (vo_or (vo_eq (off_ty b_0 O1_3 (by decide))) (vo_or (vo_own (OffV.ty O1_3 O0_0 (by decide))) (vo_own (OffV.ty O1_3 O0_1 (by decide)))))
  have f124 := (vo_or (vo_eq (off_ty b_0 O1_4 (by decide))) (vo_or (vo_own (OffV.ty O1_4 O0_0 (by decide))) (vo_own A_R0_1_R1_4.symm)))
  have f125 := (ro_or (ro_eq NR2_0_P0) (ro_or (ro_own NR2_0_R0_0) (ro_own NR2_0_R0_1)))
  have f126 := (ro_or (ro_eq NR2_1_P0) (ro_or (ro_own NR2_1_R0_0) (ro_own NR2_1_R0_1)))
  have c127 : ∀ k, (k = G_0 ∨ some k = Value.ownBlock V0_0 ∨ some k = Value.ownBlock V0_1) → (w.heap.size ≤ k ∨ (k = G_0 ∨ some k = Value.ownBlock V0_0 ∨ some k = Value.ownBlock V0_1 ∨ k = G_1 ∨ some k = Value.ownBlock V1_0 ∨ some k = Value.ownBlock V1_1 ∨ some k = Value.ownBlock V1_2 ∨ some k = Value.ownBlock V1_3 ∨ some k = Value.ownBlock V1_4)) := (cv_or (cv_eq (.inr (.inl rfl))) (cv_or (cv_own M0_0) (cv_own M0_1)))
  refine cw_drawW 17 8 (fun j => j = G_0 ∨ some j = Value.ownBlock V0_0 ∨ some j = Value.ownBlock V0_1) [fun vz wz => vz = (.pointer (some ⟨G_0, 0, none⟩) : Value), fun vz wz => vz = (.pointer (some ⟨G26, 1, none⟩) : Value), fun vz wz => vz = (.int .i64 a2.At : Value), fun vz wz => vz = (.pointer (some ⟨G26, 2, none⟩) : Value), fun vz wz => vz = (.int .i64 a2.I : Value), fun vz wz => vz = (.pointer (some ⟨G26, 4, none⟩) : Value), fun vz wz => vz = (.pointer (some ⟨G26, 6, none⟩) : Value), fun vz wz => vz = (.int .u64 a2.A.W : Value), fun vz wz => ∃ u109 : Value, ∃ u113 : Value, ∃ o110 : Own k_pmem_cell 142 wz 0 u109 t106.2.cells, ∃ m111 : ∀ g, Value.ownBlock u109 = some g → w31.heap.size ≤ g ∨ (g = G_0 ∨ some g = Value.ownBlock V0_0 ∨ some g = Value.ownBlock V0_1), ∃ o114 : Own (kI .i64) 3 wz 0 u113 t106.2.plan.list, ∃ m115 : ∀ g, Value.ownBlock u113 = some g → w31.heap.size ≤ g ∨ (g = G_0 ∨ some g = Value.ownBlock V0_0 ∨ some g = Value.ownBlock V0_1), ∃ b117 : Blk wz G_0 139 [Seg.cell u109 o110.one, Seg.cell u113 o114.one, Seg.cell (.int .i64 t106.2.plan.at_), Seg.cell (.bool t106.2.off), Seg.cell (.bool t106.2.armed), Seg.cell (.int .i64 t106.2.left), Seg.cell (.int .i64 t106.2.steps)], vz = (.int .i64 t106.1 : Value), fun vz wz => vz = (.pointer (some ⟨G_1, 0, none⟩) : Value), fun vz wz => vz = (.pointer (some ⟨G26, 1, none⟩) : Value), fun vz wz => vz = (.int .i64 a2.At : Value), fun vz wz => vz = (.pointer (some ⟨G26, 2, none⟩) : Value), fun vz wz => vz = (.int .i64 a2.I : Value), fun vz wz => vz = (.pointer (some ⟨G26, 4, none⟩) : Value), fun vz wz => vz = (.pointer (some ⟨G26, 6, none⟩) : Value), fun vz wz => vz = (.int .u64 a2.A.W : Value)] mo rfl ⟨fun _ _ _ h _ => h, fun _ _ _ h _ => h, fun _ _ _ h _ => h, fun _ _ _ h _ => h, fun _ _ _ h _ => h, fun _ _ _ h _ => h, fun _ _ _ h _ => h, fun _ _ _ h _ => h, fun _ _ _ ⟨u109, u113, o110, m111, o114, m115, b117, h⟩ q => ⟨u109, u113, o110.gr q, m111, o114.gr q, m115, b117.gr q, h⟩, fun _ _ _ h _ => h, fun _ _ _ h _ => h, fun _ _ _ h _ => h, fun _ _ _ h _ => h, fun _ _ _ h _ => h, fun _ _ _ h _ => h, fun _ _ _ h _ => h, fun _ _ _ h _ => h, trivial⟩ ⟨.inr fun _ _ _ h _ => h, .inr fun _ _ _ h _ => h, .inr fun _ _ _ h _ => h, .inr fun _ _ _ h _ => h, .inr fun _ _ _ h _ => h, .inr fun _ _ _ h _ => h, .inr fun _ _ _ h _ => h, .inr fun _ _ _ h _ => h, .inl rfl, .inr fun _ _ _ h _ => h, .inr fun _ _ _ h _ => h, .inr fun _ _ _ h _ => h, .inr fun _ _ _ h _ => h, .inr fun _ _ _ h _ => h, .inr fun _ _ _ h _ => h, .inr fun _ _ _ h _ => h, .inr fun _ _ _ h _ => h, trivial⟩ ?_ ?_
  ·refine ⟨?_, ?_, ?_, ?_, ?_, ?_, ?_, ?_, ?_, ?_, ?_, ?_, ?_, ?_, ?_, ?_, ?_, trivial⟩
   ·intro ρz wz hz0 hz1 hk hd
    have hz := hz1 rfl
    refine sk_other rfl ?_
    exact sk_val (v := .pointer (some ⟨G_0, 0, none⟩)) (by exact xr_move rfl ((hk 0 rfl).trans rfl)) rfl rfl
   ·intro ρz wz hz0 hz1 hk hd
    have hz := hz1 rfl
    refine sk_other rfl ?_
    exact sk_val (v := .pointer (some ⟨G26, 1, none⟩)) (by exact xr_fieldAddr (p := 0) (q := 1) rfl fl85_1 ((hk 5 rfl).trans rfl)) rfl rfl
   ·intro ρz wz hz0 hz1 hk hd
    have hz := hz1 rfl
    have d31 := hd 1 rfl 31 rfl
    refine sk_other rfl ?_
    exact sk_val (v := .int .i64 a2.At) (by exact xr_load1 (v := .int .i64 a2.At) rfl ag3 d31 ((b27.fr hz f119).seg 1 rfl rfl)) rfl rfl
   ·intro ρz wz hz0 hz1 hk hd
    have hz := hz1 rfl
    refine sk_other rfl ?_
    exact sk_val (v := .pointer (some ⟨G26, 2, none⟩)) (by exact xr_fieldAddr (p := 0) (q := 2) rfl fl85_2 ((hk 5 rfl).trans rfl)) rfl rfl
   ·intro ρz wz hz0 hz1 hk hd
    have hz := hz1 rfl
    have d33 := hd 3 rfl 33 rfl
    refine sk_other rfl ?_
    exact sk_val (v := .int .i64 a2.I) (by exact xr_load1 (v := .int .i64 a2.I) rfl ag3 d33 ((b27.fr hz f119).seg 2 rfl rfl)) rfl rfl
   ·intro ρz wz hz0 hz1 hk hd
    have hz := hz1 rfl
    refine sk_other rfl ?_
    exact sk_val (v := .pointer (some ⟨G26, 4, none⟩)) (by exact xr_fieldAddr (p := 0) (q := 4) rfl fl85_4 ((hk 5 rfl).trans rfl)) rfl rfl
   ·intro ρz wz hz0 hz1 hk hd
    have hz := hz1 rfl
    have d35 := hd 5 rfl 35 rfl
    refine sk_other rfl ?_
    exact sk_val (v := .pointer (some ⟨G26, 6, none⟩)) (by exact xr_fieldAddr (p := 4) (q := 2) rfl fl39_2 d35) rfl rfl
   ·intro ρz wz hz0 hz1 hk hd
    have hz := hz1 rfl
    have d36 := hd 6 rfl 36 rfl
    refine sk_other rfl ?_
    exact sk_val (v := .int .u64 a2.A.W) (by exact xr_load1 (v := .int .u64 a2.A.W) rfl ag22 d36 ((b27.fr hz f119).seg 6 rfl rfl)) rfl rfl
   ·intro ρz wz hz0 hz1 hk hd
    have hz := hz0 rfl
    have d30 := hd 0 rfl 30 rfl
    have d32 := hd 2 rfl 32 rfl
    have d34 := hd 4 rfl 34 rfl
    have d37 := hd 7 rfl 37 rfl
    refine sk_writer rfl (by exact opv_call rfl cal57 (ac d30 (ac d32 (ac d34 (ac d37 an)))) (press_Word.ok fu _ a0 G_0 V0_0 (Own.base (O0_0.gr hz) (Nat.zero_le _)) V0_1 (Own.base (O0_1.gr hz) (Nat.zero_le _)) (b_0.gr hz) a2.At a2.I a2.A.W _ k107)) rfl ?_
    rintro _ wy ⟨u109, u113, o110, m111, o114, m115, rfl, b_0, q108⟩
    exact ⟨⟨u109, u113, o110, (fun g hg => (m111 g hg).elim (fun x => .inl (Nat.le_trans hz.size x)) .inr), o114, (fun g hg => (m115 g hg).elim (fun x => .inl (Nat.le_trans hz.size x)) .inr), b_0, rfl⟩, q108⟩
   ·intro ρz wz hz0 hz1 hk hd
    have hz := hz1 rfl
    refine sk_other rfl ?_
    exact sk_val (v := .pointer (some ⟨G_1, 0, none⟩)) (by exact xr_move rfl ((hk 1 rfl).trans rfl)) rfl rfl
   ·intro ρz wz hz0 hz1 hk hd
    have hz := hz1 rfl
    refine sk_other rfl ?_
    exact sk_val (v := .pointer (some ⟨G26, 1, none⟩)) (by exact xr_fieldAddr (p := 0) (q := 1) rfl fl85_1 ((hk 5 rfl).trans rfl)) rfl rfl
   ·intro ρz wz hz0 hz1 hk hd
    have hz := hz1 rfl
    have d40 := hd 10 rfl 40 rfl
    refine sk_other rfl ?_
    exact sk_val (v := .int .i64 a2.At) (by exact xr_load1 (v := .int .i64 a2.At) rfl ag3 d40 ((b27.fr hz f119).seg 1 rfl rfl)) rfl rfl
   ·intro ρz wz hz0 hz1 hk hd
    have hz := hz1 rfl
    refine sk_other rfl ?_
    exact sk_val (v := .pointer (some ⟨G26, 2, none⟩)) (by exact xr_fieldAddr (p := 0) (q := 2) rfl fl85_2 ((hk 5 rfl).trans rfl)) rfl rfl
   ·intro ρz wz hz0 hz1 hk hd
    have hz := hz1 rfl
    have d42 := hd 12 rfl 42 rfl
    refine sk_other rfl ?_
    exact sk_val (v := .int .i64 a2.I) (by exact xr_load1 (v := .int .i64 a2.I) rfl ag3 d42 ((b27.fr hz f119).seg 2 rfl rfl)) rfl rfl
   ·intro ρz wz hz0 hz1 hk hd
    have hz := hz1 rfl
    refine sk_other rfl ?_
    exact sk_val (v := .pointer (some ⟨G26, 4, none⟩)) (by exact xr_fieldAddr (p := 0) (q := 4) rfl fl85_4 ((hk 5 rfl).trans rfl)) rfl rfl
   ·intro ρz wz hz0 hz1 hk hd
    have hz := hz1 rfl
    have d44 := hd 14 rfl 44 rfl
    refine sk_other rfl ?_
    exact sk_val (v := .pointer (some ⟨G26, 6, none⟩)) (by exact xr_fieldAddr (p := 4) (q := 2) rfl fl39_2 d44) rfl rfl
   intro ρz wz hz0 hz1 hk hd
   have hz := hz1 rfl
   have d45 := hd 15 rfl 45 rfl
   refine sk_other rfl ?_
   exact sk_val (v := .int .u64 a2.A.W) (by exact xr_load1 (v := .int .u64 a2.A.W) rfl ag22 d45 ((b27.fr hz f119).seg 6 rfl rfl)) rfl rfl
  intro ρ128 w129 q130 hk hd
  obtain ⟨u131, u132, o133, m134, o135, m136, b137, e38⟩ := hd 8 rfl 38 rfl
  have e39 := hd 9 rfl 39 rfl
  have e41 := hd 11 rfl 41 rfl
  have e43 := hd 13 rfl 43 rfl
  have e46 := hd 16 rfl 46 rfl
  have a138 := ov_new O1_4 f124 m136
  have m134 : ∀ g, Value.ownBlock u131 = some g → w.heap.size ≤ g ∨ (g = G_0 ∨ some g = Value.ownBlock V0_0 ∨ some g = Value.ownBlock V0_1 ∨ g = G_1 ∨ some g = Value.ownBlock V1_0 ∨ some g = Value.ownBlock V1_1 ∨ some g = Value.ownBlock V1_2 ∨ some g = Value.ownBlock V1_3 ∨ some g = Value.ownBlock V1_4) := fun g hg => (m134 g hg).elim (fun x => .inl (Nat.le_trans fB.size x)) (c127 g)
  have m136 : ∀ g, Value.ownBlock u132 = some g → w.heap.size ≤ g ∨ (g = G_0 ∨ some g = Value.ownBlock V0_0 ∨ some g = Value.ownBlock V0_1 ∨ g = G_1 ∨ some g = Value.ownBlock V1_0 ∨ some g = Value.ownBlock V1_1 ∨ some g = Value.ownBlock V1_2 ∨ some g = Value.ownBlock V1_3 ∨ some g = Value.ownBlock V1_4) := fun g hg => (m136 g hg).elim (fun x => .inl (Nat.le_trans fB.size x)) (c127 g)
  have b_1 := b_1.fr q130 f118
  have O1_0 := O1_0.fr q130 f120
  have O1_1 := O1_1.fr q130 f121
  have O1_2 := O1_2.fr q130 f122
  have O1_3 := O1_3.fr q130 f123
  have O1_4 := O1_4.fr q130 f124
  have fB := fB.call q130 c127
  obtain ⟨t139, k140, h⟩ := bs h
  have f165 := (nb_or ne_P0_P1 (nb_or (nb_off (off_ty b137 O1_0 (by decide))) (nb_or (nb_off (off_ty b137 O1_1 (by decide))) (nb_or (nb_off (off_ty b137 O1_2 (by decide))) (nb_or (nb_off (off_ty b137 O1_3 (by decide))) (nb_off (off_ty b137 O1_4 (by decide))))))))
  have f166 := (vo_or (vo_eq (off_ty b_1 o133 (by decide))) (vo_or (vo_own (OffV.ty o133 O1_0 (by decide))) (vo_or (vo_own (OffV.ty o133 O1_1 (by decide))) (vo_or (vo_own (OffV.ty o133 O1_2 (by decide))) (vo_or (vo_own (OffV.ty o133 O1_3 (by decide))) (vo_own (OffV.ty o133 O1_4 (by decide))))))))
  have f167 := (vo_or (vo_eq (off_ty b_1 o135 (by decide))) (vo_or (vo_own (OffV.ty o135 O1_0 (by decide))) (vo_or (vo_own (OffV.ty o135 O1_1 (by decide))) (vo_or (vo_own (OffV.ty o135 O1_2 (by decide))) (vo_or (vo_own (OffV.ty o135 O1_3 (by decide))) (vo_own a138.symm))))))
  have c168 : ∀ k, (k = G_1 ∨ some k = Value.ownBlock V1_0 ∨ some k = Value.ownBlock V1_1 ∨ some k = Value.ownBlock V1_2 ∨ some k = Value.ownBlock V1_3 ∨ some k = Value.ownBlock V1_4) → (w.heap.size ≤ k ∨ (k = G_0 ∨ some k = Value.ownBlock V0_0 ∨ some k = Value.ownBlock V0_1 ∨ k = G_1 ∨ some k = Value.ownBlock V1_0 ∨ some k = Value.ownBlock V1_1 ∨ some k = Value.ownBlock V1_2 ∨ some k = Value.ownBlock V1_3 ∨ some k = Value.ownBlock V1_4)) := (cv_or (cv_eq (.inr (.inr (.inr (.inr (.inl rfl)))))) (cv_or (cv_own M1_0) (cv_or (cv_own M1_1) (cv_or (cv_own M1_2) (cv_or (cv_own M1_3) (cv_own M1_4))))))
  refine ol_op (by exact opv_call rfl cal106 (ac e39 (ac e41 (ac e43 (ac e46 an)))) (rickyardref15_Word.ok fu _ a1 G_1 V1_0 (Own.base O1_0 (Nat.zero_le _)) V1_1 (Own.base O1_1 (Nat.zero_le _)) V1_2 (Own.base O1_2 (Nat.zero_le _)) V1_3 (Own.base O1_3 (Nat.zero_le _)) V1_4 (Own.base O1_4 (Nat.zero_le _)) b_1 a2.At a2.I a2.A.W A_R1_0_R1_1 A_R1_0_R1_2 A_R1_1_R1_2 _ k140)) rfl rfl rfl ?_
  rintro _ w169 ⟨u142, u146, u150, u154, u158, o143, m144, o147, m148, o151, m152, o155, m156, o159, m160, a162, a163, a164, rfl, b_1, q141⟩
  have a170 := ov_new o135 f167 m160
  have m144 : ∀ g, Value.ownBlock u142 = some g → w.heap.size ≤ g ∨ (g = G_0 ∨ some g = Value.ownBlock V0_0 ∨ some g = Value.ownBlock V0_1 ∨ g = G_1 ∨ some g = Value.ownBlock V1_0 ∨ some g = Value.ownBlock V1_1 ∨ some g = Value.ownBlock V1_2 ∨ some g = Value.ownBlock V1_3 ∨ some g = Value.ownBlock V1_4) := fun g hg => (m144 g hg).elim (fun x => .inl (Nat.le_trans fB.size x)) (c168 g)
  have m148 : ∀ g, Value.ownBlock u146 = some g → w.heap.size ≤ g ∨ (g = G_0 ∨ some g = Value.ownBlock V0_0 ∨ some g = Value.ownBlock V0_1 ∨ g = G_1 ∨ some g = Value.ownBlock V1_0 ∨ some g = Value.ownBlock V1_1 ∨ some g = Value.ownBlock V1_2 ∨ some g = Value.ownBlock V1_3 ∨ some g = Value.ownBlock V1_4) := fun g hg => (m148 g hg).elim (fun x => .inl (Nat.le_trans fB.size x)) (c168 g)
  have m152 : ∀ g, Value.ownBlock u150 = some g → w.heap.size ≤ g ∨ (g = G_0 ∨ some g = Value.ownBlock V0_0 ∨ some g = Value.ownBlock V0_1 ∨ g = G_1 ∨ some g = Value.ownBlock V1_0 ∨ some g = Value.ownBlock V1_1 ∨ some g = Value.ownBlock V1_2 ∨ some g = Value.ownBlock V1_3 ∨ some g = Value.ownBlock V1_4) := fun g hg => (m152 g hg).elim (fun x => .inl (Nat.le_trans fB.size x)) (c168 g)
  have m156 : ∀ g, Value.ownBlock u154 = some g → w.heap.size ≤ g ∨ (g = G_0 ∨ some g = Value.ownBlock V0_0 ∨ some g = Value.ownBlock V0_1 ∨ g = G_1 ∨ some g = Value.ownBlock V1_0 ∨ some g = Value.ownBlock V1_1 ∨ some g = Value.ownBlock V1_2 ∨ some g = Value.ownBlock V1_3 ∨ some g = Value.ownBlock V1_4) := fun g hg => (m156 g hg).elim (fun x => .inl (Nat.le_trans fB.size x)) (c168 g)
  have m160 : ∀ g, Value.ownBlock u158 = some g → w.heap.size ≤ g ∨ (g = G_0 ∨ some g = Value.ownBlock V0_0 ∨ some g = Value.ownBlock V0_1 ∨ g = G_1 ∨ some g = Value.ownBlock V1_0 ∨ some g = Value.ownBlock V1_1 ∨ some g = Value.ownBlock V1_2 ∨ some g = Value.ownBlock V1_3 ∨ some g = Value.ownBlock V1_4) := fun g hg => (m160 g hg).elim (fun x => .inl (Nat.le_trans fB.size x)) (c168 g)
  have b137 := b137.fr q141 f165
  have o133 := o133.fr q141 f166
  have o135 := o135.fr q141 f167
  have fB := fB.call q141 c168
  refine ol_val (v := .bool (decide (t106.1 = t139.1))) (by exact xr_eqI rfl Try.underlying3 rfl e38 rfl) rfl rfl rfl ?_
  refine ol_val (v := .bool (decide (t106.1 = t139.1))) (by exact xr_assign rfl rfl) rfl rfl rfl ?_
  refine ol_nil ?_
  refine cw_ret ?_
  repeat (first | with_reducible refine thn_r ?_ | with_reducible refine blk_r ?_)
  obtain rfl := Option.some.inj h
  refine fin_ret1 Try.results59 rfl ?_
  exact ⟨_, rfl, u131, u132, u142, u146, u150, u154, u158, o133, m134, o135, m136, o143, m144, o147, m148, o151, m152, o155, m156, o159, m160, a170, a162, a163, a164, rfl, b137, b_1, fB⟩
 refine cw_condF rfl c105 ?_
 refine cw_seq ?_
 refine cw_region ?_
 refine ol_val (v := .bool (decide (a2.Kind = 2))) (by exact xr_eqI rfl Try.underlying3 rfl rfl rfl) rfl rfl rfl ?_
 refine ol_val (v := .bool (decide (a2.Kind = 2))) (by exact xr_assign rfl rfl) rfl rfl rfl ?_
 refine ol_nil ?_
 rcases is h with ⟨c171, h⟩ | ⟨c171, h⟩
 ·refine cw_condT rfl c171 ?_
  refine cw_seq ?_
  refine cw_region ?_
  refine ol_val (v := .pointer (some ⟨G_0, 0, none⟩)) (by exact xr_move rfl rfl) rfl rfl rfl ?_
  obtain ⟨t172, k173, h⟩ := bs h
  have f183 := (nb_or ne_P0_P1.symm (nb_or (nb_off (off_ty b_1 O0_0 (by decide))) (nb_off (off_ty b_1 O0_1 (by decide)))))
  have f184 := (vo_or (vo_eq (off_ty b_0 O1_0 (by decide))) (vo_or (vo_own (OffV.ty O1_0 O0_0 (by decide))) (vo_own (OffV.ty O1_0 O0_1 (by decide)))))
  have f185 := (vo_or (vo_eq (off_ty b_0 O1_1 (by decide))) (vo_or (vo_own (OffV.ty O1_1 O0_0 (by decide))) (vo_own (OffV.ty O1_1 O0_1 (by decide)))))
  have f186 := (vo_or (vo_eq (off_ty b_0 O1_2 (by decide))) (vo_or (vo_own (OffV.ty O1_2 O0_0 (by decide))) (vo_own (OffV.ty O1_2 O0_1 (by decide)))))
  have f187 := (vo_or (vo_eq (off_ty b_0 O1_3 (by decide))) (vo_or (vo_own (OffV.ty O1_3 O0_0 (by decide))) (vo_own (OffV.ty O1_3 O0_1 (by decide)))))
  have f188 := (vo_or (vo_eq (off_ty b_0 O1_4 (by decide))) (vo_or (vo_own (OffV.ty O1_4 O0_0 (by decide))) (vo_own A_R0_1_R1_4.symm)))
  have c189 : ∀ k, (k = G_0 ∨ some k = Value.ownBlock V0_0 ∨ some k = Value.ownBlock V0_1) → (w.heap.size ≤ k ∨ (k = G_0 ∨ some k = Value.ownBlock V0_0 ∨ some k = Value.ownBlock V0_1 ∨ k = G_1 ∨ some k = Value.ownBlock V1_0 ∨ some k = Value.ownBlock V1_1 ∨ some k = Value.ownBlock V1_2 ∨ some k = Value.ownBlock V1_3 ∨ some k = Value.ownBlock V1_4)) := (cv_or (cv_eq (.inr (.inl rfl))) (cv_or (cv_own M0_0) (cv_own M0_1)))
  refine ol_op (by exact opv_call rfl cal54 (ac rfl an) (press_Sure.ok fu _ a0 G_0 V0_0 (Own.base O0_0 (Nat.zero_le _)) V0_1 (Own.base O0_1 (Nat.zero_le _)) b_0 _ k173)) rfl rfl rfl ?_
  rintro _ w190 ⟨u175, u179, o176, m177, o180, m181, rfl, b_0, q174⟩
  have a191 := ov_new O1_4 f188 m181
  have m177 : ∀ g, Value.ownBlock u175 = some g → w.heap.size ≤ g ∨ (g = G_0 ∨ some g = Value.ownBlock V0_0 ∨ some g = Value.ownBlock V0_1 ∨ g = G_1 ∨ some g = Value.ownBlock V1_0 ∨ some g = Value.ownBlock V1_1 ∨ some g = Value.ownBlock V1_2 ∨ some g = Value.ownBlock V1_3 ∨ some g = Value.ownBlock V1_4) := fun g hg => (m177 g hg).elim (fun x => .inl (Nat.le_trans fB.size x)) (c189 g)
  have m181 : ∀ g, Value.ownBlock u179 = some g → w.heap.size ≤ g ∨ (g = G_0 ∨ some g = Value.ownBlock V0_0 ∨ some g = Value.ownBlock V0_1 ∨ g = G_1 ∨ some g = Value.ownBlock V1_0 ∨ some g = Value.ownBlock V1_1 ∨ some g = Value.ownBlock V1_2 ∨ some g = Value.ownBlock V1_3 ∨ some g = Value.ownBlock V1_4) := fun g hg => (m181 g hg).elim (fun x => .inl (Nat.le_trans fB.size x)) (c189 g)
  have b_1 := b_1.fr q174 f183
  have O1_0 := O1_0.fr q174 f184
  have O1_1 := O1_1.fr q174 f185
  have O1_2 := O1_2.fr q174 f186
  have O1_3 := O1_3.fr q174 f187
  have O1_4 := O1_4.fr q174 f188
  have fB := fB.call q174 c189
  refine ol_val (v := .pointer (some ⟨G_1, 0, none⟩)) (by exact xr_move rfl rfl) rfl rfl rfl ?_
  obtain ⟨t192, k193, h⟩ := bs h
  have f218 := (nb_or ne_P0_P1 (nb_or (nb_off (off_ty b_0 O1_0 (by decide))) (nb_or (nb_off (off_ty b_0 O1_1 (by decide))) (nb_or (nb_off (off_ty b_0 O1_2 (by decide))) (nb_or (nb_off (off_ty b_0 O1_3 (by decide))) (nb_off (off_ty b_0 O1_4 (by decide))))))))
  have f219 := (vo_or (vo_eq (off_ty b_1 o176 (by decide))) (vo_or (vo_own (OffV.ty o176 O1_0 (by decide))) (vo_or (vo_own (OffV.ty o176 O1_1 (by decide))) (vo_or (vo_own (OffV.ty o176 O1_2 (by decide))) (vo_or (vo_own (OffV.ty o176 O1_3 (by decide))) (vo_own (OffV.ty o176 O1_4 (by decide))))))))
  have f220 := (vo_or (vo_eq (off_ty b_1 o180 (by decide))) (vo_or (vo_own (OffV.ty o180 O1_0 (by decide))) (vo_or (vo_own (OffV.ty o180 O1_1 (by decide))) (vo_or (vo_own (OffV.ty o180 O1_2 (by decide))) (vo_or (vo_own (OffV.ty o180 O1_3 (by decide))) (vo_own a191.symm))))))
  have c221 : ∀ k, (k = G_1 ∨ some k = Value.ownBlock V1_0 ∨ some k = Value.ownBlock V1_1 ∨ some k = Value.ownBlock V1_2 ∨ some k = Value.ownBlock V1_3 ∨ some k = Value.ownBlock V1_4) → (w.heap.size ≤ k ∨ (k = G_0 ∨ some k = Value.ownBlock V0_0 ∨ some k = Value.ownBlock V0_1 ∨ k = G_1 ∨ some k = Value.ownBlock V1_0 ∨ some k = Value.ownBlock V1_1 ∨ some k = Value.ownBlock V1_2 ∨ some k = Value.ownBlock V1_3 ∨ some k = Value.ownBlock V1_4)) := (cv_or (cv_eq (.inr (.inr (.inr (.inr (.inl rfl)))))) (cv_or (cv_own M1_0) (cv_or (cv_own M1_1) (cv_or (cv_own M1_2) (cv_or (cv_own M1_3) (cv_own M1_4))))))
  refine ol_op (by exact opv_call rfl cal95 (ac rfl an) (rickyardref05_Device_Fence.ok fu _ a1 G_1 V1_0 (Own.base O1_0 (Nat.zero_le _)) V1_1 (Own.base O1_1 (Nat.zero_le _)) V1_2 (Own.base O1_2 (Nat.zero_le _)) V1_3 (Own.base O1_3 (Nat.zero_le _)) V1_4 (Own.base O1_4 (Nat.zero_le _)) b_1 A_R1_0_R1_1 A_R1_0_R1_2 A_R1_1_R1_2 _ k193)) rfl rfl rfl ?_
  rintro _ w222 ⟨u195, u199, u203, u207, u211, o196, m197, o200, m201, o204, m205, o208, m209, o212, m213, a215, a216, a217, rfl, b_1, q194⟩
  have a223 := ov_new o180 f220 m213
  have m197 : ∀ g, Value.ownBlock u195 = some g → w.heap.size ≤ g ∨ (g = G_0 ∨ some g = Value.ownBlock V0_0 ∨ some g = Value.ownBlock V0_1 ∨ g = G_1 ∨ some g = Value.ownBlock V1_0 ∨ some g = Value.ownBlock V1_1 ∨ some g = Value.ownBlock V1_2 ∨ some g = Value.ownBlock V1_3 ∨ some g = Value.ownBlock V1_4) := fun g hg => (m197 g hg).elim (fun x => .inl (Nat.le_trans fB.size x)) (c221 g)
  have m201 : ∀ g, Value.ownBlock u199 = some g → w.heap.size ≤ g ∨ (g = G_0 ∨ some g = Value.ownBlock V0_0 ∨ some g = Value.ownBlock V0_1 ∨ g = G_1 ∨ some g = Value.ownBlock V1_0 ∨ some g = Value.ownBlock V1_1 ∨ some g = Value.ownBlock V1_2 ∨ some g = Value.ownBlock V1_3 ∨ some g = Value.ownBlock V1_4) := fun g hg => (m201 g hg).elim (fun x => .inl (Nat.le_trans fB.size x)) (c221 g)
  have m205 : ∀ g, Value.ownBlock u203 = some g → w.heap.size ≤ g ∨ (g = G_0 ∨ some g = Value.ownBlock V0_0 ∨ some g = Value.ownBlock V0_1 ∨ g = G_1 ∨ some g = Value.ownBlock V1_0 ∨ some g = Value.ownBlock V1_1 ∨ some g = Value.ownBlock V1_2 ∨ some g = Value.ownBlock V1_3 ∨ some g = Value.ownBlock V1_4) := fun g hg => (m205 g hg).elim (fun x => .inl (Nat.le_trans fB.size x)) (c221 g)
  have m209 : ∀ g, Value.ownBlock u207 = some g → w.heap.size ≤ g ∨ (g = G_0 ∨ some g = Value.ownBlock V0_0 ∨ some g = Value.ownBlock V0_1 ∨ g = G_1 ∨ some g = Value.ownBlock V1_0 ∨ some g = Value.ownBlock V1_1 ∨ some g = Value.ownBlock V1_2 ∨ some g = Value.ownBlock V1_3 ∨ some g = Value.ownBlock V1_4) := fun g hg => (m209 g hg).elim (fun x => .inl (Nat.le_trans fB.size x)) (c221 g)
  have m213 : ∀ g, Value.ownBlock u211 = some g → w.heap.size ≤ g ∨ (g = G_0 ∨ some g = Value.ownBlock V0_0 ∨ some g = Value.ownBlock V0_1 ∨ g = G_1 ∨ some g = Value.ownBlock V1_0 ∨ some g = Value.ownBlock V1_1 ∨ some g = Value.ownBlock V1_2 ∨ some g = Value.ownBlock V1_3 ∨ some g = Value.ownBlock V1_4) := fun g hg => (m213 g hg).elim (fun x => .inl (Nat.le_trans fB.size x)) (c221 g)
  have b_0 := b_0.fr q194 f218
  have o176 := o176.fr q194 f219
  have o180 := o180.fr q194 f220
  have fB := fB.call q194 c221
  refine ol_val (v := .bool (decide (t172.1 = t192.1))) (by exact xr_eqI rfl Try.underlying3 rfl rfl rfl) rfl rfl rfl ?_
  refine ol_val (v := .bool (decide (t172.1 = t192.1))) (by exact xr_assign rfl rfl) rfl rfl rfl ?_
  refine ol_nil ?_
  refine cw_ret ?_
  repeat (first | with_reducible refine thn_r ?_ | with_reducible refine blk_r ?_)
  obtain rfl := Option.some.inj h
  refine fin_ret1 Try.results59 rfl ?_
  exact ⟨_, rfl, u175, u179, u195, u199, u203, u207, u211, o176, m177, o180, m181, o196, m197, o200, m201, o204, m205, o208, m209, o212, m213, a223, a215, a216, a217, rfl, b_0, b_1, fB⟩
 refine cw_condF rfl c171 ?_
 refine cw_seq ?_
 refine cw_region ?_
 refine ol_val (v := .bool (decide (a2.Kind = 3))) (by exact xr_eqI rfl Try.underlying3 rfl rfl rfl) rfl rfl rfl ?_
 refine ol_val (v := .bool (decide (a2.Kind = 3))) (by exact xr_assign rfl rfl) rfl rfl rfl ?_
 refine ol_nil ?_
 rcases is h with ⟨c224, h⟩ | ⟨c224, h⟩
 ·refine cw_condT rfl c224 ?_
  refine cw_seq ?_
  refine cw_region ?_
  refine ol_val (v := .pointer (some ⟨G_0, 0, none⟩)) (by exact xr_move rfl rfl) rfl rfl rfl ?_
  refine ol_val (v := .pointer (some ⟨G26, 1, none⟩)) (by exact xr_fieldAddr (p := 0) (q := 1) rfl fl85_1 rfl) rfl rfl rfl ?_
  refine ol_val (v := .int .i64 a2.At) (by exact xr_load1 (v := .int .i64 a2.At) rfl ag3 rfl (b27.seg 1 rfl rfl)) rfl rfl rfl ?_
  obtain ⟨t225, k226, h⟩ := bs h
  refine ol_op (by exact opv_call rfl cal55 (ac rfl (ac rfl an)) (press_Read.ok fu _ a0 G_0 V0_0 (O0_0.rd) V0_1 (O0_1.rd) b_0 a2.At _ k226)) rfl rfl rfl ?_
  rintro _ w231 ⟨u227, o228, rfl, q230⟩
  have a232 := OffRV.call R2_0 o228 rfl
  have a233 := OffRV.call R2_1 o228 rfl
  have o228 := Own.base o228 fB.size
  have b_0 := b_0.gr q230
  have b_1 := b_1.gr q230
  have b27 := b27.gr q230
  have O0_0 := O0_0.gr q230
  have O0_1 := O0_1.gr q230
  have O1_0 := O1_0.gr q230
  have O1_1 := O1_1.gr q230
  have O1_2 := O1_2.gr q230
  have O1_3 := O1_3.gr q230
  have O1_4 := O1_4.gr q230
  have R2_0 := R2_0.gr q230
  have R2_1 := R2_1.gr q230
  have fB := fB.gr q230
  refine ol_val (v := .tuple #[u227, .int .i64 t225.2]) (by exact xr_move rfl rfl) rfl rfl rfl ?_
  refine ol_val (v := u227) (by exact xr_extract rfl rfl rfl) rfl rfl rfl ?_
  refine ol_val (v := .int .i64 t225.2) (by exact xr_extract rfl rfl rfl) rfl rfl rfl ?_
  refine ol_val (v := u227) (by exact xr_assign rfl rfl) rfl rfl rfl ?_
  refine ol_val (v := .int .i64 t225.2) (by exact xr_assign rfl rfl) rfl rfl rfl ?_
  refine ol_nil ?_
  refine cw_seq ?_
  refine cw_region ?_
  refine ol_val (v := .pointer (some ⟨G_1, 0, none⟩)) (by exact xr_move rfl rfl) rfl rfl rfl ?_
  refine ol_val (v := .pointer (some ⟨G26, 1, none⟩)) (by exact xr_fieldAddr (p := 0) (q := 1) rfl fl85_1 rfl) rfl rfl rfl ?_
  refine ol_val (v := .int .i64 a2.At) (by exact xr_load1 (v := .int .i64 a2.At) rfl ag3 rfl (b27.seg 1 rfl rfl)) rfl rfl rfl ?_
  obtain ⟨t234, k235, h⟩ := bs h
  refine ol_op (by exact opv_call rfl cal107 (ac rfl (ac rfl an)) (rickyardref15_Read.ok fu _ a1 G_1 V1_0 (O1_0.rd) V1_1 (O1_1.rd) V1_2 (O1_2.rd) V1_3 (O1_3.rd) V1_4 (O1_4.rd) b_1 a2.At _ k235)) rfl rfl rfl ?_
  rintro _ w237 ⟨rfl, q236⟩
  have b_0 := b_0.gr q236
  have b_1 := b_1.gr q236
  have O0_0 := O0_0.gr q236
  have O0_1 := O0_1.gr q236
  have O1_0 := O1_0.gr q236
  have O1_1 := O1_1.gr q236
  have O1_2 := O1_2.gr q236
  have O1_3 := O1_3.gr q236
  have O1_4 := O1_4.gr q236
  have o228 := o228.gr q236
  have fB := fB.gr q236
  refine ol_val (v := .tuple #[sv t234.1, .int .i64 t234.2]) (by exact xr_move rfl rfl) rfl rfl rfl ?_
  refine ol_val (v := sv t234.1) (by exact xr_extract rfl rfl rfl) rfl rfl rfl ?_
  refine ol_val (v := .int .i64 t234.2) (by exact xr_extract rfl rfl rfl) rfl rfl rfl ?_
  refine ol_val (v := sv t234.1) (by exact xr_assign rfl rfl) rfl rfl rfl ?_
  refine ol_val (v := .int .i64 t234.2) (by exact xr_assign rfl rfl) rfl rfl rfl ?_
  refine ol_nil ?_
  refine cw_seq ?_
  refine cw_mid (fun ρ' w' => ρ' 6 = .bool (if (decide ((List.map toB t225.1) = t234.1)) = true then (decide (t225.2 = t234.2)) else false) ∧ w237 = w') ?_ ?_
  ·skip
   refine cw_region ?_
   refine ol_val (v := u227) (by exact xr_move rfl rfl) rfl rfl rfl ?_
   refine ol_val (v := sv (List.map toB t225.1)) (by exact xr_toStr rfl Try.underlying43 Try.underlying5 Try.underlying9 rfl o228.rd) rfl rfl rfl ?_
   refine ol_val (v := sv t234.1) (by exact xr_move rfl rfl) rfl rfl rfl ?_
   refine ol_val (v := .bool (decide ((List.map toB t225.1) = t234.1))) (by exact xr_eqStr rfl Try.underlying9 rfl rfl) rfl rfl rfl ?_
   refine ol_val (v := .bool (decide ((List.map toB t225.1) = t234.1))) (by exact xr_move rfl rfl) rfl rfl rfl ?_
   rcases bt (decide ((List.map toB t225.1) = t234.1)) with c238 | c238
   ·skip
    refine ol_gval (v := .int .i64 t225.2) (by exact xr_move rfl rfl) rfl rfl rfl rfl rfl c238 ?_
    refine ol_gval (v := .int .i64 t234.2) (by exact xr_move rfl rfl) rfl rfl rfl rfl rfl c238 ?_
    refine ol_gval (v := .bool (decide (t225.2 = t234.2))) (by exact xr_eqI rfl Try.underlying3 rfl rfl rfl) rfl rfl rfl rfl rfl c238 ?_
    refine ol_val (v := .bool (decide (t225.2 = t234.2))) (by exact xr_pickT rfl rfl c238 rfl) rfl rfl rfl ?_
    refine ol_val (v := .bool (decide (t225.2 = t234.2))) (by exact xr_assign rfl rfl) rfl rfl rfl ?_
    refine ol_nil ?_
    refine thn_i ?_
    exact ⟨(rfl).trans (congrArg (fun z => (.bool z : Value)) (show (decide (t225.2 = t234.2)) = (if (decide ((List.map toB t225.1) = t234.1)) = true then (decide (t225.2 = t234.2)) else false) from by rw [ite_t c238])), rfl⟩
   refine ol_gskip rfl rfl rfl rfl rfl c238 ?_
   refine ol_gskip rfl rfl rfl rfl rfl c238 ?_
   refine ol_gskip rfl rfl rfl rfl rfl c238 ?_
   refine ol_val (v := .bool false) (by exact xr_pickF rfl rfl c238 rfl) rfl rfl rfl ?_
   refine ol_val (v := .bool false) (by exact xr_assign rfl rfl) rfl rfl rfl ?_
   refine ol_nil ?_
   refine thn_i ?_
   exact ⟨(rfl).trans (congrArg (fun z => (.bool z : Value)) (show false = (if (decide ((List.map toB t225.1) = t234.1)) = true then (decide (t225.2 = t234.2)) else false) from by rw [ite_f c238])), rfl⟩
  rintro ρ239 _ ⟨e6, rfl⟩
  refine cw_ret ?_
  repeat (first | with_reducible refine thn_r ?_ | with_reducible refine blk_r ?_)
  obtain rfl := Option.some.inj h
  refine fin_ret1 Try.results59 e6 ?_
  exact ⟨_, rfl, V0_0, V0_1, V1_0, V1_1, V1_2, V1_3, V1_4, O0_0, M0_0, O0_1, M0_1, O1_0, M1_0, O1_1, M1_1, O1_2, M1_2, O1_3, M1_3, O1_4, M1_4, A_R0_1_R1_4, A_R1_0_R1_1, A_R1_0_R1_2, A_R1_1_R1_2, rfl, b_0, b_1, fB⟩
 refine cw_condF rfl c224 ?_
 refine cw_skip ?_
 refine blk_i ?_
 refine cw_seq ?_
 refine cw_region ?_
 refine ol_val (v := .pointer (some ⟨G_0, 0, none⟩)) (by exact xr_move rfl rfl) rfl rfl rfl ?_
 refine ol_val (v := .pointer (some ⟨G26, 4, none⟩)) (by exact xr_fieldAddr (p := 0) (q := 4) rfl fl85_4 rfl) rfl rfl rfl ?_
 refine ol_val (v := aggV [Seg.cell (.int .i64 a2.A.Kind), Seg.cell (.int .i64 a2.A.At), Seg.cell (.int .u64 a2.A.W), Seg.cell V2_1 R2_1.one]) (by exact xr_loadS (ss := [Seg.cell (.int .i64 a2.A.Kind), Seg.cell (.int .i64 a2.A.At), Seg.cell (.int .u64 a2.A.W), Seg.cell V2_1 R2_1.one]) rfl ag39 sz39 rfl rfl (b27.segs 4 4 rfl)) rfl rfl rfl ?_
 obtain ⟨t240, k241, h⟩ := bs h
 have f251 := (nb_or ne_P0_P1.symm (nb_or (nb_off (off_ty b_1 O0_0 (by decide))) (nb_off (off_ty b_1 O0_1 (by decide)))))
 have f252 := (nb_or n32.symm (nb_or (nb_off (off_ty b27 O0_0 (by decide))) (nb_off (off_ty b27 O0_1 (by decide)))))
 have f253 := (vo_or (vo_eq (off_ty b_0 O1_0 (by decide))) (vo_or (vo_own (OffV.ty O1_0 O0_0 (by decide))) (vo_own (OffV.ty O1_0 O0_1 (by decide)))))
 have f254 := (vo_or (vo_eq (off_ty b_0 O1_1 (by decide))) (vo_or (vo_own (OffV.ty O1_1 O0_0 (by decide))) (vo_own (OffV.ty O1_1 O0_1 (by decide)))))
 have f255 := (vo_or (vo_eq (off_ty b_0 O1_2 (by decide))) (vo_or (vo_own (OffV.ty O1_2 O0_0 (by decide))) (vo_own (OffV.ty O1_2 O0_1 (by decide)))))
 have f256 := (vo_or (vo_eq (off_ty b_0 O1_3 (by decide))) (vo_or (vo_own (OffV.ty O1_3 O0_0 (by decide))) (vo_own (OffV.ty O1_3 O0_1 (by decide)))))
 have f257 := (vo_or (vo_eq (off_ty b_0 O1_4 (by decide))) (vo_or (vo_own (OffV.ty O1_4 O0_0 (by decide))) (vo_own A_R0_1_R1_4.symm)))
 have f258 := (ro_or (ro_eq NR2_0_P0) (ro_or (ro_own NR2_0_R0_0) (ro_own NR2_0_R0_1)))
 have f259 := (ro_or (ro_eq NR2_1_P0) (ro_or (ro_own NR2_1_R0_0) (ro_own NR2_1_R0_1)))
 have c260 : ∀ k, (k = G_0 ∨ some k = Value.ownBlock V0_0 ∨ some k = Value.ownBlock V0_1) → (w.heap.size ≤ k ∨ (k = G_0 ∨ some k = Value.ownBlock V0_0 ∨ some k = Value.ownBlock V0_1 ∨ k = G_1 ∨ some k = Value.ownBlock V1_0 ∨ some k = Value.ownBlock V1_1 ∨ some k = Value.ownBlock V1_2 ∨ some k = Value.ownBlock V1_3 ∨ some k = Value.ownBlock V1_4)) := (cv_or (cv_eq (.inr (.inl rfl))) (cv_or (cv_own M0_0) (cv_own M0_1)))
 refine ol_op (by exact opv_call rfl cal31 (ac rfl (ac rfl an)) (rickyardlaw05_Do.ok fu _ a0 G_0 V0_0 (Own.base O0_0 (Nat.zero_le _)) V0_1 (Own.base O0_1 (Nat.zero_le _)) b_0 a2.A V2_1 (R2_1) NR2_1_P0 NR2_1_R0_0 NR2_1_R0_1 _ k241)) rfl rfl rfl ?_
 rintro _ w261 ⟨u243, u247, o244, m245, o248, m249, rfl, b_0, q242⟩
 have a262 := orv_new R2_0 rfl f258 m245
 have a263 := orv_new R2_1 rfl f259 m245
 have a264 := ov_new O1_4 f257 m249
 have a265 := orv_new R2_0 rfl f258 m249
 have a266 := orv_new R2_1 rfl f259 m249
 have m245 : ∀ g, Value.ownBlock u243 = some g → w.heap.size ≤ g ∨ (g = G_0 ∨ some g = Value.ownBlock V0_0 ∨ some g = Value.ownBlock V0_1 ∨ g = G_1 ∨ some g = Value.ownBlock V1_0 ∨ some g = Value.ownBlock V1_1 ∨ some g = Value.ownBlock V1_2 ∨ some g = Value.ownBlock V1_3 ∨ some g = Value.ownBlock V1_4) := fun g hg => (m245 g hg).elim (fun x => .inl (Nat.le_trans fB.size x)) (c260 g)
 have m249 : ∀ g, Value.ownBlock u247 = some g → w.heap.size ≤ g ∨ (g = G_0 ∨ some g = Value.ownBlock V0_0 ∨ some g = Value.ownBlock V0_1 ∨ g = G_1 ∨ some g = Value.ownBlock V1_0 ∨ some g = Value.ownBlock V1_1 ∨ some g = Value.ownBlock V1_2 ∨ some g = Value.ownBlock V1_3 ∨ some g = Value.ownBlock V1_4) := fun g hg => (m249 g hg).elim (fun x => .inl (Nat.le_trans fB.size x)) (c260 g)
 have b_1 := b_1.fr q242 f251
 have b27 := b27.fr q242 f252
 have O1_0 := O1_0.fr q242 f253
 have O1_1 := O1_1.fr q242 f254
 have O1_2 := O1_2.fr q242 f255
 have O1_3 := O1_3.fr q242 f256
 have O1_4 := O1_4.fr q242 f257
 have R2_0 := R2_0.fr q242 f258
 have R2_1 := R2_1.fr q242 f259
 have fB := fB.call q242 c260
 refine ol_nil ?_
 refine cw_seq ?_
 refine cw_region ?_
 refine ol_val (v := .pointer (some ⟨G_1, 0, none⟩)) (by exact xr_move rfl rfl) rfl rfl rfl ?_
 refine ol_val (v := .pointer (some ⟨G26, 4, none⟩)) (by exact xr_fieldAddr (p := 0) (q := 4) rfl fl85_4 rfl) rfl rfl rfl ?_
 refine ol_val (v := aggV [Seg.cell (.int .i64 a2.A.Kind), Seg.cell (.int .i64 a2.A.At), Seg.cell (.int .u64 a2.A.W), Seg.cell V2_1 R2_1.one]) (by exact xr_loadS (ss := [Seg.cell (.int .i64 a2.A.Kind), Seg.cell (.int .i64 a2.A.At), Seg.cell (.int .u64 a2.A.W), Seg.cell V2_1 R2_1.one]) rfl ag39 sz39 rfl rfl (b27.segs 4 4 rfl)) rfl rfl rfl ?_
 obtain ⟨t267, k268, h⟩ := bs h
 have f293 := (nb_or ne_P0_P1 (nb_or (nb_off (off_ty b_0 O1_0 (by decide))) (nb_or (nb_off (off_ty b_0 O1_1 (by decide))) (nb_or (nb_off (off_ty b_0 O1_2 (by decide))) (nb_or (nb_off (off_ty b_0 O1_3 (by decide))) (nb_off (off_ty b_0 O1_4 (by decide))))))))
 have f294 := (vo_or (vo_eq (off_ty b_1 o244 (by decide))) (vo_or (vo_own (OffV.ty o244 O1_0 (by decide))) (vo_or (vo_own (OffV.ty o244 O1_1 (by decide))) (vo_or (vo_own (OffV.ty o244 O1_2 (by decide))) (vo_or (vo_own (OffV.ty o244 O1_3 (by decide))) (vo_own (OffV.ty o244 O1_4 (by decide))))))))
 have f295 := (vo_or (vo_eq (off_ty b_1 o248 (by decide))) (vo_or (vo_own (OffV.ty o248 O1_0 (by decide))) (vo_or (vo_own (OffV.ty o248 O1_1 (by decide))) (vo_or (vo_own (OffV.ty o248 O1_2 (by decide))) (vo_or (vo_own (OffV.ty o248 O1_3 (by decide))) (vo_own a264.symm))))))
 have f296 := (ro_or (ro_eq NR2_1_P1) (ro_or (ro_own NR2_1_R1_0) (ro_or (ro_own NR2_1_R1_1) (ro_or (ro_own NR2_1_R1_2) (ro_or (ro_own NR2_1_R1_3) (ro_own NR2_1_R1_4))))))
 have c297 : ∀ k, (k = G_1 ∨ some k = Value.ownBlock V1_0 ∨ some k = Value.ownBlock V1_1 ∨ some k = Value.ownBlock V1_2 ∨ some k = Value.ownBlock V1_3 ∨ some k = Value.ownBlock V1_4) → (w.heap.size ≤ k ∨ (k = G_0 ∨ some k = Value.ownBlock V0_0 ∨ some k = Value.ownBlock V0_1 ∨ k = G_1 ∨ some k = Value.ownBlock V1_0 ∨ some k = Value.ownBlock V1_1 ∨ some k = Value.ownBlock V1_2 ∨ some k = Value.ownBlock V1_3 ∨ some k = Value.ownBlock V1_4)) := (cv_or (cv_eq (.inr (.inr (.inr (.inr (.inl rfl)))))) (cv_or (cv_own M1_0) (cv_or (cv_own M1_1) (cv_or (cv_own M1_2) (cv_or (cv_own M1_3) (cv_own M1_4))))))
 refine ol_op (by exact opv_call rfl cal45 (ac rfl (ac rfl an)) (rickyardlaw05_Refs.ok fu _ a1 G_1 V1_0 (Own.base O1_0 (Nat.zero_le _)) V1_1 (Own.base O1_1 (Nat.zero_le _)) V1_2 (Own.base O1_2 (Nat.zero_le _)) V1_3 (Own.base O1_3 (Nat.zero_le _)) V1_4 (Own.base O1_4 (Nat.zero_le _)) b_1 a2.A V2_1 (R2_1) A_R1_0_R1_1 A_R1_0_R1_2 A_R1_1_R1_2 NR2_1_P1 NR2_1_R1_0 NR2_1_R1_1 NR2_1_R1_2 NR2_1_R1_3 NR2_1_R1_4 _ k268)) rfl rfl rfl ?_
 rintro _ w298 ⟨u270, u274, u278, u282, u286, o271, m272, o275, m276, o279, m280, o283, m284, o287, m288, a290, a291, a292, rfl, b_1, q269⟩
 have a299 := ov_new o248 f295 m288
 have m272 : ∀ g, Value.ownBlock u270 = some g → w.heap.size ≤ g ∨ (g = G_0 ∨ some g = Value.ownBlock V0_0 ∨ some g = Value.ownBlock V0_1 ∨ g = G_1 ∨ some g = Value.ownBlock V1_0 ∨ some g = Value.ownBlock V1_1 ∨ some g = Value.ownBlock V1_2 ∨ some g = Value.ownBlock V1_3 ∨ some g = Value.ownBlock V1_4) := fun g hg => (m272 g hg).elim (fun x => .inl (Nat.le_trans fB.size x)) (c297 g)
 have m276 : ∀ g, Value.ownBlock u274 = some g → w.heap.size ≤ g ∨ (g = G_0 ∨ some g = Value.ownBlock V0_0 ∨ some g = Value.ownBlock V0_1 ∨ g = G_1 ∨ some g = Value.ownBlock V1_0 ∨ some g = Value.ownBlock V1_1 ∨ some g = Value.ownBlock V1_2 ∨ some g = Value.ownBlock V1_3 ∨ some g = Value.ownBlock V1_4) := fun g hg => (m276 g hg).elim (fun x => .inl (Nat.le_trans fB.size x)) (c297 g)
 have m280 : ∀ g, Value.ownBlock u278 = some g → w.heap.size ≤ g ∨ (g = G_0 ∨ some g = Value.ownBlock V0_0 ∨ some g = Value.ownBlock V0_1 ∨ g = G_1 ∨ some g = Value.ownBlock V1_0 ∨ some g = Value.ownBlock V1_1 ∨ some g = Value.ownBlock V1_2 ∨ some g = Value.ownBlock V1_3 ∨ some g = Value.ownBlock V1_4) := fun g hg => (m280 g hg).elim (fun x => .inl (Nat.le_trans fB.size x)) (c297 g)
 have m284 : ∀ g, Value.ownBlock u282 = some g → w.heap.size ≤ g ∨ (g = G_0 ∨ some g = Value.ownBlock V0_0 ∨ some g = Value.ownBlock V0_1 ∨ g = G_1 ∨ some g = Value.ownBlock V1_0 ∨ some g = Value.ownBlock V1_1 ∨ some g = Value.ownBlock V1_2 ∨ some g = Value.ownBlock V1_3 ∨ some g = Value.ownBlock V1_4) := fun g hg => (m284 g hg).elim (fun x => .inl (Nat.le_trans fB.size x)) (c297 g)
 have m288 : ∀ g, Value.ownBlock u286 = some g → w.heap.size ≤ g ∨ (g = G_0 ∨ some g = Value.ownBlock V0_0 ∨ some g = Value.ownBlock V0_1 ∨ g = G_1 ∨ some g = Value.ownBlock V1_0 ∨ some g = Value.ownBlock V1_1 ∨ some g = Value.ownBlock V1_2 ∨ some g = Value.ownBlock V1_3 ∨ some g = Value.ownBlock V1_4) := fun g hg => (m288 g hg).elim (fun x => .inl (Nat.le_trans fB.size x)) (c297 g)
 have b_0 := b_0.fr q269 f293
 have o244 := o244.fr q269 f294
 have o248 := o248.fr q269 f295
 have fB := fB.call q269 c297
 refine ol_nil ?_
 refine cw_seq ?_
 refine cw_region ?_
 refine ol_val (v := .bool true) (by exact xr_assign rfl rfl) rfl rfl rfl ?_
 refine ol_nil ?_
 refine cw_ret ?_
 repeat (first | with_reducible refine thn_r ?_ | with_reducible refine blk_r ?_)
 obtain rfl := Option.some.inj h
 refine fin_ret1 Try.results59 rfl ?_
 exact ⟨_, rfl, u243, u247, u270, u274, u278, u282, u286, o244, m245, o248, m249, o271, m272, o275, m276, o279, m280, o283, m284, o287, m288, a299, a290, a291, a292, rfl, b_0, b_1, fB⟩
end Go.Proofs.Ytklhbaghbmndeaa

/- rickyard/rickyardlaw15.PressSure: its model, and that the Go function computes it: written by gen.py. -/
set_option linter.unusedVariables false
namespace Go.Proofs.Ytklhbaghbmndeaa
open Go Go.Xw
def rickyardlaw15_PressSure.s0 (fu : Nat) (a1 : Int) (a2 : List S_rickyardlaw15_Act) : (Int × (List S_pmem_cell) × (List Int) × Int × Bool × Bool × Int × Int × (List Int) × (List Int) × (List Int) × (List Bool) × (List Int) × Int × Int × Int) → Option (Sum ((List S_pmem_cell) × (List Int) × Int × Bool × Bool × Int × Int × (List Int) × (List Int) × (List Int) × (List Bool) × (List Int) × Int × Int × Int) (Int × (List S_pmem_cell) × (List Int) × Int × Bool × Bool × Int × Int × (List Int) × (List Int) × (List Int) × (List Bool) × (List Int) × Int × Int × Int)) := fun s112 => (if (decide (s112.1 < (List.length a2 : Int))) = true then (if 0 ≤ s112.1 ∧ s112.1 < (List.length a2 : Int) then (((if (if (!decide (((ix a2 s112.1).Kind) = 0)) = true then (if (!decide (((ix a2 s112.1).Kind) = 1)) = true then (if (!decide (((ix a2 s112.1).Kind) = 2)) = true then (!decide (((ix a2 s112.1).Kind) = 3)) else false) else false) else false) = true then ((rickyardref01_Rest.f fu (((ix a2 s112.1).A).Kind) 7 : Option Int).bind fun t194 => (if (if (decide (t194 = 0)) = true then (if (decide ((((ix a2 s112.1).A).At) ≥ (IntKind.i64.wrap (8 * (Int.tmod (IntKind.i64.wrap a1) 5))))) = true then (decide ((((ix a2 s112.1).A).At) < (IntKind.i64.wrap ((IntKind.i64.wrap (8 * (Int.tmod (IntKind.i64.wrap a1) 5))) + 8)))) else false) else false) = true then some (Sum.inl (Sum.inr ((IntKind.i64.wrap (s112.1 + 1)), s112.2.1, s112.2.2.1, s112.2.2.2.1, s112.2.2.2.2.1, s112.2.2.2.2.2.1, s112.2.2.2.2.2.2.1, s112.2.2.2.2.2.2.2.1, s112.2.2.2.2.2.2.2.2.1, s112.2.2.2.2.2.2.2.2.2.1, s112.2.2.2.2.2.2.2.2.2.2.1, s112.2.2.2.2.2.2.2.2.2.2.2.1, s112.2.2.2.2.2.2.2.2.2.2.2.2.1, s112.2.2.2.2.2.2.2.2.2.2.2.2.2.1, s112.2.2.2.2.2.2.2.2.2.2.2.2.2.2.1, s112.2.2.2.2.2.2.2.2.2.2.2.2.2.2.2))) else some (Sum.inr ()))) else (if (decide (((ix a2 s112.1).At) = (Int.tmod (IntKind.i64.wrap a1) 5))) = true then some (Sum.inl (Sum.inr ((IntKind.i64.wrap (s112.1 + 1)), s112.2.1, s112.2.2.1, s112.2.2.2.1, s112.2.2.2.2.1, s112.2.2.2.2.2.1, s112.2.2.2.2.2.2.1, s112.2.2.2.2.2.2.2.1, s112.2.2.2.2.2.2.2.2.1, s112.2.2.2.2.2.2.2.2.2.1, s112.2.2.2.2.2.2.2.2.2.2.1, s112.2.2.2.2.2.2.2.2.2.2.2.1, s112.2.2.2.2.2.2.2.2.2.2.2.2.1, s112.2.2.2.2.2.2.2.2.2.2.2.2.2.1, s112.2.2.2.2.2.2.2.2.2.2.2.2.2.2.1, s112.2.2.2.2.2.2.2.2.2.2.2.2.2.2.2))) else some (Sum.inr ()))) : Option (Sum (Sum ((List S_pmem_cell) × (List Int) × Int × Bool × Bool × Int × Int × (List Int) × (List Int) × (List Int) × (List Bool) × (List Int) × Int × Int × Int) (Int × (List S_pmem_cell) × (List Int) × Int × Bool × Bool × Int × Int × (List Int) × (List Int) × (List Int) × (List Bool) × (List Int) × Int × Int × Int)) Unit)).bind fun x189 => match x189 with | Sum.inl p => some p | Sum.inr x192 => ((rickyardlaw15_do.f fu (⟨s112.2.1, (⟨s112.2.2.1, s112.2.2.2.1⟩ : S_pmem_plan), s112.2.2.2.2.1, s112.2.2.2.2.2.1, s112.2.2.2.2.2.2.1, s112.2.2.2.2.2.2.2.1⟩ : S_pmem_Device) (⟨s112.2.2.2.2.2.2.2.2.1, s112.2.2.2.2.2.2.2.2.2.1, s112.2.2.2.2.2.2.2.2.2.2.1, s112.2.2.2.2.2.2.2.2.2.2.2.1, s112.2.2.2.2.2.2.2.2.2.2.2.2.1, s112.2.2.2.2.2.2.2.2.2.2.2.2.2.1, s112.2.2.2.2.2.2.2.2.2.2.2.2.2.2.1, s112.2.2.2.2.2.2.2.2.2.2.2.2.2.2.2⟩ : S_rickyardref05_Device) (⟨(ix a2 s112.1).Kind, (ix a2 s112.1).At, (ix a2 s112.1).I, (ix a2 s112.1).B, ((ix a2 s112.1).A)⟩ : S_rickyardlaw15_Act) : Option (Bool × S_pmem_Device × S_rickyardref05_Device)).bind fun t205 => some (Sum.inr ((IntKind.i64.wrap (s112.1 + 1)), t205.2.1.cells, t205.2.1.plan.list, t205.2.1.plan.at_, t205.2.1.off, t205.2.1.armed, t205.2.1.left, t205.2.1.steps, t205.2.2.Lasts, t205.2.2.Stored, t205.2.2.Sent, t205.2.2.Flushed, t205.2.2.Plan, t205.2.2.Since, t205.2.2.Left, t205.2.2.Steps)))) else none) else some (Sum.inl (s112.2.1, s112.2.2.1, s112.2.2.2.1, s112.2.2.2.2.1, s112.2.2.2.2.2.1, s112.2.2.2.2.2.2.1, s112.2.2.2.2.2.2.2.1, s112.2.2.2.2.2.2.2.2.1, s112.2.2.2.2.2.2.2.2.2.1, s112.2.2.2.2.2.2.2.2.2.2.1, s112.2.2.2.2.2.2.2.2.2.2.2.1, s112.2.2.2.2.2.2.2.2.2.2.2.2.1, s112.2.2.2.2.2.2.2.2.2.2.2.2.2.1, s112.2.2.2.2.2.2.2.2.2.2.2.2.2.2.1, s112.2.2.2.2.2.2.2.2.2.2.2.2.2.2.2)))
def rickyardlaw15_PressSure.f (fu : Nat) (a0 : Arr 64 Int) (a1 : Int) (a2 : List S_rickyardlaw15_Act) : Option Bool := ((((rickyardlaw15_awake.f fu : Option Bool).bind fun t9 => (if (!t9) = true then some (true) else ((rickyardlaw15_small.f fu a2 30 : Option Bool).bind fun t14 => some ((!t14))))) : Option Bool).bind fun x7 => (if x7 = true then ((rickyardlaw15_awake.f fu : Option Bool).bind fun t22 => some (t22)) else ((pmem_New.f fu 5 : Option ((Option S_pmem_Device) × Int)).bind fun t26 => (Option.elim t26.1 (some (false)) (fun m33 => ((press_Write.f fu m33 (Int.tmod (IntKind.i64.wrap a1) 5) (Arr.l a0) : Option (Int × S_pmem_Device)).bind fun t46 => (if (!decide (t46.1 = 0)) = true then some (false) else ((press_Sure.f fu t46.2 : Option (Int × S_pmem_Device)).bind fun t61 => (if (!decide (t61.1 = 0)) = true then some (false) else ((pmem_Device_Steps.f fu t61.2 : Option Int).bind fun t76 => (if (!decide (t76 = 10)) = true then some (false) else ((rickyardref05_New.f fu 5 : Option S_rickyardref05_Device).bind fun t81 => ((loopM (rickyardlaw15_PressSure.s0 fu a1 a2) fu (0, t61.2.cells, t61.2.plan.list, t61.2.plan.at_, t61.2.off, t61.2.armed, t61.2.left, t61.2.steps, t81.Lasts, t81.Stored, t81.Sent, t81.Flushed, t81.Plan, t81.Since, t81.Left, t81.Steps)).bind fun e113 => ((pmem_Device_Crash.f fu (⟨e113.1, (⟨e113.2.1, e113.2.2.1⟩ : S_pmem_plan), e113.2.2.2.1, e113.2.2.2.2.1, e113.2.2.2.2.2.1, e113.2.2.2.2.2.2.1⟩ : S_pmem_Device) [] : Option S_pmem_Device).bind fun t245 => ((press_Read.f fu t245 (Int.tmod (IntKind.i64.wrap a1) 5) : Option ((List Int) × Int)).bind fun t259 => ((press_Lasts.f fu t245 (Int.tmod (IntKind.i64.wrap a1) 5) : Option ((List Int) × Bool)).bind fun t266 => some ((if (decide (t259.2 = 0)) = true then (if (decide ((List.map toB t259.1) = (List.map toB (Arr.l a0)))) = true then (if t266.2 = true then (decide ((List.map toB t266.1) = (List.map toB (Arr.l a0)))) else false) else false) else false))))))))))))))))))
set_option maxRecDepth 100000 in
set_option maxHeartbeats 400000 in
theorem rickyardlaw15_PressSure.ok (fu : Nat) (w : World) (a0 : Arr 64 Int) (a1 : Int) (a2 : List S_rickyardlaw15_Act) (V2_0 : Value) (R2_0 : RdN 8 D_rickyardlaw15_Act w V2_0 a2) (r : Bool) (h : rickyardlaw15_PressSure.f fu a0 a1 a2 = some r) :
  Calls Try.prog 12 (([aggV [Kd.seg (kA 64 (kI .u8)) a0], .int .u8 a1, V2_0] : List Value).toArray) w (fun e w' => ∃ v, e = .returned v ∧ v = .bool r ∧ Gr w w') := by
 unfold rickyardlaw15_PressSure.f at h
 have fB : Gr w w := Fr.refl _ _
 refine calls_cw Try.func12 rfl Try.ntmps12 rfl ?_
 refine cw_seq ?_
 refine cw_region ?_
 refine ol_op (by exact opv_box (ss := [Kd.seg (kA 64 (kI .u8)) a0]) rfl rfl rfl) rfl rfl rfl ?_
 rintro _ w6 ⟨G1, rfl, b2, q3, z4⟩
 have z4 := Nat.le_trans fB.size z4
 have fB := fB.gr q3
 refine ol_val (v := .bool false) (by exact xr_assign rfl rfl) rfl rfl rfl ?_
 refine ol_nil ?_
 refine cw_seq ?_
 refine cw_seq ?_
 obtain ⟨x7, j8, h⟩ := bs h
 refine cw_mid (fun ρ' w' => ρ' 1 = .int .u8 a1 ∧ ρ' 2 = V2_0 ∧ ρ' 3 = .pointer (some ⟨G1, 0, none⟩) ∧ ρ' 24 = .bool x7 ∧ Gr w6 w') ?_ ?_
 ·skip
  refine cw_region ?_
  obtain ⟨t9, k10, j8⟩ := bs j8
  refine ol_op (by exact opv_call rfl cal52 an (rickyardlaw15_awake.ok fu _ _ k10)) rfl rfl rfl ?_
  rintro _ w12 ⟨rfl, q11⟩
  have b2 := b2.gr q11
  have fB := fB.gr q11
  refine ol_val (v := .bool (!t9)) (by exact xr_not rfl rfl) rfl rfl rfl ?_
  refine ol_val (v := .bool (!t9)) (by exact xr_move rfl rfl) rfl rfl rfl ?_
  rcases is j8 with ⟨c13, j8⟩ | ⟨c13, j8⟩
  ·skip
   refine ol_gskip rfl rfl rfl rfl rfl c13 ?_
   refine ol_gskip rfl rfl rfl rfl rfl c13 ?_
   refine ol_gskip rfl rfl rfl rfl rfl c13 ?_
   refine ol_val (v := .bool true) (by exact xr_pickT rfl rfl c13 rfl) rfl rfl rfl ?_
   refine ol_nil ?_
   obtain rfl := Option.some.inj j8
   refine thn_i ?_
   exact ⟨rfl, rfl, rfl, rfl, q11⟩
  refine ol_gval (v := V2_0) (by exact xr_move rfl rfl) rfl rfl rfl rfl rfl c13 ?_
  obtain ⟨t14, k15, j8⟩ := bs j8
  refine ol_gop (by exact opv_call rfl cal58 (ac rfl (ac rfl an)) (rickyardlaw15_small.ok fu _ a2 V2_0 (RdN.gr R2_0 D_rickyardlaw15_Act.gr fB) 30 _ k15)) rfl rfl rfl rfl rfl c13 ?_
  rintro _ w17 ⟨rfl, q16⟩
  have b2 := b2.gr q16
  have fB := fB.gr q16
  refine ol_gval (v := .bool (!t14)) (by exact xr_not rfl rfl) rfl rfl rfl rfl rfl c13 ?_
  refine ol_val (v := .bool (!t14)) (by exact xr_pickF rfl rfl c13 rfl) rfl rfl rfl ?_
  refine ol_nil ?_
  obtain rfl := Option.some.inj j8
  refine thn_i ?_
  exact ⟨rfl, rfl, rfl, rfl, (q11.gr q16)⟩
 rintro ρ18 w19 ⟨e1, e2, e3, e24, q20⟩
 have b2 := b2.gr q20
 have fB := fB.gr q20
 rcases is h with ⟨c21, h⟩ | ⟨c21, h⟩
 ·refine cw_condT e24 c21 ?_
  refine cw_seq ?_
  refine cw_region ?_
  obtain ⟨t22, k23, h⟩ := bs h
  refine ol_op (by exact opv_call rfl cal52 an (rickyardlaw15_awake.ok fu _ _ k23)) rfl rfl rfl ?_
  rintro _ w25 ⟨rfl, q24⟩
  have fB := fB.gr q24
  refine ol_val (v := .bool t22) (by exact xr_assign rfl rfl) rfl rfl rfl ?_
  refine ol_nil ?_
  refine cw_ret ?_
  repeat (first | with_reducible refine thn_r ?_ | with_reducible refine blk_r ?_)
  obtain rfl := Option.some.inj h
  refine fin_ret1 Try.results12 rfl ?_
  exact ⟨_, rfl, rfl, fB⟩
 refine cw_condF e24 c21 ?_
 refine cw_skip ?_
 refine cw_seq ?_
 refine cw_region ?_
 refine ol_val (v := .int .u8 a1) (by exact xr_move rfl e1) rfl rfl rfl ?_
 refine ol_val (v := .int .i64 (IntKind.i64.wrap a1)) (by exact xr_conv rfl Try.underlying5 Try.underlying3 rfl) rfl rfl rfl ?_
 refine ol_val (v := .int .i64 (Int.tmod (IntKind.i64.wrap a1) 5)) (by exact xr_rem rfl rfl rfl (by decide)) rfl rfl rfl ?_
 refine ol_val (v := .int .i64 (Int.tmod (IntKind.i64.wrap a1) 5)) (by exact xr_assign rfl rfl) rfl rfl rfl ?_
 refine ol_nil ?_
 refine cw_seq ?_
 refine cw_region ?_
 obtain ⟨t26, k27, h⟩ := bs h
 refine ol_op (by exact opv_call rfl cal26 (ac rfl an) (pmem_New.ok fu _ 5 _ k27)) rfl rfl rfl ?_
 rintro _ w31 ⟨u28, p29, rfl, q30⟩
 rcases en h with ⟨e32, h⟩ | ⟨m33, e32, h⟩
 ·obtain rfl := p29.1 e32
  have b2 := b2.gr q30
  have fB := fB.gr q30
  refine ol_val (v := .tuple #[.pointer none, .int .i64 t26.2]) (by exact xr_move rfl rfl) rfl rfl rfl ?_
  refine ol_val (v := .pointer none) (by exact xr_extract rfl rfl rfl) rfl rfl rfl ?_
  refine ol_val (v := .int .i64 t26.2) (by exact xr_extract rfl rfl rfl) rfl rfl rfl ?_
  refine ol_val (v := .pointer none) (by exact xr_assign rfl rfl) rfl rfl rfl ?_
  refine ol_val (v := .int .i64 t26.2) (by exact xr_assign rfl rfl) rfl rfl rfl ?_
  refine ol_nil ?_
  refine cw_seq ?_
  refine cw_seq ?_
  refine cw_mid (fun ρ' w' => ρ' 2 = V2_0 ∧ ρ' 3 = .pointer (some ⟨G1, 0, none⟩) ∧ ρ' 7 = .int .i64 (Int.tmod (IntKind.i64.wrap a1) 5) ∧ ρ' 8 = .pointer none ∧ ρ' 51 = .bool true ∧ w31 = w') ?_ ?_
  ·skip
   refine cw_region ?_
   refine ol_val (v := .pointer none) (by exact xr_move rfl rfl) rfl rfl rfl ?_
   refine ol_val (v := .bool true) (by exact xr_eqP (b := true) rfl Try.underlying30 rfl rfl (by simp) (by simp)) rfl rfl rfl ?_
   refine ol_val (v := .bool true) (by exact xr_move rfl rfl) rfl rfl rfl ?_
   refine ol_gskip rfl rfl rfl rfl rfl rfl ?_
   refine ol_gskip rfl rfl rfl rfl rfl rfl ?_
   refine ol_gskip rfl rfl rfl rfl rfl rfl ?_
   refine ol_gskip rfl rfl rfl rfl rfl rfl ?_
   refine ol_gskip rfl rfl rfl rfl rfl rfl ?_
   refine ol_val (v := .bool true) (by exact xr_pickT rfl rfl rfl rfl) rfl rfl rfl ?_
   refine ol_val (v := .bool true) (by exact xr_move rfl rfl) rfl rfl rfl ?_
   refine ol_gskip rfl rfl rfl rfl rfl rfl ?_
   refine ol_gskip rfl rfl rfl rfl rfl rfl ?_
   refine ol_gskip rfl rfl rfl rfl rfl rfl ?_
   refine ol_val (v := .bool true) (by exact xr_pickT rfl rfl rfl rfl) rfl rfl rfl ?_
   refine ol_val (v := .bool true) (by exact xr_move rfl rfl) rfl rfl rfl ?_
   refine ol_gskip rfl rfl rfl rfl rfl rfl ?_
   refine ol_gskip rfl rfl rfl rfl rfl rfl ?_
   refine ol_gskip rfl rfl rfl rfl rfl rfl ?_
   refine ol_val (v := .bool true) (by exact xr_pickT rfl rfl rfl rfl) rfl rfl rfl ?_
   refine ol_nil ?_
   refine thn_i ?_
   exact ⟨e2, e3, rfl, rfl, rfl, rfl⟩
  rintro ρ34 _ ⟨e2, e3, e7, e8, e51, rfl⟩
  refine cw_condT e51 rfl ?_
  refine cw_seq ?_
  refine cw_region ?_
  refine ol_val (v := .bool false) (by exact xr_assign rfl rfl) rfl rfl rfl ?_
  refine ol_nil ?_
  refine cw_ret ?_
  repeat (first | with_reducible refine thn_r ?_ | with_reducible refine blk_r ?_)
  obtain rfl := Option.some.inj h
  refine fin_ret1 Try.results12 rfl ?_
  exact ⟨_, rfl, rfl, fB⟩
 obtain ⟨G35, u39, u42, o40, o43, rfl, z36, b37⟩ := p29.2 _ e32
 have o40 := Own.base o40 fB.size
 have o43 := Own.base o43 fB.size
 have n45 := b2.ne z36
 have z36 := Nat.le_trans fB.size z36
 have b2 := b2.gr q30
 have fB := fB.gr q30
 refine ol_val (v := .tuple #[.pointer (some ⟨G35, 0, none⟩), .int .i64 t26.2]) (by exact xr_move rfl rfl) rfl rfl rfl ?_
 refine ol_val (v := .pointer (some ⟨G35, 0, none⟩)) (by exact xr_extract rfl rfl rfl) rfl rfl rfl ?_
 refine ol_val (v := .int .i64 t26.2) (by exact xr_extract rfl rfl rfl) rfl rfl rfl ?_
 refine ol_val (v := .pointer (some ⟨G35, 0, none⟩)) (by exact xr_assign rfl rfl) rfl rfl rfl ?_
 refine ol_val (v := .int .i64 t26.2) (by exact xr_assign rfl rfl) rfl rfl rfl ?_
 refine ol_nil ?_
 refine cw_seq ?_
 refine cw_seq ?_
 refine cw_region ?_
 refine ol_val (v := .pointer (some ⟨G35, 0, none⟩)) (by exact xr_move rfl rfl) rfl rfl rfl ?_
 refine ol_val (v := .bool false) (by exact xr_eqP (b := false) rfl Try.underlying30 rfl rfl (by simp) (by simp)) rfl rfl rfl ?_
 refine ol_val (v := .bool false) (by exact xr_move rfl rfl) rfl rfl rfl ?_
 refine ol_gval (v := .pointer (some ⟨G35, 0, none⟩)) (by exact xr_move rfl rfl) rfl rfl rfl rfl rfl rfl ?_
 refine ol_gval (v := .int .i64 (Int.tmod (IntKind.i64.wrap a1) 5)) (by exact xr_move rfl rfl) rfl rfl rfl rfl rfl rfl ?_
 refine ol_gval (v := .slice (some ⟨G1, 0, none⟩) 64 64) (by exact xr_sliceArr rfl Try.underlying71 sz5 e3) rfl rfl rfl rfl rfl rfl ?_
 obtain ⟨t46, k47, h⟩ := bs h
 have f57 := (nb_or n45 (nb_or (nb_off (off_ty b2 o40 (by decide))) (nb_off (off_ty b2 o43 (by decide)))))
 have c58 : ∀ k, (k = G35 ∨ some k = Value.ownBlock u39 ∨ some k = Value.ownBlock u42) → w.heap.size ≤ k := (cv_or (cv_eq z36) (cv_or (cv_own o40.geO) (cv_own o43.geO)))
 refine ol_gop (by exact opv_call rfl cal53 (ac rfl (ac rfl (ac rfl an))) (press_Write.ok fu _ m33 G35 u39 (Own.base o40 (Nat.zero_le _)) u42 (Own.base o43 (Nat.zero_le _)) b37 (Int.tmod (IntKind.i64.wrap a1) 5) (Arr.l a0) (.slice (some ⟨G1, 0, none⟩) 64 64) (Rd.arr (b2.seg 0 rfl rfl)) (fun _ => n45) (fun _ => off_ty b2 o40 (by decide)) (fun _ => off_ty b2 o43 (by decide)) _ k47)) rfl rfl rfl rfl rfl rfl ?_
 rintro _ w59 ⟨u49, u53, o50, m51, o54, m55, rfl, b37, q48⟩
 have o50 := Own.rebase o50 (fun g hg => (m51 g hg).elim (fun x => Nat.le_trans fB.size x) (c58 g))
 have o54 := Own.rebase o54 (fun g hg => (m55 g hg).elim (fun x => Nat.le_trans fB.size x) (c58 g))
 have b2 := b2.fr q48 f57
 have fB := fB.call q48 (fun k h => .inl (c58 k h))
 refine ol_gval (v := .bool (!decide (t46.1 = 0))) (by exact xr_neI rfl Try.underlying31 rfl rfl rfl) rfl rfl rfl rfl rfl rfl ?_
 refine ol_val (v := .bool (!decide (t46.1 = 0))) (by exact xr_pickF rfl rfl rfl rfl) rfl rfl rfl ?_
 refine ol_val (v := .bool (!decide (t46.1 = 0))) (by exact xr_move rfl rfl) rfl rfl rfl ?_
 rcases is h with ⟨c60, h⟩ | ⟨c60, h⟩
 ·skip
  refine ol_gskip rfl rfl rfl rfl rfl c60 ?_
  refine ol_gskip rfl rfl rfl rfl rfl c60 ?_
  refine ol_gskip rfl rfl rfl rfl rfl c60 ?_
  refine ol_val (v := .bool true) (by exact xr_pickT rfl rfl c60 rfl) rfl rfl rfl ?_
  refine ol_val (v := .bool true) (by exact xr_move rfl rfl) rfl rfl rfl ?_
  refine ol_gskip rfl rfl rfl rfl rfl rfl ?_
  refine ol_gskip rfl rfl rfl rfl rfl rfl ?_
  refine ol_gskip rfl rfl rfl rfl rfl rfl ?_
  refine ol_val (v := .bool true) (by exact xr_pickT rfl rfl rfl rfl) rfl rfl rfl ?_
  refine ol_nil ?_
  refine cw_condT rfl rfl ?_
  refine cw_seq ?_
  refine cw_region ?_
  refine ol_val (v := .bool false) (by exact xr_assign rfl rfl) rfl rfl rfl ?_
  refine ol_nil ?_
  refine cw_ret ?_
  repeat (first | with_reducible refine thn_r ?_ | with_reducible refine blk_r ?_)
  obtain rfl := Option.some.inj h
  refine fin_ret1 Try.results12 rfl ?_
  exact ⟨_, rfl, rfl, fB⟩
 refine ol_gval (v := .pointer (some ⟨G35, 0, none⟩)) (by exact xr_move rfl rfl) rfl rfl rfl rfl rfl c60 ?_
 obtain ⟨t61, k62, h⟩ := bs h
 have f72 := (nb_or n45 (nb_or (nb_off (off_ty b2 o50 (by decide))) (nb_off (off_ty b2 o54 (by decide)))))
 have c73 : ∀ k, (k = G35 ∨ some k = Value.ownBlock u49 ∨ some k = Value.ownBlock u53) → w.heap.size ≤ k := (cv_or (cv_eq z36) (cv_or (cv_own o50.geO) (cv_own o54.geO)))
 refine ol_gop (by exact opv_call rfl cal54 (ac rfl an) (press_Sure.ok fu _ t46.2 G35 u49 (Own.base o50 (Nat.zero_le _)) u53 (Own.base o54 (Nat.zero_le _)) b37 _ k62)) rfl rfl rfl rfl rfl c60 ?_
 rintro _ w74 ⟨u64, u68, o65, m66, o69, m70, rfl, b37, q63⟩
 have o65 := Own.rebase o65 (fun g hg => (m66 g hg).elim (fun x => Nat.le_trans fB.size x) (c73 g))
 have o69 := Own.rebase o69 (fun g hg => (m70 g hg).elim (fun x => Nat.le_trans fB.size x) (c73 g))
 have b2 := b2.fr q63 f72
 have fB := fB.call q63 (fun k h => .inl (c73 k h))
 refine ol_gval (v := .bool (!decide (t61.1 = 0))) (by exact xr_neI rfl Try.underlying31 rfl rfl rfl) rfl rfl rfl rfl rfl c60 ?_
 refine ol_val (v := .bool (!decide (t61.1 = 0))) (by exact xr_pickF rfl rfl c60 rfl) rfl rfl rfl ?_
 refine ol_val (v := .bool (!decide (t61.1 = 0))) (by exact xr_move rfl rfl) rfl rfl rfl ?_
 rcases is h with ⟨c75, h⟩ | ⟨c75, h⟩
 ·skip
  refine ol_gskip rfl rfl rfl rfl rfl c75 ?_
  refine ol_gskip rfl rfl rfl rfl rfl c75 ?_
  refine ol_gskip rfl rfl rfl rfl rfl c75 ?_
  refine ol_val (v := .bool true) (by exact xr_pickT rfl rfl c75 rfl) rfl rfl rfl ?_
  refine ol_nil ?_
  refine cw_condT rfl rfl ?_
  refine cw_seq ?_
  refine cw_region ?_
  refine ol_val (v := .bool false) (by exact xr_assign rfl rfl) rfl rfl rfl ?_
  refine ol_nil ?_
  refine cw_ret ?_
  repeat (first | with_reducible refine thn_r ?_ | with_reducible refine blk_r ?_)
  obtain rfl := Option.some.inj h
  refine fin_ret1 Try.results12 rfl ?_
  exact ⟨_, rfl, rfl, fB⟩
 refine ol_gval (v := .pointer (some ⟨G35, 0, none⟩)) (by exact xr_move rfl rfl) rfl rfl rfl rfl rfl c75 ?_
 obtain ⟨t76, k77, h⟩ := bs h
 refine ol_gop (by exact opv_call rfl cal37 (ac rfl an) (pmem_Device_Steps.ok fu _ t61.2 G35 u64 (o65.rd) u68 (o69.rd) b37 _ k77)) rfl rfl rfl rfl rfl c75 ?_
 rintro _ w79 ⟨rfl, q78⟩
 have b2 := b2.gr q78
 have b37 := b37.gr q78
 have o65 := o65.gr q78
 have o69 := o69.gr q78
 have fB := fB.gr q78
 refine ol_gval (v := .bool (!decide (t76 = 10))) (by exact xr_neI rfl Try.underlying3 rfl rfl rfl) rfl rfl rfl rfl rfl c75 ?_
 refine ol_val (v := .bool (!decide (t76 = 10))) (by exact xr_pickF rfl rfl c75 rfl) rfl rfl rfl ?_
 refine ol_nil ?_
 rcases is h with ⟨c80, h⟩ | ⟨c80, h⟩
 ·refine cw_condT rfl c80 ?_
  refine cw_seq ?_
  refine cw_region ?_
  refine ol_val (v := .bool false) (by exact xr_assign rfl rfl) rfl rfl rfl ?_
  refine ol_nil ?_
  refine cw_ret ?_
  repeat (first | with_reducible refine thn_r ?_ | with_reducible refine blk_r ?_)
  obtain rfl := Option.some.inj h
  refine fin_ret1 Try.results12 rfl ?_
  exact ⟨_, rfl, rfl, fB⟩
 refine cw_condF rfl c80 ?_
 refine cw_skip ?_
 refine cw_seq ?_
 refine cw_region ?_
 obtain ⟨t81, k82, h⟩ := bs h
 refine ol_op (by exact opv_call rfl cal44 (ac rfl an) (rickyardref05_New.ok fu _ 5 _ k82)) rfl rfl rfl ?_
 rintro u83 w86 ⟨_, p84, rfl, q85⟩
 obtain ⟨G87, u91, u94, u97, u100, u103, o92, o95, o98, o101, o104, a106, a107, a108, rfl, z88, b89⟩ := p84
 have a109 := OffV.call o69 o104
 have o92 := Own.base o92 fB.size
 have o95 := Own.base o95 fB.size
 have o98 := Own.base o98 fB.size
 have o101 := Own.base o101 fB.size
 have o104 := Own.base o104 fB.size
 have n110 := b2.ne z88
 have n111 := b37.ne z88
 have z88 := Nat.le_trans fB.size z88
 have b2 := b2.gr q85
 have b37 := b37.gr q85
 have o65 := o65.gr q85
 have o69 := o69.gr q85
 have fB := fB.gr q85
 refine ol_val (v := .pointer (some ⟨G87, 0, none⟩)) (by exact xr_assign rfl rfl) rfl rfl rfl ?_
 refine ol_nil ?_
 refine cw_seq ?_
 refine cw_seq ?_
 refine cw_region ?_
 refine ol_val (v := .int .i64 0) (by exact xr_assign rfl rfl) rfl rfl rfl ?_
 refine ol_nil ?_
 obtain ⟨e113, l114, h115⟩ := bs h
 refine cw_mid (fun ρ' w' => ∃ v116 : Value, ∃ v119 : Value, ∃ v122 : Value, ∃ v125 : Value, ∃ v128 : Value, ∃ v131 : Value, ∃ v134 : Value, ∃ o117 : Own k_pmem_cell 142 w' w.heap.size v116 e113.1, ∃ o120 : Own (kI .i64) 3 w' w.heap.size v119 e113.2.1, ρ' 3 = .pointer (some ⟨G1, 0, none⟩) ∧ ρ' 7 = .int .i64 (Int.tmod (IntKind.i64.wrap a1) 5) ∧ ρ' 8 = .pointer (some ⟨G35, 0, none⟩) ∧ Blk w' G1 71 [Kd.seg (kA 64 (kI .u8)) a0] ∧ Blk w' G35 139 [Seg.cell v116 o117.one, Seg.cell v119 o120.one, Seg.cell (.int .i64 e113.2.2.1), Seg.cell (.bool e113.2.2.2.1), Seg.cell (.bool e113.2.2.2.2.1), Seg.cell (.int .i64 e113.2.2.2.2.2.1), Seg.cell (.int .i64 e113.2.2.2.2.2.2.1)] ∧ Gr w w') ?_ ?_
 ·refine cw_block ?_
  refine cw_round (fun (s112 : Int × (List S_pmem_cell) × (List Int) × Int × Bool × Bool × Int × Int × (List Int) × (List Int) × (List Int) × (List Bool) × (List Int) × Int × Int × Int) ρ' w' => ∃ v137 : Value, ∃ v140 : Value, ∃ v143 : Value, ∃ v146 : Value, ∃ v149 : Value, ∃ v152 : Value, ∃ v155 : Value, ∃ o138 : Own k_pmem_cell 142 w' w.heap.size v137 s112.2.1, ∃ o141 : Own (kI .i64) 3 w' w.heap.size v140 s112.2.2.1, ∃ o144 : Own (kI .u64) 22 w' w.heap.size v143 s112.2.2.2.2.2.2.2.2.1, ∃ o147 : Own (kI .u64) 22 w' w.heap.size v146 s112.2.2.2.2.2.2.2.2.2.1, ∃ o150 : Own (kI .u64) 22 w' w.heap.size v149 s112.2.2.2.2.2.2.2.2.2.2.1, ∃ o153 : Own kB 4 w' w.heap.size v152 s112.2.2.2.2.2.2.2.2.2.2.2.1, ∃ o156 : Own (kI .i64) 3 w' w.heap.size v155 s112.2.2.2.2.2.2.2.2.2.2.2.2.1, OffV v140 v155 ∧ OffV v143 v146 ∧ OffV v143 v149 ∧ OffV v146 v149 ∧ ρ' 2 = V2_0 ∧ ρ' 3 = .pointer (some ⟨G1, 0, none⟩) ∧ ρ' 7 = .int .i64 (Int.tmod (IntKind.i64.wrap a1) 5) ∧ ρ' 8 = .pointer (some ⟨G35, 0, none⟩) ∧ ρ' 10 = .pointer (some ⟨G87, 0, none⟩) ∧ ρ' 11 = .int .i64 s112.1 ∧ Blk w' G1 71 [Kd.seg (kA 64 (kI .u8)) a0] ∧ Blk w' G35 139 [Seg.cell v137 o138.one, Seg.cell v140 o141.one, Seg.cell (.int .i64 s112.2.2.2.1), Seg.cell (.bool s112.2.2.2.2.1), Seg.cell (.bool s112.2.2.2.2.2.1), Seg.cell (.int .i64 s112.2.2.2.2.2.2.1), Seg.cell (.int .i64 s112.2.2.2.2.2.2.2.1)] ∧ Blk w' G87 65 [Seg.cell v143 o144.one, Seg.cell v146 o147.one, Seg.cell v149 o150.one, Seg.cell v152 o153.one, Seg.cell v155 o156.one, Seg.cell (.int .i64 s112.2.2.2.2.2.2.2.2.2.2.2.2.2.1), Seg.cell (.int .i64 s112.2.2.2.2.2.2.2.2.2.2.2.2.2.2.1), Seg.cell (.int .i64 s112.2.2.2.2.2.2.2.2.2.2.2.2.2.2.2)] ∧ Gr w w') l114 ?_ ?_
  ·skip
   exact ⟨u64, u68, u91, u94, u97, u100, u103, o65, o69, o92, o95, o98, o101, o104, a109, a106, a107, a108, e2, e3, rfl, rfl, rfl, rfl, b2, b37, b89, fB⟩
  rintro s112 x164 ρ162 w163 ⟨v137, v140, v143, v146, v149, v152, v155, o138, o141, o144, o147, o150, o153, o156, a158, a159, a160, a161, e2, e3, e7, e8, e10, e11, b2, b37, b89, fB⟩ h
  unfold rickyardlaw15_PressSure.s0 at h
  refine cw_seq ?_
  refine cw_seq ?_
  refine cw_region ?_
  refine ol_val (v := .int .i64 s112.1) (by exact xr_move rfl e11) rfl rfl rfl ?_
  refine ol_val (v := V2_0) (by exact xr_move rfl e2) rfl rfl rfl ?_
  refine ol_val (v := .int .i64 (List.length a2 : Int)) (by exact xr_lenN rfl Try.underlying82 rfl (RdN.gr R2_0 D_rickyardlaw15_Act.gr fB)) rfl rfl rfl ?_
  refine ol_val (v := .bool (decide (s112.1 < (List.length a2 : Int)))) (by exact xr_lss rfl rfl rfl) rfl rfl rfl ?_
  refine ol_nil ?_
  rcases is h with ⟨c165, h⟩ | ⟨c165, h⟩
  ·refine cw_condT rfl c165 ?_
   refine cw_skip ?_
   refine cw_seq ?_
   refine cw_block ?_
   refine cw_seq ?_
   refine cw_region ?_
   refine ol_val (v := V2_0) (by exact xr_move rfl e2) rfl rfl rfl ?_
   refine ol_val (v := .int .i64 s112.1) (by exact xr_move rfl e11) rfl rfl rfl ?_
   obtain ⟨g166, h⟩ := gs h
   refine ol_val (v := .pointer (some ⟨(sb V2_0), so V2_0 + Int.toNat s112.1 * 8, none⟩)) (by exact xr_indexN (v := V2_0) rfl Try.underlying82 sz85 rfl (RdN.gr R2_0 D_rickyardlaw15_Act.gr fB) rfl g166.1 g166.2) rfl rfl rfl ?_
   refine ol_val (v := aggV [Seg.cell (.int .i64 ((ix a2 s112.1).Kind)), Seg.cell (.int .i64 ((ix a2 s112.1).At)), Seg.cell (.int .i64 ((ix a2 s112.1).I)), Seg.cell (cellAt w (sb V2_0) (so V2_0 + Int.toNat s112.1 * 8 + 3)) (N_rickyardlaw15_Act R2_0 g166.1 g166.2).2.1.one, Seg.cell (.int .i64 (((ix a2 s112.1).A).Kind)), Seg.cell (.int .i64 (((ix a2 s112.1).A).At)), Seg.cell (.int .u64 (((ix a2 s112.1).A).W)), Seg.cell (cellAt w (sb V2_0) (so V2_0 + Int.toNat s112.1 * 8 + 7)) (N_rickyardlaw15_Act R2_0 g166.1 g166.2).2.2.one]) (by exact xr_loadS (ss := [Seg.cell (.int .i64 ((ix a2 s112.1).Kind)), Seg.cell (.int .i64 ((ix a2 s112.1).At)), Seg.cell (.int .i64 ((ix a2 s112.1).I)), Seg.cell (cellAt w (sb V2_0) (so V2_0 + Int.toNat s112.1 * 8 + 3)) (N_rickyardlaw15_Act R2_0 g166.1 g166.2).2.1.one, Seg.cell (.int .i64 (((ix a2 s112.1).A).Kind)), Seg.cell (.int .i64 (((ix a2 s112.1).A).At)), Seg.cell (.int .u64 (((ix a2 s112.1).A).W)), Seg.cell (cellAt w (sb V2_0) (so V2_0 + Int.toNat s112.1 * 8 + 7)) (N_rickyardlaw15_Act R2_0 g166.1 g166.2).2.2.one]) rfl ag85 sz85 rfl rfl (At.gr (N_rickyardlaw15_Act R2_0 g166.1 g166.2).1 fB)) rfl rfl rfl ?_
   refine ol_op (by exact opv_alloc (ss := [Seg.cell (.int .i64 (0 : Int)), Seg.cell (.int .i64 (0 : Int)), Seg.cell (.int .i64 (0 : Int)), Seg.cell (.slice none 0 0) (by rfl), Seg.cell (.int .i64 (0 : Int)), Seg.cell (.int .i64 (0 : Int)), Seg.cell (.int .u64 (0 : Int)), Seg.cell (.slice none 0 0) (by rfl)]) rfl ze85 rfl) rfl rfl rfl ?_
   rintro _ w172 ⟨G167, rfl, b168, q169, z170⟩
   have n173 := b2.ne z170
   have n174 := b37.ne z170
   have n175 := b89.ne z170
   have z170 := Nat.le_trans fB.size z170
   have b2 := b2.gr q169
   have b37 := b37.gr q169
   have b89 := b89.gr q169
   have o138 := o138.gr q169
   have o141 := o141.gr q169
   have o144 := o144.gr q169
   have o147 := o147.gr q169
   have o150 := o150.gr q169
   have o153 := o153.gr q169
   have o156 := o156.gr q169
   have fB := fB.gr q169
   have f177 := off_ty b168 o138 (by decide)
   have f178 := off_ty b168 o141 (by decide)
   have f179 := off_ty b168 o144 (by decide)
   have f180 := off_ty b168 o147 (by decide)
   have f181 := off_ty b168 o150 (by decide)
   have f182 := off_ty b168 o153 (by decide)
   have f183 := off_ty b168 o156 (by decide)
   refine ol_op0 (by exact opv_store (ss' := [Seg.cell (.int .i64 ((ix a2 s112.1).Kind)), Seg.cell (.int .i64 ((ix a2 s112.1).At)), Seg.cell (.int .i64 ((ix a2 s112.1).I)), Seg.cell (cellAt w (sb V2_0) (so V2_0 + Int.toNat s112.1 * 8 + 3)) (N_rickyardlaw15_Act R2_0 g166.1 g166.2).2.1.one, Seg.cell (.int .i64 (((ix a2 s112.1).A).Kind)), Seg.cell (.int .i64 (((ix a2 s112.1).A).At)), Seg.cell (.int .u64 (((ix a2 s112.1).A).W)), Seg.cell (cellAt w (sb V2_0) (so V2_0 + Int.toNat s112.1 * 8 + 7)) (N_rickyardlaw15_Act R2_0 g166.1 g166.2).2.2.one]) (xs := cellsOf [Seg.cell (.int .i64 ((ix a2 s112.1).Kind)), Seg.cell (.int .i64 ((ix a2 s112.1).At)), Seg.cell (.int .i64 ((ix a2 s112.1).I)), Seg.cell (cellAt w (sb V2_0) (so V2_0 + Int.toNat s112.1 * 8 + 3)) (N_rickyardlaw15_Act R2_0 g166.1 g166.2).2.1.one, Seg.cell (.int .i64 (((ix a2 s112.1).A).Kind)), Seg.cell (.int .i64 (((ix a2 s112.1).A).At)), Seg.cell (.int .u64 (((ix a2 s112.1).A).W)), Seg.cell (cellAt w (sb V2_0) (so V2_0 + Int.toNat s112.1 * 8 + 7)) (N_rickyardlaw15_Act R2_0 g166.1 g166.2).2.2.one]) rfl sz85 rfl rfl rfl (len_cellsOf _) (one_cellsOf _) b168 (Spl.segs _ 0 8 [Seg.cell (.int .i64 ((ix a2 s112.1).Kind)), Seg.cell (.int .i64 ((ix a2 s112.1).At)), Seg.cell (.int .i64 ((ix a2 s112.1).I)), Seg.cell (cellAt w (sb V2_0) (so V2_0 + Int.toNat s112.1 * 8 + 3)) (N_rickyardlaw15_Act R2_0 g166.1 g166.2).2.1.one, Seg.cell (.int .i64 (((ix a2 s112.1).A).Kind)), Seg.cell (.int .i64 (((ix a2 s112.1).A).At)), Seg.cell (.int .u64 (((ix a2 s112.1).A).W)), Seg.cell (cellAt w (sb V2_0) (so V2_0 + Int.toNat s112.1 * 8 + 7)) (N_rickyardlaw15_Act R2_0 g166.1 g166.2).2.2.one] rfl rfl)) rfl rfl ?_
   rintro _ w184 ⟨b168, q176⟩
   have b2 := b2.wr q176 n173
   have b37 := b37.wr q176 n174
   have b89 := b89.wr q176 n175
   have o138 := o138.wr q176 f177
   have o141 := o141.wr q176 f178
   have o144 := o144.wr q176 f179
   have o147 := o147.wr q176 f180
   have o150 := o150.wr q176 f181
   have o153 := o153.wr q176 f182
   have o156 := o156.wr q176 f183
   have fB := fB.wr q176 z170
   refine ol_nil ?_
   refine cw_seq ?_
   refine cw_seq ?_
   refine cw_mid (fun ρ' w' => ρ' 2 = V2_0 ∧ ρ' 3 = .pointer (some ⟨G1, 0, none⟩) ∧ ρ' 7 = .int .i64 (Int.tmod (IntKind.i64.wrap a1) 5) ∧ ρ' 8 = .pointer (some ⟨G35, 0, none⟩) ∧ ρ' 10 = .pointer (some ⟨G87, 0, none⟩) ∧ ρ' 11 = .int .i64 s112.1 ∧ ρ' 12 = .pointer (some ⟨G167, 0, none⟩) ∧ ρ' 80 = .bool (if (!decide (((ix a2 s112.1).Kind) = 0)) = true then (if (!decide (((ix a2 s112.1).Kind) = 1)) = true then (if (!decide (((ix a2 s112.1).Kind) = 2)) = true then (!decide (((ix a2 s112.1).Kind) = 3)) else false) else false) else false) ∧ w184 = w') ?_ ?_
   ·skip
    refine cw_region ?_
    refine ol_val (v := .pointer (some ⟨G167, 0, none⟩)) (by exact xr_fieldAddr (p := 0) (q := 0) rfl fl85_0 rfl) rfl rfl rfl ?_
    refine ol_val (v := .int .i64 ((ix a2 s112.1).Kind)) (by exact xr_load1 (v := .int .i64 ((ix a2 s112.1).Kind)) rfl ag3 rfl (b168.seg 0 rfl rfl)) rfl rfl rfl ?_
    refine ol_val (v := .bool (!decide (((ix a2 s112.1).Kind) = 0))) (by exact xr_neI rfl Try.underlying3 rfl rfl rfl) rfl rfl rfl ?_
    refine ol_val (v := .bool (!decide (((ix a2 s112.1).Kind) = 0))) (by exact xr_move rfl rfl) rfl rfl rfl ?_
    rcases bt (!decide (((ix a2 s112.1).Kind) = 0)) with c185 | c185
    ·skip
     refine ol_gval (v := .pointer (some ⟨G167, 0, none⟩)) (by exact xr_fieldAddr (p := 0) (q := 0) rfl fl85_0 rfl) rfl rfl rfl rfl rfl c185 ?_
     refine ol_gval (v := .int .i64 ((ix a2 s112.1).Kind)) (by exact xr_load1 (v := .int .i64 ((ix a2 s112.1).Kind)) rfl ag3 rfl (b168.seg 0 rfl rfl)) rfl rfl rfl rfl rfl c185 ?_
     refine ol_gval (v := .bool (!decide (((ix a2 s112.1).Kind) = 1))) (by exact xr_neI rfl Try.underlying3 rfl rfl rfl) rfl rfl rfl rfl rfl c185 ?_
     refine ol_val (v := .bool (!decide (((ix a2 s112.1).Kind) = 1))) (by exact xr_pickT rfl rfl c185 rfl) rfl rfl rfl ?_
     refine ol_val (v := .bool (!decide (((ix a2 s112.1).Kind) = 1))) (by exact xr_move rfl rfl) rfl rfl rfl ?_
     rcases bt (!decide (((ix a2 s112.1).Kind) = 1)) with c186 | c186
     ·skip
      refine ol_gval (v := .pointer (some ⟨G167, 0, none⟩)) (by exact xr_fieldAddr (p := 0) (q := 0) rfl fl85_0 rfl) rfl rfl rfl rfl rfl c186 ?_
      refine ol_gval (v := .int .i64 ((ix a2 s112.1).Kind)) (by exact xr_load1 (v := .int .i64 ((ix a2 s112.1).Kind)) rfl ag3 rfl (b168.seg 0 rfl rfl)) rfl rfl rfl rfl rfl c186 ?_
      refine ol_gval (v := .bool (!decide (((ix a2 s112.1).Kind) = 2))) (by exact xr_neI rfl Try.underlying3 rfl rfl rfl) rfl rfl rfl rfl rfl c186 ?_
      refine ol_val (v := .bool (!decide (((ix a2 s112.1).Kind) = 2))) (by exact xr_pickT rfl rfl c186 rfl) rfl rfl rfl ?_
      refine ol_val (v := .bool (!decide (((ix a2 s112.1).Kind) = 2))) (by exact xr_move rfl rfl) rfl rfl rfl ?_
      rcases bt (!decide (((ix a2 s112.1).Kind) = 2)) with c187 | c187
      ·skip
       refine ol_gval (v := .pointer (some ⟨G167, 0, none⟩)) (by exact xr_fieldAddr (p := 0) (q := 0) rfl fl85_0 rfl) rfl rfl rfl rfl rfl c187 ?_
       refine ol_gval (v := .int .i64 ((ix a2 s112.1).Kind)) (by exact xr_load1 (v := .int .i64 ((ix a2 s112.1).Kind)) rfl ag3 rfl (b168.seg 0 rfl rfl)) rfl rfl rfl rfl rfl c187 ?_
       refine ol_gval (v := .bool (!decide (((ix a2 s112.1).Kind) = 3))) (by exact xr_neI rfl Try.underlying3 rfl rfl rfl) rfl rfl rfl rfl rfl c187 ?_
       refine ol_val (v := .bool (!decide (((ix a2 s112.1).Kind) = 3))) (by exact xr_pickT rfl rfl c187 rfl) rfl rfl rfl ?_
       refine ol_nil ?_
       refine thn_i ?_
       exact ⟨e2, e3, e7, e8, e10, e11, rfl, (rfl).trans (congrArg (fun z => (.bool z : Value)) (show (!decide (((ix a2 s112.1).Kind) = 3)) = (if (!decide (((ix a2 s112.1).Kind) = 0)) = true then (if (!decide (((ix a2 s112.1).Kind) = 1)) = true then (if (!decide (((ix a2 s112.1).Kind) = 2)) = true then (!decide (((ix a2 s112.1).Kind) = 3)) else false) else false) else false) from by rw [ite_t c185, ite_t c186, ite_t c187])), rfl⟩
      refine ol_gskip rfl rfl rfl rfl rfl c187 ?_
      refine ol_gskip rfl rfl rfl rfl rfl c187 ?_
      refine ol_gskip rfl rfl rfl rfl rfl c187 ?_
      refine ol_val (v := .bool false) (by exact xr_pickF rfl rfl c187 rfl) rfl rfl rfl ?_
      refine ol_nil ?_
      refine thn_i ?_
      exact ⟨e2, e3, e7, e8, e10, e11, rfl, (rfl).trans (congrArg (fun z => (.bool z : Value)) (show false = (if (!decide (((ix a2 s112.1).Kind) = 0)) = true then (if (!decide (((ix a2 s112.1).Kind) = 1)) = true then (if (!decide (((ix a2 s112.1).Kind) = 2)) = true then (!decide (((ix a2 s112.1).Kind) = 3)) else false) else false) else false) from by rw [ite_t c185, ite_t c186, ite_f c187])), rfl⟩
     refine ol_gskip rfl rfl rfl rfl rfl c186 ?_
     refine ol_gskip rfl rfl rfl rfl rfl c186 ?_
     refine ol_gskip rfl rfl rfl rfl rfl c186 ?_
     refine ol_val (v := .bool false) (by exact xr_pickF rfl rfl c186 rfl) rfl rfl rfl ?_
     refine ol_val (v := .bool false) (by exact xr_move rfl rfl) rfl rfl rfl ?_
     refine ol_gskip rfl rfl rfl rfl rfl rfl ?_
     refine ol_gskip rfl rfl rfl rfl rfl rfl ?_
     refine ol_gskip rfl rfl rfl rfl rfl rfl ?_
     refine ol_val (v := .bool false) (by exact xr_pickF rfl rfl rfl rfl) rfl rfl rfl ?_
     refine ol_nil ?_
     refine thn_i ?_
     exact ⟨e2, e3, e7, e8, e10, e11, rfl, (rfl).trans (congrArg (fun z => (.bool z : Value)) (show false = (if (!decide (((ix a2 s112.1).Kind) = 0)) = true then (if (!decide (((ix a2 s112.1).Kind) = 1)) = true then (if (!decide (((ix a2 s112.1).Kind) = 2)) = true then (!decide (((ix a2 s112.1).Kind) = 3)) else false) else false) else false) from by rw [ite_t c185, ite_f c186])), rfl⟩
    refine ol_gskip rfl rfl rfl rfl rfl c185 ?_
    refine ol_gskip rfl rfl rfl rfl rfl c185 ?_
    refine ol_gskip rfl rfl rfl rfl rfl c185 ?_
    refine ol_val (v := .bool false) (by exact xr_pickF rfl rfl c185 rfl) rfl rfl rfl ?_
    refine ol_val (v := .bool false) (by exact xr_move rfl rfl) rfl rfl rfl ?_
    refine ol_gskip rfl rfl rfl rfl rfl rfl ?_
    refine ol_gskip rfl rfl rfl rfl rfl rfl ?_
    refine ol_gskip rfl rfl rfl rfl rfl rfl ?_
    refine ol_val (v := .bool false) (by exact xr_pickF rfl rfl rfl rfl) rfl rfl rfl ?_
    refine ol_val (v := .bool false) (by exact xr_move rfl rfl) rfl rfl rfl ?_
    refine ol_gskip rfl rfl rfl rfl rfl rfl ?_
    refine ol_gskip rfl rfl rfl rfl rfl rfl ?_
    refine ol_gskip rfl rfl rfl rfl rfl rfl ?_
    refine ol_val (v := .bool false) (by exact xr_pickF rfl rfl rfl rfl) rfl rfl rfl ?_
    refine ol_nil ?_
    refine thn_i ?_
    exact ⟨e2, e3, e7, e8, e10, e11, rfl, (rfl).trans (congrArg (fun z => (.bool z : Value)) (show false = (if (!decide (((ix a2 s112.1).Kind) = 0)) = true then (if (!decide (((ix a2 s112.1).Kind) = 1)) = true then (if (!decide (((ix a2 s112.1).Kind) = 2)) = true then (!decide (((ix a2 s112.1).Kind) = 3)) else false) else false) else false) from by rw [ite_f c185])), rfl⟩
   rintro ρ188 _ ⟨e2, e3, e7, e8, e10, e11, e12, e80, rfl⟩
   obtain ⟨x189, j190, h191⟩ := bs h
   refine cw_mid (fun ρ' w' => ∃ x192, x189 = Sum.inr x192 ∧ ∃ o138 : Own k_pmem_cell 142 w' w.heap.size v137 s112.2.1, ∃ o141 : Own (kI .i64) 3 w' w.heap.size v140 s112.2.2.1, ∃ o144 : Own (kI .u64) 22 w' w.heap.size v143 s112.2.2.2.2.2.2.2.2.1, ∃ o147 : Own (kI .u64) 22 w' w.heap.size v146 s112.2.2.2.2.2.2.2.2.2.1, ∃ o150 : Own (kI .u64) 22 w' w.heap.size v149 s112.2.2.2.2.2.2.2.2.2.2.1, ∃ o153 : Own kB 4 w' w.heap.size v152 s112.2.2.2.2.2.2.2.2.2.2.2.1, ∃ o156 : Own (kI .i64) 3 w' w.heap.size v155 s112.2.2.2.2.2.2.2.2.2.2.2.2.1, ρ' 2 = V2_0 ∧ ρ' 3 = .pointer (some ⟨G1, 0, none⟩) ∧ ρ' 7 = .int .i64 (Int.tmod (IntKind.i64.wrap a1) 5) ∧ ρ' 8 = .pointer (some ⟨G35, 0, none⟩) ∧ ρ' 10 = .pointer (some ⟨G87, 0, none⟩) ∧ ρ' 11 = .int .i64 s112.1 ∧ ρ' 12 = .pointer (some ⟨G167, 0, none⟩) ∧ Blk w' G1 71 [Kd.seg (kA 64 (kI .u8)) a0] ∧ Blk w' G35 139 [Seg.cell v137 o138.one, Seg.cell v140 o141.one, Seg.cell (.int .i64 s112.2.2.2.1), Seg.cell (.bool s112.2.2.2.2.1), Seg.cell (.bool s112.2.2.2.2.2.1), Seg.cell (.int .i64 s112.2.2.2.2.2.2.1), Seg.cell (.int .i64 s112.2.2.2.2.2.2.2.1)] ∧ Blk w' G87 65 [Seg.cell v143 o144.one, Seg.cell v146 o147.one, Seg.cell v149 o150.one, Seg.cell v152 o153.one, Seg.cell v155 o156.one, Seg.cell (.int .i64 s112.2.2.2.2.2.2.2.2.2.2.2.2.2.1), Seg.cell (.int .i64 s112.2.2.2.2.2.2.2.2.2.2.2.2.2.2.1), Seg.cell (.int .i64 s112.2.2.2.2.2.2.2.2.2.2.2.2.2.2.2)] ∧ Blk w' G167 85 [Seg.cell (.int .i64 ((ix a2 s112.1).Kind)), Seg.cell (.int .i64 ((ix a2 s112.1).At)), Seg.cell (.int .i64 ((ix a2 s112.1).I)), Seg.cell (cellAt w (sb V2_0) (so V2_0 + Int.toNat s112.1 * 8 + 3)) (N_rickyardlaw15_Act R2_0 g166.1 g166.2).2.1.one, Seg.cell (.int .i64 (((ix a2 s112.1).A).Kind)), Seg.cell (.int .i64 (((ix a2 s112.1).A).At)), Seg.cell (.int .u64 (((ix a2 s112.1).A).W)), Seg.cell (cellAt w (sb V2_0) (so V2_0 + Int.toNat s112.1 * 8 + 7)) (N_rickyardlaw15_Act R2_0 g166.1 g166.2).2.2.one] ∧ Gr w w') ?_ ?_
   ·have h := j190
    rcases is h with ⟨c193, h⟩ | ⟨c193, h⟩
    ·refine cw_condT e80 c193 ?_
     refine cw_seq ?_
     refine cw_region ?_
     refine ol_val (v := .pointer (some ⟨G167, 4, none⟩)) (by exact xr_fieldAddr (p := 0) (q := 4) rfl fl85_4 e12) rfl rfl rfl ?_
     refine ol_val (v := .pointer (some ⟨G167, 4, none⟩)) (by exact xr_fieldAddr (p := 4) (q := 0) rfl fl39_0 rfl) rfl rfl rfl ?_
     refine ol_val (v := .int .i64 (((ix a2 s112.1).A).Kind)) (by exact xr_load1 (v := .int .i64 (((ix a2 s112.1).A).Kind)) rfl ag3 rfl (b168.seg 4 rfl rfl)) rfl rfl rfl ?_
     obtain ⟨t194, k195, h⟩ := bs h
     refine ol_op (by exact opv_call rfl cal27 (ac rfl (ac rfl an)) (rickyardref01_Rest.ok fu _ (((ix a2 s112.1).A).Kind) 7 _ k195)) rfl rfl rfl ?_
     rintro _ w197 ⟨rfl, q196⟩
     have b2 := b2.gr q196
     have b37 := b37.gr q196
     have b89 := b89.gr q196
     have b168 := b168.gr q196
     have o138 := o138.gr q196
     have o141 := o141.gr q196
     have o144 := o144.gr q196
     have o147 := o147.gr q196
     have o150 := o150.gr q196
     have o153 := o153.gr q196
     have o156 := o156.gr q196
     have fB := fB.gr q196
     refine ol_val (v := .int .i64 t194) (by exact xr_assign rfl rfl) rfl rfl rfl ?_
     refine ol_nil ?_
     refine cw_seq ?_
     refine cw_mid (fun ρ' w' => ρ' 2 = V2_0 ∧ ρ' 3 = .pointer (some ⟨G1, 0, none⟩) ∧ ρ' 7 = .int .i64 (Int.tmod (IntKind.i64.wrap a1) 5) ∧ ρ' 8 = .pointer (some ⟨G35, 0, none⟩) ∧ ρ' 10 = .pointer (some ⟨G87, 0, none⟩) ∧ ρ' 11 = .int .i64 s112.1 ∧ ρ' 12 = .pointer (some ⟨G167, 0, none⟩) ∧ ρ' 103 = .bool (if (decide (t194 = 0)) = true then (if (decide ((((ix a2 s112.1).A).At) ≥ (IntKind.i64.wrap (8 * (Int.tmod (IntKind.i64.wrap a1) 5))))) = true then (decide ((((ix a2 s112.1).A).At) < (IntKind.i64.wrap ((IntKind.i64.wrap (8 * (Int.tmod (IntKind.i64.wrap a1) 5))) + 8)))) else false) else false) ∧ w197 = w') ?_ ?_
     ·skip
      refine cw_region ?_
      refine ol_val (v := .int .i64 t194) (by exact xr_move rfl rfl) rfl rfl rfl ?_
      refine ol_val (v := .bool (decide (t194 = 0))) (by exact xr_eqI rfl Try.underlying3 rfl rfl rfl) rfl rfl rfl ?_
      refine ol_val (v := .bool (decide (t194 = 0))) (by exact xr_move rfl rfl) rfl rfl rfl ?_
      rcases bt (decide (t194 = 0)) with c198 | c198
      ·skip
       refine ol_gval (v := .pointer (some ⟨G167, 4, none⟩)) (by exact xr_fieldAddr (p := 0) (q := 4) rfl fl85_4 e12) rfl rfl rfl rfl rfl c198 ?_
       refine ol_gval (v := .pointer (some ⟨G167, 5, none⟩)) (by exact xr_fieldAddr (p := 4) (q := 1) rfl fl39_1 rfl) rfl rfl rfl rfl rfl c198 ?_
       refine ol_gval (v := .int .i64 (((ix a2 s112.1).A).At)) (by exact xr_load1 (v := .int .i64 (((ix a2 s112.1).A).At)) rfl ag3 rfl (b168.seg 5 rfl rfl)) rfl rfl rfl rfl rfl c198 ?_
       refine ol_gval (v := .int .i64 (Int.tmod (IntKind.i64.wrap a1) 5)) (by exact xr_move rfl e7) rfl rfl rfl rfl rfl c198 ?_
       refine ol_gval (v := .int .i64 (IntKind.i64.wrap (8 * (Int.tmod (IntKind.i64.wrap a1) 5)))) (by exact xr_mul rfl rfl rfl) rfl rfl rfl rfl rfl c198 ?_
       refine ol_gval (v := .bool (decide ((((ix a2 s112.1).A).At) ≥ (IntKind.i64.wrap (8 * (Int.tmod (IntKind.i64.wrap a1) 5)))))) (by exact xr_geq rfl rfl rfl) rfl rfl rfl rfl rfl c198 ?_
       refine ol_val (v := .bool (decide ((((ix a2 s112.1).A).At) ≥ (IntKind.i64.wrap (8 * (Int.tmod (IntKind.i64.wrap a1) 5)))))) (by exact xr_pickT rfl rfl c198 rfl) rfl rfl rfl ?_
       refine ol_val (v := .bool (decide ((((ix a2 s112.1).A).At) ≥ (IntKind.i64.wrap (8 * (Int.tmod (IntKind.i64.wrap a1) 5)))))) (by exact xr_move rfl rfl) rfl rfl rfl ?_
       rcases bt (decide ((((ix a2 s112.1).A).At) ≥ (IntKind.i64.wrap (8 * (Int.tmod (IntKind.i64.wrap a1) 5))))) with c199 | c199
       ·skip
        refine ol_gval (v := .pointer (some ⟨G167, 4, none⟩)) (by exact xr_fieldAddr (p := 0) (q := 4) rfl fl85_4 e12) rfl rfl rfl rfl rfl c199 ?_
        refine ol_gval (v := .pointer (some ⟨G167, 5, none⟩)) (by exact xr_fieldAddr (p := 4) (q := 1) rfl fl39_1 rfl) rfl rfl rfl rfl rfl c199 ?_
        refine ol_gval (v := .int .i64 (((ix a2 s112.1).A).At)) (by exact xr_load1 (v := .int .i64 (((ix a2 s112.1).A).At)) rfl ag3 rfl (b168.seg 5 rfl rfl)) rfl rfl rfl rfl rfl c199 ?_
        refine ol_gval (v := .int .i64 (Int.tmod (IntKind.i64.wrap a1) 5)) (by exact xr_move rfl e7) rfl rfl rfl rfl rfl c199 ?_
        refine ol_gval (v := .int .i64 (IntKind.i64.wrap (8 * (Int.tmod (IntKind.i64.wrap a1) 5)))) (by exact xr_mul rfl rfl rfl) rfl rfl rfl rfl rfl c199 ?_
        refine ol_gval (v := .int .i64 (IntKind.i64.wrap ((IntKind.i64.wrap (8 * (Int.tmod (IntKind.i64.wrap a1) 5))) + 8))) (by exact xr_add rfl rfl rfl) rfl rfl rfl rfl rfl c199 ?_
        refine ol_gval (v := .bool (decide ((((ix a2 s112.1).A).At) < (IntKind.i64.wrap ((IntKind.i64.wrap (8 * (Int.tmod (IntKind.i64.wrap a1) 5))) + 8))))) (by exact xr_lss rfl rfl rfl) rfl rfl rfl rfl rfl c199 ?_
        refine ol_val (v := .bool (decide ((((ix a2 s112.1).A).At) < (IntKind.i64.wrap ((IntKind.i64.wrap (8 * (Int.tmod (IntKind.i64.wrap a1) 5))) + 8))))) (by exact xr_pickT rfl rfl c199 rfl) rfl rfl rfl ?_
        refine ol_nil ?_
        refine thn_i ?_
        exact ⟨e2, e3, e7, e8, e10, e11, e12, (rfl).trans (congrArg (fun z => (.bool z : Value)) (show (decide ((((ix a2 s112.1).A).At) < (IntKind.i64.wrap ((IntKind.i64.wrap (8 * (Int.tmod (IntKind.i64.wrap a1) 5))) + 8)))) = (if (decide (t194 = 0)) = true then (if (decide ((((ix a2 s112.1).A).At) ≥ (IntKind.i64.wrap (8 * (Int.tmod (IntKind.i64.wrap a1) 5))))) = true then (decide ((((ix a2 s112.1).A).At) < (IntKind.i64.wrap ((IntKind.i64.wrap (8 * (Int.tmod (IntKind.i64.wrap a1) 5))) + 8)))) else false) else false) from by rw [ite_t c198, ite_t c199])), rfl⟩
       refine ol_gskip rfl rfl rfl rfl rfl c199 ?_
       refine ol_gskip rfl rfl rfl rfl rfl c199 ?_
       refine ol_gskip rfl rfl rfl rfl rfl c199 ?_
       refine ol_gskip rfl rfl rfl rfl rfl c199 ?_
       refine ol_gskip rfl rfl rfl rfl rfl c199 ?_
       refine ol_gskip rfl rfl rfl rfl rfl c199 ?_
       refine ol_gskip rfl rfl rfl rfl rfl c199 ?_
       refine ol_val (v := .bool false) (by exact xr_pickF rfl rfl c199 rfl) rfl rfl rfl ?_
       refine ol_nil ?_
       refine thn_i ?_
       exact ⟨e2, e3, e7, e8, e10, e11, e12, (rfl).trans (congrArg (fun z => (.bool z : Value)) (show false = (if (decide (t194 = 0)) = true then (if (decide ((((ix a2 s112.1).A).At) ≥ (IntKind.i64.wrap (8 * (Int.tmod (IntKind.i64.wrap a1) 5))))) = true then (decide ((((ix a2 s112.1).A).At) < (IntKind.i64.wrap ((IntKind.i64.wrap (8 * (Int.tmod (IntKind.i64.wrap a1) 5))) + 8)))) else false) else false) from by rw [ite_t c198, ite_f c199])), rfl⟩
      refine ol_gskip rfl rfl rfl rfl rfl c198 ?_
      refine ol_gskip rfl rfl rfl rfl rfl c198 ?_
      refine ol_gskip rfl rfl rfl rfl rfl c198 ?_
      refine ol_gskip rfl rfl rfl rfl rfl c198 ?_
      refine ol_gskip rfl rfl rfl rfl rfl c198 ?_
      refine ol_gskip rfl rfl rfl rfl rfl c198 ?_
      refine ol_val (v := .bool false) (by exact xr_pickF rfl rfl c198 rfl) rfl rfl rfl ?_
      refine ol_val (v := .bool false) (by exact xr_move rfl rfl) rfl rfl rfl ?_
      refine ol_gskip rfl rfl rfl rfl rfl rfl ?_
      refine ol_gskip rfl rfl rfl rfl rfl rfl ?_
      refine ol_gskip rfl rfl rfl rfl rfl rfl ?_
      refine ol_gskip rfl rfl rfl rfl rfl rfl ?_
      refine ol_gskip rfl rfl rfl rfl rfl rfl ?_
      refine ol_gskip rfl rfl rfl rfl rfl rfl ?_
      refine ol_gskip rfl rfl rfl rfl rfl rfl ?_
      refine ol_val (v := .bool false) (by exact xr_pickF rfl rfl rfl rfl) rfl rfl rfl ?_
      refine ol_nil ?_
      refine thn_i ?_
      exact ⟨e2, e3, e7, e8, e10, e11, e12, (rfl).trans (congrArg (fun z => (.bool z : Value)) (show false = (if (decide (t194 = 0)) = true then (if (decide ((((ix a2 s112.1).A).At) ≥ (IntKind.i64.wrap (8 * (Int.tmod (IntKind.i64.wrap a1) 5))))) = true then (decide ((((ix a2 s112.1).A).At) < (IntKind.i64.wrap ((IntKind.i64.wrap (8 * (Int.tmod (IntKind.i64.wrap a1) 5))) + 8)))) else false) else false) from by rw [ite_f c198])), rfl⟩
     rintro ρ200 _ ⟨e2, e3, e7, e8, e10, e11, e12, e103, rfl⟩
     rcases is h with ⟨c201, h⟩ | ⟨c201, h⟩
     ·refine cw_condT e103 c201 ?_
      refine cw_exit ?_
      repeat (first | with_reducible refine thn_e ?_ | with_reducible refine blk_e rfl ?_)
      obtain rfl := Option.some.inj h
      have h := h191
      refine blk_h ?_
      refine cw_region ?_
      refine ol_val (v := .int .i64 s112.1) (by exact xr_move rfl e11) rfl rfl rfl ?_
      refine ol_val (v := .int .i64 (IntKind.i64.wrap (s112.1 + 1))) (by exact xr_add rfl rfl rfl) rfl rfl rfl ?_
      refine ol_val (v := .int .i64 (IntKind.i64.wrap (s112.1 + 1))) (by exact xr_assign rfl rfl) rfl rfl rfl ?_
      refine ol_nil ?_
      obtain rfl := Option.some.inj h
      refine lp_in ?_
      exact ⟨v137, v140, v143, v146, v149, v152, v155, o138, o141, o144, o147, o150, o153, o156, a158, a159, a160, a161, e2, e3, e7, e8, e10, rfl, b2, b37, b89, fB⟩
     refine cw_condF e103 c201 ?_
     refine cw_skip ?_
     obtain rfl := Option.some.inj h
     refine thn_i ?_
     exact ⟨_, rfl, o138, o141, o144, o147, o150, o153, o156, e2, e3, e7, e8, e10, e11, e12, b2, b37, b89, b168, fB⟩
    refine cw_condF e80 c193 ?_
    refine cw_seq ?_
    refine cw_region ?_
    refine ol_val (v := .pointer (some ⟨G167, 1, none⟩)) (by exact xr_fieldAddr (p := 0) (q := 1) rfl fl85_1 e12) rfl rfl rfl ?_
    refine ol_val (v := .int .i64 ((ix a2 s112.1).At)) (by exact xr_load1 (v := .int .i64 ((ix a2 s112.1).At)) rfl ag3 rfl (b168.seg 1 rfl rfl)) rfl rfl rfl ?_
    refine ol_val (v := .int .i64 (Int.tmod (IntKind.i64.wrap a1) 5)) (by exact xr_move rfl e7) rfl rfl rfl ?_
    refine ol_val (v := .bool (decide (((ix a2 s112.1).At) = (Int.tmod (IntKind.i64.wrap a1) 5)))) (by exact xr_eqI rfl Try.underlying3 rfl rfl rfl) rfl rfl rfl ?_
    refine ol_nil ?_
    rcases is h with ⟨c202, h⟩ | ⟨c202, h⟩
    ·refine cw_condT rfl c202 ?_
     refine cw_exit ?_
     repeat (first | with_reducible refine thn_e ?_ | with_reducible refine blk_e rfl ?_)
     obtain rfl := Option.some.inj h
     have h := h191
     refine blk_h ?_
     refine cw_region ?_
     refine ol_val (v := .int .i64 s112.1) (by exact xr_move rfl e11) rfl rfl rfl ?_
     refine ol_val (v := .int .i64 (IntKind.i64.wrap (s112.1 + 1))) (by exact xr_add rfl rfl rfl) rfl rfl rfl ?_
     refine ol_val (v := .int .i64 (IntKind.i64.wrap (s112.1 + 1))) (by exact xr_assign rfl rfl) rfl rfl rfl ?_
     refine ol_nil ?_
     obtain rfl := Option.some.inj h
     refine lp_in ?_
     exact ⟨v137, v140, v143, v146, v149, v152, v155, o138, o141, o144, o147, o150, o153, o156, a158, a159, a160, a161, e2, e3, e7, e8, e10, rfl, b2, b37, b89, fB⟩
    refine cw_condF rfl c202 ?_
    refine cw_skip ?_
    obtain rfl := Option.some.inj h
    refine thn_i ?_
    exact ⟨_, rfl, o138, o141, o144, o147, o150, o153, o156, e2, e3, e7, e8, e10, e11, e12, b2, b37, b89, b168, fB⟩
   rintro ρ203 w204 ⟨x192, rfl, o138, o141, o144, o147, o150, o153, o156, e2, e3, e7, e8, e10, e11, e12, b2, b37, b89, b168, fB⟩
   have h := h191
   refine cw_region ?_
   refine ol_val (v := .pointer (some ⟨G35, 0, none⟩)) (by exact xr_move rfl e8) rfl rfl rfl ?_
   refine ol_val (v := .pointer (some ⟨G87, 0, none⟩)) (by exact xr_move rfl e10) rfl rfl rfl ?_
   refine ol_val (v := aggV [Seg.cell (.int .i64 ((ix a2 s112.1).Kind)), Seg.cell (.int .i64 ((ix a2 s112.1).At)), Seg.cell (.int .i64 ((ix a2 s112.1).I)), Seg.cell (cellAt w (sb V2_0) (so V2_0 + Int.toNat s112.1 * 8 + 3)) (N_rickyardlaw15_Act R2_0 g166.1 g166.2).2.1.one, Seg.cell (.int .i64 (((ix a2 s112.1).A).Kind)), Seg.cell (.int .i64 (((ix a2 s112.1).A).At)), Seg.cell (.int .u64 (((ix a2 s112.1).A).W)), Seg.cell (cellAt w (sb V2_0) (so V2_0 + Int.toNat s112.1 * 8 + 7)) (N_rickyardlaw15_Act R2_0 g166.1 g166.2).2.2.one]) (by exact xr_loadS (ss := [Seg.cell (.int .i64 ((ix a2 s112.1).Kind)), Seg.cell (.int .i64 ((ix a2 s112.1).At)), Seg.cell (.int .i64 ((ix a2 s112.1).I)), Seg.cell (cellAt w (sb V2_0) (so V2_0 + Int.toNat s112.1 * 8 + 3)) (N_rickyardlaw15_Act R2_0 g166.1 g166.2).2.1.one, Seg.cell (.int .i64 (((ix a2 s112.1).A).Kind)), Seg.cell (.int .i64 (((ix a2 s112.1).A).At)), Seg.cell (.int .u64 (((ix a2 s112.1).A).W)), Seg.cell (cellAt w (sb V2_0) (so V2_0 + Int.toNat s112.1 * 8 + 7)) (N_rickyardlaw15_Act R2_0 g166.1 g166.2).2.2.one]) rfl ag85 sz85 rfl e12 (b168.segs 0 8 rfl)) rfl rfl rfl ?_
   obtain ⟨t205, k206, h⟩ := bs h
   have f240 := (nb_or n45 (nb_or (nb_off (off_ty b2 o138 (by decide))) (nb_or (nb_off (off_ty b2 o141 (by decide))) (nb_or n110 (nb_or (nb_off (off_ty b2 o144 (by decide))) (nb_or (nb_off (off_ty b2 o147 (by decide))) (nb_or (nb_off (off_ty b2 o150 (by decide))) (nb_or (nb_off (off_ty b2 o153 (by decide))) (nb_off (off_ty b2 o156 (by decide)))))))))))
   have c241 : ∀ k, (k = G35 ∨ some k = Value.ownBlock v137 ∨ some k = Value.ownBlock v140 ∨ k = G87 ∨ some k = Value.ownBlock v143 ∨ some k = Value.ownBlock v146 ∨ some k = Value.ownBlock v149 ∨ some k = Value.ownBlock v152 ∨ some k = Value.ownBlock v155) → w.heap.size ≤ k := (cv_or (cv_eq z36) (cv_or (cv_own o138.geO) (cv_or (cv_own o141.geO) (cv_or (cv_eq z88) (cv_or (cv_own o144.geO) (cv_or (cv_own o147.geO) (cv_or (cv_own o150.geO) (cv_or (cv_own o153.geO) (cv_own o156.geO)))))))))
   refine ol_op (by exact opv_call rfl cal59 (ac rfl (ac rfl (ac rfl an))) (rickyardlaw15_do.ok fu _ (⟨s112.2.1, (⟨s112.2.2.1, s112.2.2.2.1⟩ : S_pmem_plan), s112.2.2.2.2.1, s112.2.2.2.2.2.1, s112.2.2.2.2.2.2.1, s112.2.2.2.2.2.2.2.1⟩ : S_pmem_Device) G35 v137 (Own.base o138 (Nat.zero_le _)) v140 (Own.base o141 (Nat.zero_le _)) b37 (⟨s112.2.2.2.2.2.2.2.2.1, s112.2.2.2.2.2.2.2.2.2.1, s112.2.2.2.2.2.2.2.2.2.2.1, s112.2.2.2.2.2.2.2.2.2.2.2.1, s112.2.2.2.2.2.2.2.2.2.2.2.2.1, s112.2.2.2.2.2.2.2.2.2.2.2.2.2.1, s112.2.2.2.2.2.2.2.2.2.2.2.2.2.2.1, s112.2.2.2.2.2.2.2.2.2.2.2.2.2.2.2⟩ : S_rickyardref05_Device) G87 v143 (Own.base o144 (Nat.zero_le _)) v146 (Own.base o147 (Nat.zero_le _)) v149 (Own.base o150 (Nat.zero_le _)) v152 (Own.base o153 (Nat.zero_le _)) v155 (Own.base o156 (Nat.zero_le _)) b89 (⟨(ix a2 s112.1).Kind, (ix a2 s112.1).At, (ix a2 s112.1).I, (ix a2 s112.1).B, ((ix a2 s112.1).A)⟩ : S_rickyardlaw15_Act) (cellAt w (sb V2_0) (so V2_0 + Int.toNat s112.1 * 8 + 3)) ((N_rickyardlaw15_Act R2_0 g166.1 g166.2).2.1.gr fB) (cellAt w (sb V2_0) (so V2_0 + Int.toNat s112.1 * 8 + 7)) ((N_rickyardlaw15_Act R2_0 g166.1 g166.2).2.2.gr fB) a158 a159 a160 a161 n111 (OffR.new (N_rickyardlaw15_Act R2_0 g166.1 g166.2).2.1 z36 rfl) (OffRV.call (N_rickyardlaw15_Act R2_0 g166.1 g166.2).2.1 o138 rfl) (OffRV.call (N_rickyardlaw15_Act R2_0 g166.1 g166.2).2.1 o141 rfl) (OffR.new (N_rickyardlaw15_Act R2_0 g166.1 g166.2).2.1 z88 rfl) (OffRV.call (N_rickyardlaw15_Act R2_0 g166.1 g166.2).2.1 o144 rfl) (OffRV.call (N_rickyardlaw15_Act R2_0 g166.1 g166.2).2.1 o147 rfl) (OffRV.call (N_rickyardlaw15_Act R2_0 g166.1 g166.2).2.1 o150 rfl) (OffRV.call (N_rickyardlaw15_Act R2_0 g166.1 g166.2).2.1 o153 rfl) (OffRV.call (N_rickyardlaw15_Act R2_0 g166.1 g166.2).2.1 o156 rfl) (OffR.new (N_rickyardlaw15_Act R2_0 g166.1 g166.2).2.2 z36 rfl) (OffRV.call (N_rickyardlaw15_Act R2_0 g166.1 g166.2).2.2 o138 rfl) (OffRV.call (N_rickyardlaw15_Act R2_0 g166.1 g166.2).2.2 o141 rfl) (OffR.new (N_rickyardlaw15_Act R2_0 g166.1 g166.2).2.2 z88 rfl) (OffRV.call (N_rickyardlaw15_Act R2_0 g166.1 g166.2).2.2 o144 rfl) (OffRV.call (N_rickyardlaw15_Act R2_0 g166.1 g166.2).2.2 o147 rfl) (OffRV.call (N_rickyardlaw15_Act R2_0 g166.1 g166.2).2.2 o150 rfl) (OffRV.call (N_rickyardlaw15_Act R2_0 g166.1 g166.2).2.2 o153 rfl) (OffRV.call (N_rickyardlaw15_Act R2_0 g166.1 g166.2).2.2 o156 rfl) _ k206)) rfl rfl rfl ?_
   rintro _ w242 ⟨u208, u212, u216, u220, u224, u228, u232, o209, m210, o213, m214, o217, m218, o221, m222, o225, m226, o229, m230, o233, m234, a236, a237, a238, a239, rfl, b37, b89, q207⟩
   have o209 := Own.rebase o209 (fun g hg => (m210 g hg).elim (fun x => Nat.le_trans fB.size x) (c241 g))
   have o213 := Own.rebase o213 (fun g hg => (m214 g hg).elim (fun x => Nat.le_trans fB.size x) (c241 g))
   have o217 := Own.rebase o217 (fun g hg => (m218 g hg).elim (fun x => Nat.le_trans fB.size x) (c241 g))
   have o221 := Own.rebase o221 (fun g hg => (m222 g hg).elim (fun x => Nat.le_trans fB.size x) (c241 g))
   have o225 := Own.rebase o225 (fun g hg => (m226 g hg).elim (fun x => Nat.le_trans fB.size x) (c241 g))
   have o229 := Own.rebase o229 (fun g hg => (m230 g hg).elim (fun x => Nat.le_trans fB.size x) (c241 g))
   have o233 := Own.rebase o233 (fun g hg => (m234 g hg).elim (fun x => Nat.le_trans fB.size x) (c241 g))
   have b2 := b2.fr q207 f240
   have fB := fB.call q207 (fun k h => .inl (c241 k h))
   refine ol_nil ?_
   refine blk_i ?_
   refine cw_region ?_
   refine ol_val (v := .int .i64 s112.1) (by exact xr_move rfl e11) rfl rfl rfl ?_
   refine ol_val (v := .int .i64 (IntKind.i64.wrap (s112.1 + 1))) (by exact xr_add rfl rfl rfl) rfl rfl rfl ?_
   refine ol_val (v := .int .i64 (IntKind.i64.wrap (s112.1 + 1))) (by exact xr_assign rfl rfl) rfl rfl rfl ?_
   refine ol_nil ?_
   obtain rfl := Option.some.inj h
   refine lp_in ?_
   exact ⟨u208, u212, u216, u220, u224, u228, u232, o209, o213, o217, o221, o225, o229, o233, a236, a237, a238, a239, e2, e3, e7, e8, e10, rfl, b2, b37, b89, fB⟩
  refine cw_condF rfl c165 ?_
  refine cw_exit ?_
  repeat (first | with_reducible refine thn_e ?_ | with_reducible refine blk_e rfl ?_)
  obtain rfl := Option.some.inj h
  refine lp_exit ?_
  rintro rfl
  refine thn_x ?_
  exact ⟨v137, v140, v143, v146, v149, v152, v155, o138, o141, e3, e7, e8, b2, b37, fB⟩
 rintro ρ243 w244 ⟨v116, v119, v122, v125, v128, v131, v134, o117, o120, e3, e7, e8, b2, b37, fB⟩
 have h := h115
 refine cw_seq ?_
 refine cw_region ?_
 refine ol_val (v := .pointer (some ⟨G35, 0, none⟩)) (by exact xr_move rfl e8) rfl rfl rfl ?_
 obtain ⟨t245, k246, h⟩ := bs h
 have f256 := (nb_or n45 (nb_or (nb_off (off_ty b2 o117 (by decide))) (nb_off (off_ty b2 o120 (by decide)))))
 have c257 : ∀ k, (k = G35 ∨ some k = Value.ownBlock v116 ∨ some k = Value.ownBlock v119) → w.heap.size ≤ k := (cv_or (cv_eq z36) (cv_or (cv_own o117.geO) (cv_own o120.geO)))
 refine ol_op (by exact opv_call rfl cal32 (ac rfl (ac rfl an)) (pmem_Device_Crash.ok fu _ (⟨e113.1, (⟨e113.2.1, e113.2.2.1⟩ : S_pmem_plan), e113.2.2.2.1, e113.2.2.2.2.1, e113.2.2.2.2.2.1, e113.2.2.2.2.2.2.1⟩ : S_pmem_Device) G35 v116 (Own.base o117 (Nat.zero_le _)) v119 (Own.base o120 (Nat.zero_le _)) b37 [] (.slice none 0 0) (Rd.nil (kI .i64) _) (OffR.nil _ _) (OffRV.nilL _ _) (OffRV.nilL _ _) _ k246)) rfl rfl rfl ?_
 rintro _ w258 ⟨u248, u252, o249, m250, o253, m254, rfl, b37, q247⟩
 have o249 := Own.rebase o249 (fun g hg => (m250 g hg).elim (fun x => Nat.le_trans fB.size x) (c257 g))
 have o253 := Own.rebase o253 (fun g hg => (m254 g hg).elim (fun x => Nat.le_trans fB.size x) (c257 g))
 have b2 := b2.fr q247 f256
 have fB := fB.call q247 (fun k h => .inl (c257 k h))
 refine ol_nil ?_
 refine cw_seq ?_
 refine cw_region ?_
 refine ol_val (v := .pointer (some ⟨G35, 0, none⟩)) (by exact xr_move rfl e8) rfl rfl rfl ?_
 refine ol_val (v := .int .i64 (Int.tmod (IntKind.i64.wrap a1) 5)) (by exact xr_move rfl e7) rfl rfl rfl ?_
 obtain ⟨t259, k260, h⟩ := bs h
 refine ol_op (by exact opv_call rfl cal55 (ac rfl (ac rfl an)) (press_Read.ok fu _ t245 G35 u248 (o249.rd) u252 (o253.rd) b37 (Int.tmod (IntKind.i64.wrap a1) 5) _ k260)) rfl rfl rfl ?_
 rintro _ w265 ⟨u261, o262, rfl, q264⟩
 have o262 := Own.base o262 fB.size
 have b2 := b2.gr q264
 have b37 := b37.gr q264
 have o249 := o249.gr q264
 have o253 := o253.gr q264
 have fB := fB.gr q264
 refine ol_val (v := .tuple #[u261, .int .i64 t259.2]) (by exact xr_move rfl rfl) rfl rfl rfl ?_
 refine ol_val (v := u261) (by exact xr_extract rfl rfl rfl) rfl rfl rfl ?_
 refine ol_val (v := .int .i64 t259.2) (by exact xr_extract rfl rfl rfl) rfl rfl rfl ?_
 refine ol_val (v := u261) (by exact xr_assign rfl rfl) rfl rfl rfl ?_
 refine ol_val (v := .int .i64 t259.2) (by exact xr_assign rfl rfl) rfl rfl rfl ?_
 refine ol_nil ?_
 refine cw_seq ?_
 refine cw_region ?_
 refine ol_val (v := .pointer (some ⟨G35, 0, none⟩)) (by exact xr_move rfl e8) rfl rfl rfl ?_
 refine ol_val (v := .int .i64 (Int.tmod (IntKind.i64.wrap a1) 5)) (by exact xr_move rfl e7) rfl rfl rfl ?_
 obtain ⟨t266, k267, h⟩ := bs h
 refine ol_op (by exact opv_call rfl cal56 (ac rfl (ac rfl an)) (press_Lasts.ok fu _ t245 G35 u248 (o249.rd) u252 (o253.rd) b37 (Int.tmod (IntKind.i64.wrap a1) 5) _ k267)) rfl rfl rfl ?_
 rintro _ w272 ⟨u268, o269, rfl, q271⟩
 have a273 := OffV.call o262 o269
 have o269 := Own.base o269 fB.size
 have b2 := b2.gr q271
 have o262 := o262.gr q271
 have fB := fB.gr q271
 refine ol_val (v := .tuple #[u268, .bool t266.2]) (by exact xr_move rfl rfl) rfl rfl rfl ?_
 refine ol_val (v := u268) (by exact xr_extract rfl rfl rfl) rfl rfl rfl ?_
 refine ol_val (v := .bool t266.2) (by exact xr_extract rfl rfl rfl) rfl rfl rfl ?_
 refine ol_val (v := u268) (by exact xr_assign rfl rfl) rfl rfl rfl ?_
 refine ol_val (v := .bool t266.2) (by exact xr_assign rfl rfl) rfl rfl rfl ?_
 refine ol_nil ?_
 refine cw_seq ?_
 refine cw_mid (fun ρ' w' => ρ' 6 = .bool (if (decide (t259.2 = 0)) = true then (if (decide ((List.map toB t259.1) = (List.map toB (Arr.l a0)))) = true then (if t266.2 = true then (decide ((List.map toB t266.1) = (List.map toB (Arr.l a0)))) else false) else false) else false) ∧ Gr w272 w') ?_ ?_
 ·skip
  rcases bt (decide (t259.2 = 0)) with c274 | c274
  ·skip
   rcases bt (decide ((List.map toB t259.1) = (List.map toB (Arr.l a0)))) with c275 | c275
   ·skip
    rcases bt t266.2 with c276 | c276
    ·skip
     refine cw_drawL 18 [fun vz wz => vz = (.int .i64 t259.2 : Value), fun vz wz => vz = (.bool (decide (t259.2 = 0)) : Value), fun vz wz => vz = (.bool (decide (t259.2 = 0)) : Value), fun vz wz => vz = (u261 : Value), fun vz wz => vz = (sv (List.map toB t259.1) : Value), fun vz wz => vz = (.slice (some ⟨G1, 0, none⟩) 64 64 : Value), fun vz wz => vz = (sv (List.map toB (Arr.l a0)) : Value), fun vz wz => vz = (.bool (decide ((List.map toB t259.1) = (List.map toB (Arr.l a0)))) : Value), fun vz wz => vz = (.bool (decide ((List.map toB t259.1) = (List.map toB (Arr.l a0)))) : Value), fun vz wz => vz = (.bool (decide ((List.map toB t259.1) = (List.map toB (Arr.l a0)))) : Value), fun vz wz => vz = (.bool t266.2 : Value), fun vz wz => vz = (.bool t266.2 : Value), fun vz wz => vz = (.bool t266.2 : Value), fun vz wz => vz = (u268 : Value), fun vz wz => vz = (sv (List.map toB t266.1) : Value), fun vz wz => vz = (.slice (some ⟨G1, 0, none⟩) 64 64 : Value), fun vz wz => vz = (sv (List.map toB (Arr.l a0)) : Value), fun vz wz => vz = (.bool (decide ((List.map toB t266.1) = (List.map toB (Arr.l a0)))) : Value)] mo rfl ⟨fun _ _ _ h _ => h, fun _ _ _ h _ => h, fun _ _ _ h _ => h, fun _ _ _ h _ => h, fun _ _ _ h _ => h, fun _ _ _ h _ => h, fun _ _ _ h _ => h, fun _ _ _ h _ => h, fun _ _ _ h _ => h, fun _ _ _ h _ => h, fun _ _ _ h _ => h, fun _ _ _ h _ => h, fun _ _ _ h _ => h, fun _ _ _ h _ => h, fun _ _ _ h _ => h, fun _ _ _ h _ => h, fun _ _ _ h _ => h, fun _ _ _ h _ => h, trivial⟩ ?_ ?_
     ·refine ⟨?_, ?_, ?_, ?_, ?_, ?_, ?_, ?_, ?_, ?_, ?_, ?_, ?_, ?_, ?_, ?_, ?_, ?_, trivial⟩
      ·intro ρz wz hz hk hd
       exact sk_val (v := .int .i64 t259.2) (by exact xr_move rfl ((hk 15 rfl).trans rfl)) rfl rfl
      ·intro ρz wz hz hk hd
       have d126 := hd 0 rfl 126 rfl
       exact sk_val (v := .bool (decide (t259.2 = 0))) (by exact xr_eqI rfl Try.underlying31 rfl d126 rfl) rfl rfl
      ·intro ρz wz hz hk hd
       have d127 := hd 1 rfl 127 rfl
       exact sk_val (v := .bool (decide (t259.2 = 0))) (by exact xr_move rfl d127) rfl rfl
      ·intro ρz wz hz hk hd
       have d128 := hd 2 rfl 128 rfl
       exact sk_gval (v := u261) (by exact xr_move rfl ((hk 14 rfl).trans rfl)) rfl rfl d128 c274 rfl
      ·intro ρz wz hz hk hd
       have d129 := hd 3 rfl 129 rfl
       have d128 := hd 2 rfl 128 rfl
       exact sk_gval (v := sv (List.map toB t259.1)) (by exact xr_toStr rfl Try.underlying43 Try.underlying5 Try.underlying9 d129 (o262.gr hz).rd) rfl rfl d128 c274 rfl
      ·intro ρz wz hz hk hd
       have d128 := hd 2 rfl 128 rfl
       exact sk_gval (v := .slice (some ⟨G1, 0, none⟩) 64 64) (by exact xr_sliceArr rfl Try.underlying71 sz5 ((hk 3 rfl).trans e3)) rfl rfl d128 c274 rfl
      ·intro ρz wz hz hk hd
       have d131 := hd 5 rfl 131 rfl
       have d128 := hd 2 rfl 128 rfl
       exact sk_gval (v := sv (List.map toB (Arr.l a0))) (by exact xr_toStr rfl Try.underlying43 Try.underlying5 Try.underlying9 d131 (Rd.arr ((b2.gr hz).seg 0 rfl rfl))) rfl rfl d128 c274 rfl
      ·intro ρz wz hz hk hd
       have d130 := hd 4 rfl 130 rfl
       have d132 := hd 6 rfl 132 rfl
       have d128 := hd 2 rfl 128 rfl
       exact sk_gval (by exact xr_eqStr rfl Try.underlying9 d130 d132) rfl rfl d128 c274 rfl
      ·intro ρz wz hz hk hd
       have d128 := hd 2 rfl 128 rfl
       have d133 := hd 7 rfl 133 rfl
       exact sk_val (by exact xr_pickT rfl d128 c274 d133) rfl rfl
      ·intro ρz wz hz hk hd
       have d134 := hd 8 rfl 134 rfl
       exact sk_val (by exact xr_move rfl d134) rfl rfl
      ·intro ρz wz hz hk hd
       have d135 := hd 9 rfl 135 rfl
       exact sk_gval (v := .bool t266.2) (by exact xr_move rfl ((hk 17 rfl).trans rfl)) rfl rfl d135 c275 rfl
      ·intro ρz wz hz hk hd
       have d135 := hd 9 rfl 135 rfl
       have d136 := hd 10 rfl 136 rfl
       exact sk_val (v := .bool t266.2) (by exact xr_pickT rfl d135 c275 d136) rfl rfl
      ·intro ρz wz hz hk hd
       have d137 := hd 11 rfl 137 rfl
       exact sk_val (v := .bool t266.2) (by exact xr_move rfl d137) rfl rfl
      ·intro ρz wz hz hk hd
       have d138 := hd 12 rfl 138 rfl
       exact sk_gval (v := u268) (by exact xr_move rfl ((hk 16 rfl).trans rfl)) rfl rfl d138 c276 rfl
      ·intro ρz wz hz hk hd
       have d139 := hd 13 rfl 139 rfl
       have d138 := hd 12 rfl 138 rfl
       exact sk_gval (v := sv (List.map toB t266.1)) (by exact xr_toStr rfl Try.underlying43 Try.underlying5 Try.underlying9 d139 (o269.gr hz).rd) rfl rfl d138 c276 rfl
      ·intro ρz wz hz hk hd
       have d138 := hd 12 rfl 138 rfl
       exact sk_gval (v := .slice (some ⟨G1, 0, none⟩) 64 64) (by exact xr_sliceArr rfl Try.underlying71 sz5 ((hk 3 rfl).trans e3)) rfl rfl d138 c276 rfl
      ·intro ρz wz hz hk hd
       have d141 := hd 15 rfl 141 rfl
       have d138 := hd 12 rfl 138 rfl
       exact sk_gval (v := sv (List.map toB (Arr.l a0))) (by exact xr_toStr rfl Try.underlying43 Try.underlying5 Try.underlying9 d141 (Rd.arr ((b2.gr hz).seg 0 rfl rfl))) rfl rfl d138 c276 rfl
      intro ρz wz hz hk hd
      have d140 := hd 14 rfl 140 rfl
      have d142 := hd 16 rfl 142 rfl
      have d138 := hd 12 rfl 138 rfl
      exact sk_gval (by exact xr_eqStr rfl Try.underlying9 d140 d142) rfl rfl d138 c276 rfl
     intro ρ277 w278 q279 hk hd
     have e138 := hd 12 rfl 138 rfl
     have e143 := hd 17 rfl 143 rfl
     have fB := fB.gr q279
     refine ol_val (v := .bool (decide ((List.map toB t266.1) = (List.map toB (Arr.l a0))))) (by exact xr_pickT rfl e138 c276 e143) rfl rfl rfl ?_
     refine ol_val (v := .bool (decide ((List.map toB t266.1) = (List.map toB (Arr.l a0))))) (by exact xr_assign rfl rfl) rfl rfl rfl ?_
     refine ol_nil ?_
     refine thn_i ?_
     exact ⟨(rfl).trans (congrArg (fun z => (.bool z : Value)) (show (decide ((List.map toB t266.1) = (List.map toB (Arr.l a0)))) = (if (decide (t259.2 = 0)) = true then (if (decide ((List.map toB t259.1) = (List.map toB (Arr.l a0)))) = true then (if t266.2 = true then (decide ((List.map toB t266.1) = (List.map toB (Arr.l a0)))) else false) else false) else false) from by rw [ite_t c274, ite_t c275, ite_t c276])), q279⟩
    refine cw_drawL 18 [fun vz wz => vz = (.int .i64 t259.2 : Value), fun vz wz => vz = (.bool (decide (t259.2 = 0)) : Value), fun vz wz => vz = (.bool (decide (t259.2 = 0)) : Value), fun vz wz => vz = (u261 : Value), fun vz wz => vz = (sv (List.map toB t259.1) : Value), fun vz wz => vz = (.slice (some ⟨G1, 0, none⟩) 64 64 : Value), fun vz wz => vz = (sv (List.map toB (Arr.l a0)) : Value), fun vz wz => vz = (.bool (decide ((List.map toB t259.1) = (List.map toB (Arr.l a0)))) : Value), fun vz wz => vz = (.bool (decide ((List.map toB t259.1) = (List.map toB (Arr.l a0)))) : Value), fun vz wz => vz = (.bool (decide ((List.map toB t259.1) = (List.map toB (Arr.l a0)))) : Value), fun vz wz => vz = (.bool t266.2 : Value), fun vz wz => vz = (.bool t266.2 : Value), fun vz wz => vz = (.bool t266.2 : Value), fun vz _ => vz = undef, fun vz _ => vz = undef, fun vz _ => vz = undef, fun vz _ => vz = undef, fun vz _ => vz = undef] mo rfl ⟨fun _ _ _ h _ => h, fun _ _ _ h _ => h, fun _ _ _ h _ => h, fun _ _ _ h _ => h, fun _ _ _ h _ => h, fun _ _ _ h _ => h, fun _ _ _ h _ => h, fun _ _ _ h _ => h, fun _ _ _ h _ => h, fun _ _ _ h _ => h, fun _ _ _ h _ => h, fun _ _ _ h _ => h, fun _ _ _ h _ => h, fun _ _ _ h _ => h, fun _ _ _ h _ => h, fun _ _ _ h _ => h, fun _ _ _ h _ => h, fun _ _ _ h _ => h, trivial⟩ ?_ ?_
    ·refine ⟨?_, ?_, ?_, ?_, ?_, ?_, ?_, ?_, ?_, ?_, ?_, ?_, ?_, ?_, ?_, ?_, ?_, ?_, trivial⟩
     ·intro ρz wz hz hk hd
      exact sk_val (v := .int .i64 t259.2) (by exact xr_move rfl ((hk 15 rfl).trans rfl)) rfl rfl
     ·intro ρz wz hz hk hd
      have d126 := hd 0 rfl 126 rfl
      exact sk_val (v := .bool (decide (t259.2 = 0))) (by exact xr_eqI rfl Try.underlying31 rfl d126 rfl) rfl rfl
     ·intro ρz wz hz hk hd
      have d127 := hd 1 rfl 127 rfl
      exact sk_val (v := .bool (decide (t259.2 = 0))) (by exact xr_move rfl d127) rfl rfl
     ·intro ρz wz hz hk hd
      have d128 := hd 2 rfl 128 rfl
      exact sk_gval (v := u261) (by exact xr_move rfl ((hk 14 rfl).trans rfl)) rfl rfl d128 c274 rfl
     ·intro ρz wz hz hk hd
      have d129 := hd 3 rfl 129 rfl
      have d128 := hd 2 rfl 128 rfl
      exact sk_gval (v := sv (List.map toB t259.1)) (by exact xr_toStr rfl Try.underlying43 Try.underlying5 Try.underlying9 d129 (o262.gr hz).rd) rfl rfl d128 c274 rfl
     ·intro ρz wz hz hk hd
      have d128 := hd 2 rfl 128 rfl
      exact sk_gval (v := .slice (some ⟨G1, 0, none⟩) 64 64) (by exact xr_sliceArr rfl Try.underlying71 sz5 ((hk 3 rfl).trans e3)) rfl rfl d128 c274 rfl
     ·intro ρz wz hz hk hd
      have d131 := hd 5 rfl 131 rfl
      have d128 := hd 2 rfl 128 rfl
      exact sk_gval (v := sv (List.map toB (Arr.l a0))) (by exact xr_toStr rfl Try.underlying43 Try.underlying5 Try.underlying9 d131 (Rd.arr ((b2.gr hz).seg 0 rfl rfl))) rfl rfl d128 c274 rfl
     ·intro ρz wz hz hk hd
      have d130 := hd 4 rfl 130 rfl
      have d132 := hd 6 rfl 132 rfl
      have d128 := hd 2 rfl 128 rfl
      exact sk_gval (by exact xr_eqStr rfl Try.underlying9 d130 d132) rfl rfl d128 c274 rfl
     ·intro ρz wz hz hk hd
      have d128 := hd 2 rfl 128 rfl
      have d133 := hd 7 rfl 133 rfl
      exact sk_val (by exact xr_pickT rfl d128 c274 d133) rfl rfl
     ·intro ρz wz hz hk hd
      have d134 := hd 8 rfl 134 rfl
      exact sk_val (by exact xr_move rfl d134) rfl rfl
     ·intro ρz wz hz hk hd
      have d135 := hd 9 rfl 135 rfl
      exact sk_gval (v := .bool t266.2) (by exact xr_move rfl ((hk 17 rfl).trans rfl)) rfl rfl d135 c275 rfl
     ·intro ρz wz hz hk hd
      have d135 := hd 9 rfl 135 rfl
      have d136 := hd 10 rfl 136 rfl
      exact sk_val (v := .bool t266.2) (by exact xr_pickT rfl d135 c275 d136) rfl rfl
     ·intro ρz wz hz hk hd
      have d137 := hd 11 rfl 137 rfl
      exact sk_val (v := .bool t266.2) (by exact xr_move rfl d137) rfl rfl
     ·intro ρz wz hz hk hd
      have d138 := hd 12 rfl 138 rfl
      exact sk_skip rfl rfl d138 c276 rfl
     ·intro ρz wz hz hk hd
      have d138 := hd 12 rfl 138 rfl
      exact sk_skip rfl rfl d138 c276 rfl
     ·intro ρz wz hz hk hd
      have d138 := hd 12 rfl 138 rfl
      exact sk_skip rfl rfl d138 c276 rfl
     ·intro ρz wz hz hk hd
      have d138 := hd 12 rfl 138 rfl
      exact sk_skip rfl rfl d138 c276 rfl
     intro ρz wz hz hk hd
     have d138 := hd 12 rfl 138 rfl
     exact sk_skip rfl rfl d138 c276 rfl
    intro ρ280 w281 q282 hk hd
    have e138 := hd 12 rfl 138 rfl
    have fB := fB.gr q282
    refine ol_val (v := .bool false) (by exact xr_pickF rfl e138 c276 rfl) rfl rfl rfl ?_
    refine ol_val (v := .bool false) (by exact xr_assign rfl rfl) rfl rfl rfl ?_
    refine ol_nil ?_
    refine thn_i ?_
    exact ⟨(rfl).trans (congrArg (fun z => (.bool z : Value)) (show false = (if (decide (t259.2 = 0)) = true then (if (decide ((List.map toB t259.1) = (List.map toB (Arr.l a0)))) = true then (if t266.2 = true then (decide ((List.map toB t266.1) = (List.map toB (Arr.l a0)))) else false) else false) else false) from by rw [ite_t c274, ite_t c275, ite_f c276])), q282⟩
   refine cw_drawL 18 [fun vz wz => vz = (.int .i64 t259.2 : Value), fun vz wz => vz = (.bool (decide (t259.2 = 0)) : Value), fun vz wz => vz = (.bool (decide (t259.2 = 0)) : Value), fun vz wz => vz = (u261 : Value), fun vz wz => vz = (sv (List.map toB t259.1) : Value), fun vz wz => vz = (.slice (some ⟨G1, 0, none⟩) 64 64 : Value), fun vz wz => vz = (sv (List.map toB (Arr.l a0)) : Value), fun vz wz => vz = (.bool (decide ((List.map toB t259.1) = (List.map toB (Arr.l a0)))) : Value), fun vz wz => vz = (.bool (decide ((List.map toB t259.1) = (List.map toB (Arr.l a0)))) : Value), fun vz wz => vz = (.bool (decide ((List.map toB t259.1) = (List.map toB (Arr.l a0)))) : Value), fun vz _ => vz = undef, fun vz wz => vz = (.bool false : Value), fun vz wz => vz = (.bool false : Value), fun vz _ => vz = undef, fun vz _ => vz = undef, fun vz _ => vz = undef, fun vz _ => vz = undef, fun vz _ => vz = undef] mo rfl ⟨fun _ _ _ h _ => h, fun _ _ _ h _ => h, fun _ _ _ h _ => h, fun _ _ _ h _ => h, fun _ _ _ h _ => h, fun _ _ _ h _ => h, fun _ _ _ h _ => h, fun _ _ _ h _ => h, fun _ _ _ h _ => h, fun _ _ _ h _ => h, fun _ _ _ h _ => h, fun _ _ _ h _ => h, fun _ _ _ h _ => h, fun _ _ _ h _ => h, fun _ _ _ h _ => h, fun _ _ _ h _ => h, fun _ _ _ h _ => h, fun _ _ _ h _ => h, trivial⟩ ?_ ?_
   ·refine ⟨?_, ?_, ?_, ?_, ?_, ?_, ?_, ?_, ?_, ?_, ?_, ?_, ?_, ?_, ?_, ?_, ?_, ?_, trivial⟩
    ·intro ρz wz hz hk hd
     exact sk_val (v := .int .i64 t259.2) (by exact xr_move rfl ((hk 15 rfl).trans rfl)) rfl rfl
    ·intro ρz wz hz hk hd
     have d126 := hd 0 rfl 126 rfl
     exact sk_val (v := .bool (decide (t259.2 = 0))) (by exact xr_eqI rfl Try.underlying31 rfl d126 rfl) rfl rfl
    ·intro ρz wz hz hk hd
     have d127 := hd 1 rfl 127 rfl
     exact sk_val (v := .bool (decide (t259.2 = 0))) (by exact xr_move rfl d127) rfl rfl
    ·intro ρz wz hz hk hd
     have d128 := hd 2 rfl 128 rfl
     exact sk_gval (v := u261) (by exact xr_move rfl ((hk 14 rfl).trans rfl)) rfl rfl d128 c274 rfl
    ·intro ρz wz hz hk hd
     have d129 := hd 3 rfl 129 rfl
     have d128 := hd 2 rfl 128 rfl
     exact sk_gval (v := sv (List.map toB t259.1)) (by exact xr_toStr rfl Try.underlying43 Try.underlying5 Try.underlying9 d129 (o262.gr hz).rd) rfl rfl d128 c274 rfl
    ·intro ρz wz hz hk hd
     have d128 := hd 2 rfl 128 rfl
     exact sk_gval (v := .slice (some ⟨G1, 0, none⟩) 64 64) (by exact xr_sliceArr rfl Try.underlying71 sz5 ((hk 3 rfl).trans e3)) rfl rfl d128 c274 rfl
    ·intro ρz wz hz hk hd
     have d131 := hd 5 rfl 131 rfl
     have d128 := hd 2 rfl 128 rfl
     exact sk_gval (v := sv (List.map toB (Arr.l a0))) (by exact xr_toStr rfl Try.underlying43 Try.underlying5 Try.underlying9 d131 (Rd.arr ((b2.gr hz).seg 0 rfl rfl))) rfl rfl d128 c274 rfl
    ·intro ρz wz hz hk hd
     have d130 := hd 4 rfl 130 rfl
     have d132 := hd 6 rfl 132 rfl
     have d128 := hd 2 rfl 128 rfl
     exact sk_gval (by exact xr_eqStr rfl Try.underlying9 d130 d132) rfl rfl d128 c274 rfl
    ·intro ρz wz hz hk hd
     have d128 := hd 2 rfl 128 rfl
     have d133 := hd 7 rfl 133 rfl
     exact sk_val (by exact xr_pickT rfl d128 c274 d133) rfl rfl
    ·intro ρz wz hz hk hd
     have d134 := hd 8 rfl 134 rfl
     exact sk_val (by exact xr_move rfl d134) rfl rfl
    ·intro ρz wz hz hk hd
     have d135 := hd 9 rfl 135 rfl
     exact sk_skip rfl rfl d135 c275 rfl
    ·intro ρz wz hz hk hd
     have d135 := hd 9 rfl 135 rfl
     exact sk_val (v := .bool false) (by exact xr_pickF rfl d135 c275 rfl) rfl rfl
    ·intro ρz wz hz hk hd
     have d137 := hd 11 rfl 137 rfl
     exact sk_val (v := .bool false) (by exact xr_move rfl d137) rfl rfl
    ·intro ρz wz hz hk hd
     have d138 := hd 12 rfl 138 rfl
     exact sk_skip rfl rfl d138 rfl rfl
    ·intro ρz wz hz hk hd
     have d138 := hd 12 rfl 138 rfl
     exact sk_skip rfl rfl d138 rfl rfl
    ·intro ρz wz hz hk hd
     have d138 := hd 12 rfl 138 rfl
     exact sk_skip rfl rfl d138 rfl rfl
    ·intro ρz wz hz hk hd
     have d138 := hd 12 rfl 138 rfl
     exact sk_skip rfl rfl d138 rfl rfl
    intro ρz wz hz hk hd
    have d138 := hd 12 rfl 138 rfl
    exact sk_skip rfl rfl d138 rfl rfl
   intro ρ283 w284 q285 hk hd
   have e138 := hd 12 rfl 138 rfl
   have fB := fB.gr q285
   refine ol_val (v := .bool false) (by exact xr_pickF rfl e138 rfl rfl) rfl rfl rfl ?_
   refine ol_val (v := .bool false) (by exact xr_assign rfl rfl) rfl rfl rfl ?_
   refine ol_nil ?_
   refine thn_i ?_
   exact ⟨(rfl).trans (congrArg (fun z => (.bool z : Value)) (show false = (if (decide (t259.2 = 0)) = true then (if (decide ((List.map toB t259.1) = (List.map toB (Arr.l a0)))) = true then (if t266.2 = true then (decide ((List.map toB t266.1) = (List.map toB (Arr.l a0)))) else false) else false) else false) from by rw [ite_t c274, ite_f c275])), q285⟩
  refine cw_drawL 18 [fun vz wz => vz = (.int .i64 t259.2 : Value), fun vz wz => vz = (.bool (decide (t259.2 = 0)) : Value), fun vz wz => vz = (.bool (decide (t259.2 = 0)) : Value), fun vz _ => vz = undef, fun vz _ => vz = undef, fun vz _ => vz = undef, fun vz _ => vz = undef, fun vz _ => vz = undef, fun vz wz => vz = (.bool false : Value), fun vz wz => vz = (.bool false : Value), fun vz _ => vz = undef, fun vz wz => vz = (.bool false : Value), fun vz wz => vz = (.bool false : Value), fun vz _ => vz = undef, fun vz _ => vz = undef, fun vz _ => vz = undef, fun vz _ => vz = undef, fun vz _ => vz = undef] mo rfl ⟨fun _ _ _ h _ => h, fun _ _ _ h _ => h, fun _ _ _ h _ => h, fun _ _ _ h _ => h, fun _ _ _ h _ => h, fun _ _ _ h _ => h, fun _ _ _ h _ => h, fun _ _ _ h _ => h, fun _ _ _ h _ => h, fun _ _ _ h _ => h, fun _ _ _ h _ => h, fun _ _ _ h _ => h, fun _ _ _ h _ => h, fun _ _ _ h _ => h, fun _ _ _ h _ => h, fun _ _ _ h _ => h, fun _ _ _ h _ => h, fun _ _ _ h _ => h, trivial⟩ ?_ ?_
  ·refine ⟨?_, ?_, ?_, ?_, ?_, ?_, ?_, ?_, ?_, ?_, ?_, ?_, ?_, ?_, ?_, ?_, ?_, ?_, trivial⟩
   ·intro ρz wz hz hk hd
    exact sk_val (v := .int .i64 t259.2) (by exact xr_move rfl ((hk 15 rfl).trans rfl)) rfl rfl
   ·intro ρz wz hz hk hd
    have d126 := hd 0 rfl 126 rfl
    exact sk_val (v := .bool (decide (t259.2 = 0))) (by exact xr_eqI rfl Try.underlying31 rfl d126 rfl) rfl rfl
   ·intro ρz wz hz hk hd
    have d127 := hd 1 rfl 127 rfl
    exact sk_val (v := .bool (decide (t259.2 = 0))) (by exact xr_move rfl d127) rfl rfl
   ·intro ρz wz hz hk hd
    have d128 := hd 2 rfl 128 rfl
    exact sk_skip rfl rfl d128 c274 rfl
   ·intro ρz wz hz hk hd
    have d128 := hd 2 rfl 128 rfl
    exact sk_skip rfl rfl d128 c274 rfl
   ·intro ρz wz hz hk hd
    have d128 := hd 2 rfl 128 rfl
    exact sk_skip rfl rfl d128 c274 rfl
   ·intro ρz wz hz hk hd
    have d128 := hd 2 rfl 128 rfl
    exact sk_skip rfl rfl d128 c274 rfl
   ·intro ρz wz hz hk hd
    have d128 := hd 2 rfl 128 rfl
    exact sk_skip rfl rfl d128 c274 rfl
   ·intro ρz wz hz hk hd
    have d128 := hd 2 rfl 128 rfl
    exact sk_val (v := .bool false) (by exact xr_pickF rfl d128 c274 rfl) rfl rfl
   ·intro ρz wz hz hk hd
    have d134 := hd 8 rfl 134 rfl
    exact sk_val (v := .bool false) (by exact xr_move rfl d134) rfl rfl
   ·intro ρz wz hz hk hd
    have d135 := hd 9 rfl 135 rfl
    exact sk_skip rfl rfl d135 rfl rfl
   ·intro ρz wz hz hk hd
    have d135 := hd 9 rfl 135 rfl
    exact sk_val (v := .bool false) (by exact xr_pickF rfl d135 rfl rfl) rfl rfl
   ·intro ρz wz hz hk hd
    have d137 := hd 11 rfl 137 rfl
    exact sk_val (v := .bool false) (by exact xr_move rfl d137) rfl rfl
   ·intro ρz wz hz hk hd
    have d138 := hd 12 rfl 138 rfl
    exact sk_skip rfl rfl d138 rfl rfl
   ·intro ρz wz hz hk hd
    have d138 := hd 12 rfl 138 rfl
    exact sk_skip rfl rfl d138 rfl rfl
   ·intro ρz wz hz hk hd
    have d138 := hd 12 rfl 138 rfl
    exact sk_skip rfl rfl d138 rfl rfl
   ·intro ρz wz hz hk hd
    have d138 := hd 12 rfl 138 rfl
    exact sk_skip rfl rfl d138 rfl rfl
   intro ρz wz hz hk hd
   have d138 := hd 12 rfl 138 rfl
   exact sk_skip rfl rfl d138 rfl rfl
  intro ρ286 w287 q288 hk hd
  have e138 := hd 12 rfl 138 rfl
  have fB := fB.gr q288
  refine ol_val (v := .bool false) (by exact xr_pickF rfl e138 rfl rfl) rfl rfl rfl ?_
  refine ol_val (v := .bool false) (by exact xr_assign rfl rfl) rfl rfl rfl ?_
  refine ol_nil ?_
  refine thn_i ?_
  exact ⟨(rfl).trans (congrArg (fun z => (.bool z : Value)) (show false = (if (decide (t259.2 = 0)) = true then (if (decide ((List.map toB t259.1) = (List.map toB (Arr.l a0)))) = true then (if t266.2 = true then (decide ((List.map toB t266.1) = (List.map toB (Arr.l a0)))) else false) else false) else false) from by rw [ite_f c274])), q288⟩
 rintro ρ289 w290 ⟨e6, q291⟩
 have fB := fB.gr q291
 refine cw_ret ?_
 repeat (first | with_reducible refine thn_r ?_ | with_reducible refine blk_r ?_)
 obtain rfl := Option.some.inj h
 refine fin_ret1 Try.results12 e6 ?_
 exact ⟨_, rfl, rfl, fB⟩
end Go.Proofs.Ytklhbaghbmndeaa

/- What a row's arguments are: the readings of arguments opened into records, lists and their facts. -/
set_option linter.unusedVariables false
set_option linter.unusedSimpArgs false
namespace Go.Xw
open Go
variable {P : Program} {w : World}
def Opn {α : Type} (P : Program) (w : World) (T : TypeId) (K : Kd α) (ok : α → Prop) : Prop :=
  ∀ {H : Type} (enc : TypeId × Value → H) (base : Nat) (sp : Nat → Bool) (held : Bool) (fuel : Nat) (cs : List Value) (x : DataW H × List MemPlace), DataW.trod enc P w base sp held fuel T cs = some x → ∃ a : α, cs = K.enc a ∧ ok a
theorem opn_int {T : TypeId} {k : IntKind} (ht : P.underlying T = some (.int k)) : Opn P w T (kI k) (fun n => (Lit.int k n).wf = true) := by
  intro H enc base sp held fuel cs x h
  obtain ⟨n, rfl, _, hw⟩ := DataW.trod_int ht h
  exact ⟨n, rfl, hw⟩
theorem chunks {α : Type} (K : Kd α) (ok : α → Prop) : ∀ (n : Nat) (cs : List Value), cs.length = n * K.size → (∀ i, i < n → ∃ a, (cs.drop (i * K.size)).take K.size = K.enc a ∧ ok a) → ∃ l : List α, l.length = n ∧ cs = l.flatMap K.enc ∧ ∀ a ∈ l, ok a
  | 0, cs, hl, _ => ⟨[], rfl, by simpa using hl, by simp⟩
  | n + 1, cs, hl, h => by
    obtain ⟨a, ha, hok⟩ := h 0 (by omega)
    rw [Nat.zero_mul, List.drop_zero] at ha
    have hl' : cs.length = n * K.size + K.size := by rw [hl, Nat.succ_mul]
    obtain ⟨l, h1, h2, h3⟩ := chunks K ok n (cs.drop K.size) (by rw [List.length_drop]; omega) (fun i hi => by
      have := h (i + 1) (by omega)
      rw [List.drop_drop, Nat.add_comm, ← Nat.succ_mul]
      exact this)
    refine ⟨a :: l, by simp [h1], ?_, ?_⟩
    · rw [List.flatMap_cons, ← h2, ← ha, List.take_append_drop]
    · intro b hb
      rcases List.mem_cons.1 hb with rfl | hb
      · exact hok
      · exact h3 b hb
theorem ms_len {α β : Type} {f : α → Option β} : ∀ {l : List α} {ys : List β}, l.mapM f = some ys → ys.length = l.length
  | [], ys, h => by simp at h; subst h; rfl
  | a :: l, ys, h => by
    rw [List.mapM_cons] at h
    obtain ⟨b, _, h⟩ := Option.bind_eq_some_iff.1 h
    obtain ⟨bs, hb, h⟩ := Option.bind_eq_some_iff.1 h
    simp at h
    subst h
    simp [ms_len hb]
theorem ms_get {α β : Type} {f : α → Option β} : ∀ {l : List α} {ys : List β}, l.mapM f = some ys → ∀ (i : Nat) (a : α), l[i]? = some a → ∃ y, ys[i]? = some y ∧ f a = some y
  | [], ys, h, i, a, ha => by simp at ha
  | b :: l, ys, h, i, a, ha => by
    rw [List.mapM_cons] at h
    obtain ⟨c, hc, h⟩ := Option.bind_eq_some_iff.1 h
    obtain ⟨bs, hb, h⟩ := Option.bind_eq_some_iff.1 h
    simp at h
    subst h
    cases i with
    | zero =>
      simp at ha
      subst ha
      exact ⟨c, rfl, hc⟩
    | succ i =>
      simp at ha
      obtain ⟨y, h1, h2⟩ := ms_get hb i a ha
      exact ⟨y, by simpa using h1, h2⟩
theorem trod_arr {H : Type} {enc : TypeId × Value → H} {base : Nat} {sp : Nat → Bool} {held : Bool} {fuel : Nat} {T e : TypeId} {n : Nat} {cs : List Value} {x : DataW H × List MemPlace} (ht : P.underlying T = some (.array n e)) (h : DataW.trod enc P w base sp held fuel T cs = some x) :
    cs.length = P.cellsOf T ∧ ∃ m, ∀ i, i < n → ∃ y, DataW.trod enc P w base sp held m e ((cs.drop (i * P.cellsOf e)).take (P.cellsOf e)) = some y := by
  cases fuel with
  | zero => simp [DataW.trod] at h
  | succ m =>
    unfold DataW.trod at h
    rw [ht] at h
    simp only at h
    split at h
    · rename_i hl
      refine ⟨hl, m, fun i hi => ?_⟩
      obtain ⟨xs, hx, _⟩ := Option.map_eq_some_iff.1 h
      obtain ⟨y, _, hy⟩ := ms_get hx i i (by simp [hi])
      exact ⟨y, hy⟩
    · cases h
theorem opn_arr {α : Type} {K : Kd α} {ok : α → Prop} {T e : TypeId} {n : Nat} (ht : P.underlying T = some (.array n e)) (hc : P.cellsOf T = n * P.cellsOf e) (he : P.cellsOf e = K.size) (ho : Opn P w e K ok) : Opn P w T (kA n K) (fun a => ∀ x ∈ a.l, ok x) := by
  intro H enc base sp held fuel cs x h
  obtain ⟨hl, m, hm⟩ := trod_arr ht h
  obtain ⟨l, h1, h2, h3⟩ := chunks K ok n cs (by rw [hl, hc, he]) (fun i hi => by
    obtain ⟨y, hy⟩ := hm i hi
    obtain ⟨a, ha⟩ := ho enc base sp held m _ y hy
    rw [he] at ha
    exact ⟨a, ha⟩)
  exact ⟨⟨l, h1⟩, h2, h3⟩
/-- The fields of a struct, one behind another. -/
theorem fld_cons {cs : List Value} {o n : Nat} {c r : List Value} (h : (cs.drop o).take n = c) (hr : cs.drop (o + n) = r) : cs.drop o = c ++ r := by
  rw [← h, ← hr, ← List.drop_drop, List.take_append_drop]
theorem trod_st {H : Type} {enc : TypeId × Value → H} {base : Nat} {sp : Nat → Bool} {held : Bool} {fuel : Nat} {T : TypeId} {fs : Array Field} {cs : List Value} {x : DataW H × List MemPlace} (ht : P.underlying T = some (.struct fs)) (h : DataW.trod enc P w base sp held fuel T cs = some x) :
    cs.length = P.cellsOf T ∧ ∃ m, ∀ (i : Nat) (f : Field), fs[i]? = some f → ∃ y, DataW.trod enc P w base sp held m f.type ((cs.drop f.offset).take (P.cellsOf f.type)) = some y := by
  obtain ⟨xs, m, _, _, hl, hn, hf⟩ := DataW.trod_struct ht h
  refine ⟨hl, m, fun i f hi => ?_⟩
  have hx : i < xs.length := by rw [hn]; exact (Array.getElem?_eq_some_iff.1 hi).1
  exact ⟨xs[i], by rw [hf i f hi, List.getElem?_eq_getElem hx]⟩
/-- Slices: a cell that reads as a list. -/
def OpnS {α : Type} (P : Program) (w : World) (T : TypeId) (K : Kd α) (ok : α → Prop) : Prop :=
  ∀ {H : Type} (enc : TypeId × Value → H) (base : Nat) (sp : Nat → Bool) (held : Bool) (fuel : Nat) (cs : List Value) (x : DataW H × List MemPlace), DataW.trod enc P w base sp held fuel T cs = some x → ∃ (l : List α) (V : Value), cs = [V] ∧ Rd K w V l ∧ (∀ a ∈ l, ok a) ∧ l.length ≤ maxLen ∧ (sb V < w.heap.size ∨ l = [])
theorem cells_get {base : Nat} {a : Addr} {n : Nat} {cs : List Value} (h : w.cells? base a n = some cs) : cs.length = n ∧ ∀ j, j < n → w.cell? (a.add j) = cs[j]? := by
  unfold World.cells? at h
  split at h
  · refine ⟨by simpa using ms_len h, fun j hj => ?_⟩
    obtain ⟨y, h1, h2⟩ := ms_get h j j (by simp [hj])
    rw [h1, h2]
  · cases h
theorem opn_slice {α : Type} {K : Kd α} {ok : α → Prop} {T e : TypeId} (ht : P.underlying T = some (.slice e)) (he : P.cellsOf e = K.size) (hk : 0 < K.size) (ho : Opn P w e K ok) : OpnS P w T K ok := by
  intro H enc base sp held fuel cs x h
  rcases DataW.trod_slice ht h with ⟨rfl, _⟩ | ⟨a, len, cap, elems, rest, n, rfl, rfl, _, _, hl, hm, hlen, hel, _, _⟩
  · exact ⟨[], _, rfl, Rd.nil K w, by simp, by simp, .inr rfl⟩
  · have hex : ∀ i, i < len → ∃ b, (∀ j z, (K.enc b)[j]? = some z → w.cell? (a.add (i * K.size + j)) = some z) ∧ ok b := by
      intro i hi
      have h1 := hel i hi
      rw [List.getElem?_eq_getElem (by omega)] at h1
      obtain ⟨cs, h2, h3⟩ := Option.bind_eq_some_iff.1 h1
      obtain ⟨b, rfl, hb⟩ := ho enc base sp held n cs _ h3
      obtain ⟨h4, h5⟩ := cells_get h2
      rw [he] at h4 h5
      refine ⟨b, fun j z hz => ?_, hb⟩
      have hj : j < K.size := by rw [← h4]; exact (List.getElem?_eq_some_iff.1 hz).1
      have := h5 j hj
      rw [hz] at this
      rw [← this]
      congr 1
      unfold Addr.add
      by_cases hi0 : i * K.size = 0
      · by_cases hj0 : j = 0
        · simp [hi0, hj0]
        · simp [hi0, hj0]
      · by_cases hj0 : j = 0
        · simp [hi0, hj0]
        · have : i * K.size + j ≠ 0 := by omega
          simp [hi0, hj0, this, Nat.add_assoc]
    have hlist : ∀ m, m ≤ len → ∃ l : List α, l.length = m ∧ (∀ b ∈ l, ok b) ∧ ∀ j z, (l.flatMap K.enc)[j]? = some z → w.cell? (a.add j) = some z := by
      intro m
      induction m with
      | zero => intro _; exact ⟨[], rfl, by simp, by simp⟩
      | succ m ih =>
        intro hm
        obtain ⟨l, h1, h2, h3⟩ := ih (by omega)
        obtain ⟨b, h4, h5⟩ := hex m (by omega)
        refine ⟨l ++ [b], by simp [h1], ?_, ?_⟩
        · intro c hc
          rcases List.mem_append.1 hc with hc | hc
          · exact h2 c hc
          · obtain rfl := List.mem_singleton.1 hc
            exact h5
        · intro j z hz
          have hL : (l.flatMap K.enc).length = m * K.size := by rw [len_flat, h1]
          simp only [List.flatMap_append, List.flatMap_cons, List.flatMap_nil, List.append_nil] at hz
          by_cases hj : j < m * K.size
          · rw [List.getElem?_append_left (by omega)] at hz
            exact h3 j z hz
          · rw [List.getElem?_append_right (by omega), hL] at hz
            have := h4 (j - m * K.size) z hz
            rwa [show m * K.size + (j - m * K.size) = j from by omega] at this
    obtain ⟨l, h1, h2, h3⟩ := hlist len (Nat.le_refl _)
    have hpos : 0 < l.length → ∃ z, w.cell? a = some z := by
      intro hp
      cases l with
      | nil => simp at hp
      | cons b l =>
        have hb : (K.enc b).length = K.size := K.len b
        have : ∃ z, ((b :: l).flatMap K.enc)[0]? = some z := ⟨_, List.getElem?_eq_getElem (by simp [List.flatMap_cons, hb]; omega)⟩
        obtain ⟨z, hz⟩ := this
        have := h3 0 z hz
        exact ⟨z, by simpa [Addr.add] using this⟩
    refine ⟨l, _, rfl, ⟨some a, cap, by rw [h1], by omega, fun hp => ?_⟩, h2, by omega, ?_⟩
    · obtain ⟨z, hz⟩ := hpos hp
      obtain ⟨b, o, s⟩ := a
      have hs : s = none := by
        unfold World.cell? at hz
        split at hz
        · cases s with
          | none => rfl
          | some _ => simp at hz
        · cases hz
      subst hs
      refine ⟨b, o, rfl, fun j v hv => ?_⟩
      have := h3 j v hv
      rwa [Addr.add_lit] at this
    · rcases Nat.eq_zero_or_pos l.length with h0 | hp
      · exact .inr (List.eq_nil_of_length_eq_zero h0)
      · obtain ⟨z, hz⟩ := hpos hp
        refine .inl ?_
        unfold World.cell? at hz
        split at hz
        · rename_i hh
          exact (Array.getElem?_eq_some_iff.1 hh).1
        · cases hz
theorem agg_of {T : TypeId} {v : Value} {cs : List Value} {base : Nat} (h : aggB P T = some true) (hv : Value.okWide P w .any base T v) (hc : v.cells.toList = cs) : v = .agg cs.toArray := by
  unfold aggB at h
  obtain ⟨d, hu, hd⟩ := Option.map_eq_some_iff.1 h
  unfold Value.okWide at hv
  rw [hu] at hv
  cases d <;> simp at hd <;> (obtain ⟨c2, rfl, _⟩ := hv; subst hc; simp [Value.cells])
end Go.Xw

/- What a row's arguments are: slices of records that hold slices. -/
set_option linter.unusedVariables false
set_option linter.unusedSimpArgs false
namespace Go.Xw
open Go
theorem opn_sliceN {P : Program} {w : World} {α : Type} {n : Nat} {D : World → List Value → α → Prop} {ok : α → Prop} {T e : TypeId} (ht : P.underlying T = some (.slice e)) (he : P.cellsOf e = n) (hk : 0 < n)
    (ho : ∀ {H : Type} (enc : TypeId × Value → H) (base : Nat) (sp : Nat → Bool) (held : Bool) (fuel : Nat) (cs : List Value) (x : DataW H × List MemPlace), DataW.trod enc P w base sp held fuel e cs = some x → ∃ a : α, D w cs a ∧ ok a ∧ cs.length = n ∧ ∀ v ∈ cs, v.oneCell' = true)
    {H : Type} (enc : TypeId × Value → H) (base : Nat) (sp : Nat → Bool) (held : Bool) (fuel : Nat) (cs : List Value) (x : DataW H × List MemPlace) (h : DataW.trod enc P w base sp held fuel T cs = some x) :
    ∃ (l : List α) (V : Value), cs = [V] ∧ RdN n D w V l ∧ (∀ a ∈ l, ok a) ∧ l.length ≤ maxLen ∧ (sb V < w.heap.size ∨ l = []) := by
  let β := { p : { l : List Value // l.length = n ∧ ∀ v ∈ l, v.oneCell' = true } × α // D w p.1.1 p.2 ∧ ok p.2 }
  let K : Kd β := ⟨fun p => p.1.1.1, n, fun p => p.1.1.2.1, fun p => p.1.1.2.2⟩
  have hp : Opn P w e K (fun _ => True) := by
    intro H enc base sp held fuel cs x h
    obtain ⟨a, hd, hok, hl, h1⟩ := ho enc base sp held fuel cs x h
    exact ⟨⟨(⟨cs, hl, h1⟩, a), hd, hok⟩, rfl, trivial⟩
  obtain ⟨l, V, e1, r, _, hm, hs⟩ := opn_slice (K := K) ht he hk hp enc base sp held fuel cs x h
  refine ⟨l.map (fun p => p.1.2), V, e1, ⟨l.map (fun p => p.1.1), ?_, by simp, ?_⟩, ?_, by simpa using hm, ?_⟩
  · obtain ⟨A, c, rfl, hc, hr⟩ := r
    refine ⟨A, c, by simp, by simpa using hc, fun hpos => ?_⟩
    obtain ⟨b, o, ea, hat⟩ := hr (by simpa using hpos)
    refine ⟨b, o, ea, ?_⟩
    rw [List.flatMap_map]
    exact hat
  · intro i h1 h2
    have hi : i < l.length := by simpa using h1
    simp only [List.getElem_map]
    exact (l[i]).2.1
  · intro a ha
    obtain ⟨p, _, rfl⟩ := List.mem_map.1 ha
    exact p.2.2
  · rcases hs with hs | rfl
    · exact .inl hs
    · exact .inr rfl
end Go.Xw

/- What the laws' arguments open into: written by rows.py. -/
set_option linter.unusedVariables false
set_option linter.unusedSimpArgs false
namespace Go.Proofs.Ytklhbaghbmndeaa
open Go Go.Xw
def ok_rickyardlaw05_Act (a : S_rickyardlaw05_Act) : Prop := (Lit.int .i64 a.Kind).wf = true ∧ (Lit.int .i64 a.At).wf = true ∧ (Lit.int .u64 a.W).wf = true ∧ ((∀ x ∈ a.L, (Lit.int .i64 x).wf = true) ∧ List.length a.L ≤ maxLen)
theorem opn_rickyardlaw05_Act {w : World} {H : Type} (enc : TypeId × Value → H) (base : Nat) (sp : Nat → Bool) (held : Bool) (fuel : Nat) (cs : List Value) (x : DataW H × List MemPlace) (h : DataW.trod enc Try.prog w base sp held fuel 39 cs = some x) : ∃ a : S_rickyardlaw05_Act, ∃ V0 : Value, ∃ R0 : Rd (kI .i64) w V0 a.L, cs = cellsOf [Seg.cell (.int .i64 a.Kind), Seg.cell (.int .i64 a.At), Seg.cell (.int .u64 a.W), Seg.cell V0 R0.one] ∧ ok_rickyardlaw05_Act a := by
  obtain ⟨hl, m, hf⟩ := trod_st Try.underlying39 h
  obtain ⟨y0, h0⟩ := hf 0 _ rfl
  have c0 : Try.prog.cellsOf 3 = 1 := by kernel_rfl
  obtain ⟨b0, e0, o0⟩ := (opn_int Try.underlying3) enc base sp held m _ y0 h0
  have e0 : (cs.drop 0).take 1 = (kI .i64).enc b0 := (congrArg (fun n => (cs.drop 0).take n) c0).symm.trans e0
  obtain ⟨y1, h1⟩ := hf 1 _ rfl
  have c1 : Try.prog.cellsOf 3 = 1 := by kernel_rfl
  obtain ⟨b1, e1, o1⟩ := (opn_int Try.underlying3) enc base sp held m _ y1 h1
  have e1 : (cs.drop 1).take 1 = (kI .i64).enc b1 := (congrArg (fun n => (cs.drop 1).take n) c1).symm.trans e1
  obtain ⟨y2, h2⟩ := hf 2 _ rfl
  have c2 : Try.prog.cellsOf 22 = 1 := by kernel_rfl
  obtain ⟨b2, e2, o2⟩ := (opn_int Try.underlying22) enc base sp held m _ y2 h2
  have e2 : (cs.drop 2).take 1 = (kI .u64).enc b2 := (congrArg (fun n => (cs.drop 2).take n) c2).symm.trans e2
  obtain ⟨y3, h3⟩ := hf 3 _ rfl
  have c3 : Try.prog.cellsOf 25 = 1 := by kernel_rfl
  obtain ⟨b3, W3, e3, r3, o3, l3, _⟩ := (opn_slice (K := (kI .i64)) Try.underlying25 (by kernel_rfl) (by decide) (opn_int Try.underlying3)) enc base sp held m _ y3 h3
  have e3 : (cs.drop 3).take 1 = [W3] := (congrArg (fun n => (cs.drop 3).take n) c3).symm.trans e3
  have hn : cs.drop 4 = [] := List.drop_eq_nil_of_le (by rw [hl]; exact Nat.le_of_eq (by kernel_rfl))
  have hc : cs = (kI .i64).enc b0 ++ ((kI .i64).enc b1 ++ ((kI .u64).enc b2 ++ ([W3] ++ []))) := (fld_cons (o := 0) (n := 1) e0 (fld_cons (o := 1) (n := 1) e1 (fld_cons (o := 2) (n := 1) e2 (fld_cons (o := 3) (n := 1) e3 hn))))
  refine ⟨⟨b0, b1, b2, b3⟩, W3, r3, ?_, o0, o1, o2, ⟨o3, l3⟩⟩
  rw [hc]
  simp [kA, kI, kB, kS, kT, cellsOf, Seg.cell, Kd.seg]
def ok_rickyardlaw15_Act (a : S_rickyardlaw15_Act) : Prop := (Lit.int .i64 a.Kind).wf = true ∧ (Lit.int .i64 a.At).wf = true ∧ (Lit.int .i64 a.I).wf = true ∧ ((∀ x ∈ a.B, (Lit.int .u8 x).wf = true) ∧ List.length a.B ≤ maxLen) ∧ ok_rickyardlaw05_Act a.A
theorem opn_rickyardlaw15_Act {w : World} {H : Type} (enc : TypeId × Value → H) (base : Nat) (sp : Nat → Bool) (held : Bool) (fuel : Nat) (cs : List Value) (x : DataW H × List MemPlace) (h : DataW.trod enc Try.prog w base sp held fuel 85 cs = some x) : ∃ a : S_rickyardlaw15_Act, ∃ V0 : Value, ∃ V1 : Value, ∃ R0 : Rd (kI .u8) w V0 a.B, ∃ R1 : Rd (kI .i64) w V1 a.A.L, cs = cellsOf [Seg.cell (.int .i64 a.Kind), Seg.cell (.int .i64 a.At), Seg.cell (.int .i64 a.I), Seg.cell V0 R0.one, Seg.cell (.int .i64 a.A.Kind), Seg.cell (.int .i64 a.A.At), Seg.cell (.int .u64 a.A.W), Seg.cell V1 R1.one] ∧ ok_rickyardlaw15_Act a := by
  obtain ⟨hl, m, hf⟩ := trod_st Try.underlying85 h
  obtain ⟨y0, h0⟩ := hf 0 _ rfl
  have c0 : Try.prog.cellsOf 3 = 1 := by kernel_rfl
  obtain ⟨b0, e0, o0⟩ := (opn_int Try.underlying3) enc base sp held m _ y0 h0
  have e0 : (cs.drop 0).take 1 = (kI .i64).enc b0 := (congrArg (fun n => (cs.drop 0).take n) c0).symm.trans e0
  obtain ⟨y1, h1⟩ := hf 1 _ rfl
  have c1 : Try.prog.cellsOf 3 = 1 := by kernel_rfl
  obtain ⟨b1, e1, o1⟩ := (opn_int Try.underlying3) enc base sp held m _ y1 h1
  have e1 : (cs.drop 1).take 1 = (kI .i64).enc b1 := (congrArg (fun n => (cs.drop 1).take n) c1).symm.trans e1
  obtain ⟨y2, h2⟩ := hf 2 _ rfl
  have c2 : Try.prog.cellsOf 3 = 1 := by kernel_rfl
  obtain ⟨b2, e2, o2⟩ := (opn_int Try.underlying3) enc base sp held m _ y2 h2
  have e2 : (cs.drop 2).take 1 = (kI .i64).enc b2 := (congrArg (fun n => (cs.drop 2).take n) c2).symm.trans e2
  obtain ⟨y3, h3⟩ := hf 3 _ rfl
  have c3 : Try.prog.cellsOf 43 = 1 := by kernel_rfl
  obtain ⟨b3, W3, e3, r3, o3, l3, _⟩ := (opn_slice (K := (kI .u8)) Try.underlying43 (by kernel_rfl) (by decide) (opn_int Try.underlying5)) enc base sp held m _ y3 h3
  have e3 : (cs.drop 3).take 1 = [W3] := (congrArg (fun n => (cs.drop 3).take n) c3).symm.trans e3
  obtain ⟨y4, h4⟩ := hf 4 _ rfl
  have c4 : Try.prog.cellsOf 39 = 4 := by kernel_rfl
  obtain ⟨b4, W4_0, r4_0, e4, o4⟩ := opn_rickyardlaw05_Act enc base sp held m _ y4 h4
  have e4 : (cs.drop 4).take 4 = cellsOf [Seg.cell (.int .i64 b4.Kind), Seg.cell (.int .i64 b4.At), Seg.cell (.int .u64 b4.W), Seg.cell W4_0 r4_0.one] := (congrArg (fun n => (cs.drop 4).take n) c4).symm.trans e4
  have hn : cs.drop 8 = [] := List.drop_eq_nil_of_le (by rw [hl]; exact Nat.le_of_eq (by kernel_rfl))
  have hc : cs = (kI .i64).enc b0 ++ ((kI .i64).enc b1 ++ ((kI .i64).enc b2 ++ ([W3] ++ (cellsOf [Seg.cell (.int .i64 b4.Kind), Seg.cell (.int .i64 b4.At), Seg.cell (.int .u64 b4.W), Seg.cell W4_0 r4_0.one] ++ [])))) := (fld_cons (o := 0) (n := 1) e0 (fld_cons (o := 1) (n := 1) e1 (fld_cons (o := 2) (n := 1) e2 (fld_cons (o := 3) (n := 1) e3 (fld_cons (o := 4) (n := 4) e4 hn)))))
  refine ⟨⟨b0, b1, b2, b3, b4⟩, W3, W4_0, r3, r4_0, ?_, o0, o1, o2, ⟨o3, l3⟩, o4⟩
  rw [hc]
  simp [kA, kI, kB, kS, kT, cellsOf, Seg.cell, Kd.seg, k_api_Fate, segs_api_Fate]
end Go.Proofs.Ytklhbaghbmndeaa

/- Rows turned one by one. -/
set_option linter.unusedVariables false
set_option linter.unusedSimpArgs false
namespace Go.Proofs.Ytklhbaghbmndeaa.Pure
open Go Go.Xw
/-- Of the places from `lo` on the first `j`, each turned by `g`. -/
def upd {α : Type} (g : Nat → α → α) (lo j : Nat) (cs : List α) : List α := cs.mapIdx fun i c => if lo ≤ i ∧ i < lo + j then g i c else c
theorem upd_len {α : Type} (g : Nat → α → α) (lo j : Nat) (cs : List α) : (upd g lo j cs).length = cs.length := by simp [upd]
theorem upd_zero {α : Type} (g : Nat → α → α) (lo : Nat) (cs : List α) : upd g lo 0 cs = cs := by
  apply List.ext_getElem (by simp [upd])
  intro i h1 h2
  simp only [upd, List.getElem_mapIdx]
  rw [if_neg (by omega)]
theorem upd_get {α : Type} (g : Nat → α → α) (lo j : Nat) (cs : List α) (i : Nat) (h : i < (upd g lo j cs).length) : (upd g lo j cs)[i] = if lo ≤ i ∧ i < lo + j then g i (cs[i]'(by simpa [upd] using h)) else cs[i]'(by simpa [upd] using h) := by
  simp only [upd, List.getElem_mapIdx]
theorem upd_next {α : Type} (g : Nat → α → α) (lo j : Nat) (cs : List α) (h : lo + j < cs.length) : (upd g lo j cs)[lo + j]'(by rw [upd_len]; exact h) = cs[lo + j] := by
  rw [upd_get, if_neg (by omega)]
theorem upd_set {α : Type} (g : Nat → α → α) (lo j : Nat) (cs : List α) (h : lo + j < cs.length) : (upd g lo j cs).set (lo + j) (g (lo + j) cs[lo + j]) = upd g lo (j + 1) cs := by
  apply List.ext_getElem (by simp [upd])
  intro i h1 h2
  rw [List.getElem_set, upd_get g lo (j + 1)]
  by_cases e : lo + j = i
  · subst e
    rw [if_pos rfl, if_pos (by omega)]
  · rw [if_neg e, upd_get]
    by_cases c : lo ≤ i ∧ i < lo + j
    · rw [if_pos c, if_pos (by omega)]
    · rw [if_neg c, if_neg (by omega)]
theorem upd_same {α : Type} (g : Nat → α → α) (lo j : Nat) (cs : List α) (h : lo + j < cs.length) (e : g (lo + j) cs[lo + j] = cs[lo + j]) : upd g lo j cs = upd g lo (j + 1) cs := by
  apply List.ext_getElem (by simp [upd])
  intro i h1 h2
  rw [upd_get g lo j, upd_get g lo (j + 1)]
  by_cases e' : lo + j = i
  · subst e'
    rw [if_neg (by omega), if_pos (by omega), e]
  · by_cases c : lo ≤ i ∧ i < lo + j
    · rw [if_pos c, if_pos (by omega)]
    · rw [if_neg c, if_neg (by omega)]
theorem upd_all {α : Type} (g : Nat → α → α) (cs : List α) : upd g 0 cs.length cs = cs.mapIdx g := by
  apply List.ext_getElem (by simp [upd])
  intro i h1 h2
  rw [upd_get, if_pos ⟨by omega, by rw [upd_len] at h1; omega⟩, List.getElem_mapIdx]
theorem getD_set {α : Type} (cs : List α) (i k : Nat) (v d : α) (hi : i < cs.length) : (cs.set i v).getD k d = if i = k then v else cs.getD k d := by
  simp only [List.getD_eq_getElem?_getD, List.getElem?_set]
  by_cases h : i = k
  · subst h
    simp [hi]
  · simp [h]
theorem getD_of {α : Type} (cs : List α) (i : Nat) (d : α) (hi : i < cs.length) : cs.getD i d = cs[i] := by
  simp [List.getD_eq_getElem?_getD, List.getElem?_eq_getElem hi]
end Go.Proofs.Ytklhbaghbmndeaa.Pure

/- rickyard/crc.step: its model, and that the Go function computes it: written by gen.py. -/
set_option linter.unusedVariables false
namespace Go.Proofs.Ytklhbaghbmndeaa
open Go Go.Xw
def crc_step.f (fu : Nat) (a0 : Int) : Option Int := (if (decide ((bAnd .u32 a0 1) = 1)) = true then some ((bXor .u32 (shR .u32 a0 1) 2197175160)) else some ((shR .u32 a0 1)))
set_option maxRecDepth 100000 in
set_option maxHeartbeats 400000 in
theorem crc_step.ok (fu : Nat) (w : World) (a0 : Int) (r : Int) (h : crc_step.f fu a0 = some r) :
  Calls Try.prog 156 (([.int .u32 a0] : List Value).toArray) w (fun e w' => ∃ v, e = .returned v ∧ v = .int .u32 r ∧ Gr w w') := by
 unfold crc_step.f at h
 have fB : Gr w w := Fr.refl _ _
 refine calls_cw Try.func156 rfl Try.ntmps156 rfl ?_
 refine cw_seq ?_
 refine cw_region ?_
 refine ol_val (v := .int .u32 0) (by exact xr_assign rfl rfl) rfl rfl rfl ?_
 refine ol_nil ?_
 refine cw_seq ?_
 refine cw_seq ?_
 refine cw_region ?_
 refine ol_val (v := .int .u32 a0) (by exact xr_move rfl rfl) rfl rfl rfl ?_
 refine ol_val (v := .int .u32 (bAnd .u32 a0 1)) (by exact xr_and rfl rfl rfl) rfl rfl rfl ?_
 refine ol_val (v := .bool (decide ((bAnd .u32 a0 1) = 1))) (by exact xr_eqI rfl Try.underlying191 rfl rfl rfl) rfl rfl rfl ?_
 refine ol_nil ?_
 rcases is h with ⟨c1, h⟩ | ⟨c1, h⟩
 ·refine cw_condT rfl c1 ?_
  refine cw_seq ?_
  refine cw_region ?_
  refine ol_val (v := .int .u32 a0) (by exact xr_move rfl rfl) rfl rfl rfl ?_
  refine ol_val (v := .int .u32 (shR .u32 a0 1)) (by exact xr_shr rfl rfl rfl (by decide)) rfl rfl rfl ?_
  refine ol_val (v := .int .u32 (bXor .u32 (shR .u32 a0 1) 2197175160)) (by exact xr_xor rfl rfl rfl) rfl rfl rfl ?_
  refine ol_val (v := .int .u32 (bXor .u32 (shR .u32 a0 1) 2197175160)) (by exact xr_assign rfl rfl) rfl rfl rfl ?_
  refine ol_nil ?_
  refine cw_ret ?_
  repeat (first | with_reducible refine thn_r ?_ | with_reducible refine blk_r ?_)
  obtain rfl := Option.some.inj h
  refine fin_ret1 Try.results156 rfl ?_
  exact ⟨_, rfl, rfl, fB⟩
 refine cw_condF rfl c1 ?_
 refine cw_skip ?_
 refine cw_seq ?_
 refine cw_region ?_
 refine ol_val (v := .int .u32 a0) (by exact xr_move rfl rfl) rfl rfl rfl ?_
 refine ol_val (v := .int .u32 (shR .u32 a0 1)) (by exact xr_shr rfl rfl rfl (by decide)) rfl rfl rfl ?_
 refine ol_val (v := .int .u32 (shR .u32 a0 1)) (by exact xr_assign rfl rfl) rfl rfl rfl ?_
 refine ol_nil ?_
 refine cw_ret ?_
 repeat (first | with_reducible refine thn_r ?_ | with_reducible refine blk_r ?_)
 obtain rfl := Option.some.inj h
 refine fin_ret1 Try.results156 rfl ?_
 exact ⟨_, rfl, rfl, fB⟩
end Go.Proofs.Ytklhbaghbmndeaa

/- rickyard/crc.Table: its model, and that the Go function computes it: written by gen.py. -/
set_option linter.unusedVariables false
namespace Go.Proofs.Ytklhbaghbmndeaa
open Go Go.Xw
def crc_Table.s3 (fu : Nat) : (Int × Int) → Option (Sum Int (Int × Int)) := fun s22 => (if (decide (s22.2 < 4)) = true then ((crc_step.f fu s22.1 : Option Int).bind fun t30 => some (Sum.inr (t30, (IntKind.i64.wrap (s22.2 + 1))))) else some (Sum.inl (s22.1)))
def crc_Table.s2 (fu : Nat) : (Int × (Arr 16 Int)) → Option (Sum (Arr 16 Int) (Int × (Arr 16 Int))) := fun s14 => (if (decide (s14.1 < 16)) = true then ((loopM (crc_Table.s3 fu) fu ((IntKind.u32.wrap s14.1), 0)).bind fun e23 => (if 0 ≤ s14.1 ∧ s14.1 < 16 then some (Sum.inr ((IntKind.i64.wrap (s14.1 + 1)), (Arr.set s14.2 s14.1 e23))) else none)) else some (Sum.inl (s14.2)))
def crc_Table.f (fu : Nat) : Option (Arr 16 Int) := ((loopM (crc_Table.s2 fu) fu (0, (Arr.rep 16 (0 : Int)))).bind fun e15 => some (e15))
set_option maxRecDepth 100000 in
set_option maxHeartbeats 400000 in
theorem crc_Table.ok (fu : Nat) (w : World)  (r : (Arr 16 Int)) (h : crc_Table.f fu = some r) :
  Calls Try.prog 154 (([] : List Value).toArray) w (fun e w' => ∃ v, e = .returned v ∧ v = aggV [Kd.seg (kA 16 (kI .u32)) r] ∧ Gr w w') := by
 unfold crc_Table.f at h
 have fB : Gr w w := Fr.refl _ _
 refine calls_cw Try.func154 rfl Try.ntmps154 rfl ?_
 refine cw_seq ?_
 refine cw_region ?_
 refine ol_op (by exact opv_alloc (ss := [Kd.seg (kA 16 (kI .u32)) (Arr.rep 16 (0 : Int))]) rfl ze205 rfl) rfl rfl rfl ?_
 rintro _ w6 ⟨G1, rfl, b2, q3, z4⟩
 have z4 := Nat.le_trans fB.size z4
 have fB := fB.gr q3
 refine ol_nil ?_
 refine cw_seq ?_
 refine cw_region ?_
 refine ol_op (by exact opv_alloc (ss := [Kd.seg (kA 16 (kI .u32)) (Arr.rep 16 (0 : Int))]) rfl ze205 rfl) rfl rfl rfl ?_
 rintro _ w12 ⟨G7, rfl, b8, q9, z10⟩
 have n13 := b2.ne z10
 have z10 := Nat.le_trans fB.size z10
 have b2 := b2.gr q9
 have fB := fB.gr q9
 refine ol_nil ?_
 refine cw_seq ?_
 refine cw_seq ?_
 refine cw_region ?_
 refine ol_val (v := .int .i64 0) (by exact xr_move rfl rfl) rfl rfl rfl ?_
 refine ol_nil ?_
 obtain ⟨e15, l16, h17⟩ := bs h
 refine cw_mid (fun ρ' w' => ρ' 0 = .pointer (some ⟨G1, 0, none⟩) ∧ ρ' 1 = .pointer (some ⟨G7, 0, none⟩) ∧ Blk w' G1 205 [Kd.seg (kA 16 (kI .u32)) (Arr.rep 16 (0 : Int))] ∧ Blk w' G7 205 [Kd.seg (kA 16 (kI .u32)) e15] ∧ Gr w w') ?_ ?_
 ·refine cw_block ?_
  refine cw_round (fun (s14 : Int × (Arr 16 Int)) ρ' w' => ρ' 0 = .pointer (some ⟨G1, 0, none⟩) ∧ ρ' 1 = .pointer (some ⟨G7, 0, none⟩) ∧ ρ' 4 = .int .i64 s14.1 ∧ Blk w' G1 205 [Kd.seg (kA 16 (kI .u32)) (Arr.rep 16 (0 : Int))] ∧ Blk w' G7 205 [Kd.seg (kA 16 (kI .u32)) s14.2] ∧ Gr w w') l16 ?_ ?_
  ·skip
   exact ⟨rfl, rfl, rfl, b2, b8, fB⟩
  rintro s14 x20 ρ18 w19 ⟨e0, e1, e4, b2, b8, fB⟩ h
  unfold crc_Table.s2 at h
  refine cw_seq ?_
  refine cw_region ?_
  refine ol_val (v := .bool (decide (s14.1 < 16))) (by exact xr_lss rfl e4 rfl) rfl rfl rfl ?_
  refine ol_nil ?_
  refine cw_seq ?_
  rcases is h with ⟨c21, h⟩ | ⟨c21, h⟩
  ·refine cw_condT rfl c21 ?_
   refine cw_skip ?_
   refine cw_seq ?_
   refine cw_block ?_
   refine cw_seq ?_
   refine cw_region ?_
   refine ol_val (v := .int .i64 s14.1) (by exact xr_move rfl e4) rfl rfl rfl ?_
   refine ol_val (v := .int .i64 s14.1) (by exact xr_assign rfl rfl) rfl rfl rfl ?_
   refine ol_nil ?_
   refine cw_seq ?_
   refine cw_region ?_
   refine ol_val (v := .int .i64 s14.1) (by exact xr_move rfl rfl) rfl rfl rfl ?_
   refine ol_val (v := .int .u32 (IntKind.u32.wrap s14.1)) (by exact xr_conv rfl Try.underlying3 Try.underlying191 rfl) rfl rfl rfl ?_
   refine ol_val (v := .int .u32 (IntKind.u32.wrap s14.1)) (by exact xr_assign rfl rfl) rfl rfl rfl ?_
   refine ol_nil ?_
   refine cw_seq ?_
   refine cw_seq ?_
   refine cw_region ?_
   refine ol_val (v := .int .i64 0) (by exact xr_move rfl rfl) rfl rfl rfl ?_
   refine ol_nil ?_
   obtain ⟨e23, l24, h25⟩ := bs h
   refine cw_mid (fun ρ' w' => ρ' 0 = .pointer (some ⟨G1, 0, none⟩) ∧ ρ' 1 = .pointer (some ⟨G7, 0, none⟩) ∧ ρ' 2 = .int .i64 s14.1 ∧ ρ' 3 = .int .u32 e23 ∧ ρ' 4 = .int .i64 s14.1 ∧ Blk w' G1 205 [Kd.seg (kA 16 (kI .u32)) (Arr.rep 16 (0 : Int))] ∧ Blk w' G7 205 [Kd.seg (kA 16 (kI .u32)) s14.2] ∧ Gr w w') ?_ ?_
   ·refine cw_block ?_
    refine cw_round (fun (s22 : Int × Int) ρ' w' => ρ' 0 = .pointer (some ⟨G1, 0, none⟩) ∧ ρ' 1 = .pointer (some ⟨G7, 0, none⟩) ∧ ρ' 2 = .int .i64 s14.1 ∧ ρ' 3 = .int .u32 s22.1 ∧ ρ' 4 = .int .i64 s14.1 ∧ ρ' 9 = .int .i64 s22.2 ∧ Blk w' G1 205 [Kd.seg (kA 16 (kI .u32)) (Arr.rep 16 (0 : Int))] ∧ Blk w' G7 205 [Kd.seg (kA 16 (kI .u32)) s14.2] ∧ Gr w w') l24 ?_ ?_
    ·skip
     exact ⟨e0, e1, rfl, rfl, e4, rfl, b2, b8, fB⟩
    rintro s22 x28 ρ26 w27 ⟨e0, e1, e2, e3, e4, e9, b2, b8, fB⟩ h
    unfold crc_Table.s3 at h
    refine cw_seq ?_
    refine cw_region ?_
    refine ol_val (v := .bool (decide (s22.2 < 4))) (by exact xr_lss rfl e9 rfl) rfl rfl rfl ?_
    refine ol_nil ?_
    refine cw_seq ?_
    rcases is h with ⟨c29, h⟩ | ⟨c29, h⟩
    ·refine cw_condT rfl c29 ?_
     refine cw_skip ?_
     refine cw_seq ?_
     refine cw_block ?_
     refine cw_region ?_
     refine ol_val (v := .int .u32 s22.1) (by exact xr_move rfl e3) rfl rfl rfl ?_
     obtain ⟨t30, k31, h⟩ := bs h
     refine ol_op (by exact opv_call rfl cal156 (ac rfl an) (crc_step.ok fu _ s22.1 _ k31)) rfl rfl rfl ?_
     rintro _ w33 ⟨rfl, q32⟩
     have b2 := b2.gr q32
     have b8 := b8.gr q32
     have fB := fB.gr q32
     refine ol_val (v := .int .u32 t30) (by exact xr_assign rfl rfl) rfl rfl rfl ?_
     refine ol_nil ?_
     refine blk_i ?_
     refine cw_region ?_
     refine ol_val (v := .int .i64 (IntKind.i64.wrap (s22.2 + 1))) (by exact xr_add rfl e9 rfl) rfl rfl rfl ?_
     refine ol_val (v := .int .i64 (IntKind.i64.wrap (s22.2 + 1))) (by exact xr_move rfl rfl) rfl rfl rfl ?_
     refine ol_nil ?_
     obtain rfl := Option.some.inj h
     refine lp_in ?_
     exact ⟨e0, e1, e2, rfl, e4, rfl, b2, b8, fB⟩
    refine cw_condF rfl c29 ?_
    refine cw_exit ?_
    repeat (first | with_reducible refine thn_e ?_ | with_reducible refine blk_e rfl ?_)
    obtain rfl := Option.some.inj h
    refine lp_exit ?_
    rintro rfl
    refine thn_x ?_
    exact ⟨e0, e1, e2, e3, e4, b2, b8, fB⟩
   rintro ρ34 w35 ⟨e0, e1, e2, e3, e4, b2, b8, fB⟩
   have h := h25
   refine cw_region ?_
   refine ol_val (v := .int .i64 s14.1) (by exact xr_move rfl e2) rfl rfl rfl ?_
   refine ol_val (v := .int .u32 e23) (by exact xr_move rfl e3) rfl rfl rfl ?_
   obtain ⟨g36, h⟩ := gs h
   refine ol_val (v := .pointer (some ⟨G7, 0 + Int.toNat s14.1 * 1, none⟩)) (by exact xr_indexA (p := 0) (s := 1) rfl Try.underlying205 sz191 e1 rfl g36.1 g36.2) rfl rfl rfl ?_
   refine ol_op0 (by exact opv_store (ss' := [Kd.seg (kA 16 (kI .u32)) (Arr.set s14.2 s14.1 e23)]) (xs := cellsOf [Seg.cell (.int .u32 e23)]) rfl sz191 rfl rfl rfl (len_cellsOf _) (one_cellsOf _) b8 (Spl.seg_in _ 0 (Kd.seg (kA 16 (kI .u32)) (Arr.set s14.2 s14.1 e23)) rfl rfl (Spl.arr s14.2 s14.1 e23 g36.1 g36.2 (Spl.whole ((Kd.len _ _).trans (Kd.len _ _).symm))))) rfl rfl ?_
   rintro _ w38 ⟨b8, q37⟩
   have b2 := b2.wr q37 n13
   have fB := fB.wr q37 z10
   refine ol_nil ?_
   refine blk_i ?_
   refine cw_region ?_
   refine ol_val (v := .int .i64 (IntKind.i64.wrap (s14.1 + 1))) (by exact xr_add rfl e4 rfl) rfl rfl rfl ?_
   refine ol_val (v := .int .i64 (IntKind.i64.wrap (s14.1 + 1))) (by exact xr_move rfl rfl) rfl rfl rfl ?_
   refine ol_nil ?_
   obtain rfl := Option.some.inj h
   refine lp_in ?_
   exact ⟨e0, e1, rfl, b2, b8, fB⟩
  refine cw_condF rfl c21 ?_
  refine cw_exit ?_
  repeat (first | with_reducible refine thn_e ?_ | with_reducible refine blk_e rfl ?_)
  obtain rfl := Option.some.inj h
  refine lp_exit ?_
  rintro rfl
  refine thn_x ?_
  exact ⟨e0, e1, b2, b8, fB⟩
 rintro ρ39 w40 ⟨e0, e1, b2, b8, fB⟩
 have h := h17
 refine cw_seq ?_
 refine cw_region ?_
 refine ol_val (v := aggV [Kd.seg (kA 16 (kI .u32)) e15]) (by exact xr_loadS (ss := [Kd.seg (kA 16 (kI .u32)) e15]) rfl ag205 sz205 rfl e1 (b8.segs 0 1 rfl)) rfl rfl rfl ?_
 refine ol_op0 (by exact opv_store (ss' := [Kd.seg (kA 16 (kI .u32)) e15]) (xs := cellsOf [Kd.seg (kA 16 (kI .u32)) e15]) rfl sz205 e0 rfl rfl (len_cellsOf _) (one_cellsOf _) b2 (Spl.segs _ 0 1 [Kd.seg (kA 16 (kI .u32)) e15] rfl rfl)) rfl rfl ?_
 rintro _ w42 ⟨b2, q41⟩
 have fB := fB.wr q41 z4
 refine ol_nil ?_
 refine cw_ret ?_
 repeat (first | with_reducible refine thn_r ?_ | with_reducible refine blk_r ?_)
 obtain rfl := Option.some.inj h
 refine fin_cell Try.results154 e0 ag205 sz205 b2 (by rfl) ?_
 exact ⟨_, rfl, rfl, fB⟩
end Go.Proofs.Ytklhbaghbmndeaa

/- rickyard/crc.register: its model, and that the Go function computes it: written by gen.py. -/
set_option linter.unusedVariables false
namespace Go.Proofs.Ytklhbaghbmndeaa
open Go Go.Xw
def crc_register.s0 (fu : Nat) (a0 : Arr 16 Int) (a2 : List Int) : (Int × Int) → Option (Sum Int (Int × Int)) := fun s1 => (if (decide (s1.2 < (List.length a2 : Int))) = true then (if 0 ≤ s1.2 ∧ s1.2 < (List.length a2 : Int) then (if 0 ≤ (bAnd .u32 (bXor .u32 s1.1 (IntKind.u32.wrap (ix a2 s1.2))) 15) ∧ (bAnd .u32 (bXor .u32 s1.1 (IntKind.u32.wrap (ix a2 s1.2))) 15) < 16 then (if 0 ≤ (bAnd .u32 (bXor .u32 (shR .u32 (bXor .u32 s1.1 (IntKind.u32.wrap (ix a2 s1.2))) 4) (Arr.get a0 (bAnd .u32 (bXor .u32 s1.1 (IntKind.u32.wrap (ix a2 s1.2))) 15))) 15) ∧ (bAnd .u32 (bXor .u32 (shR .u32 (bXor .u32 s1.1 (IntKind.u32.wrap (ix a2 s1.2))) 4) (Arr.get a0 (bAnd .u32 (bXor .u32 s1.1 (IntKind.u32.wrap (ix a2 s1.2))) 15))) 15) < 16 then some (Sum.inr ((bXor .u32 (shR .u32 (bXor .u32 (shR .u32 (bXor .u32 s1.1 (IntKind.u32.wrap (ix a2 s1.2))) 4) (Arr.get a0 (bAnd .u32 (bXor .u32 s1.1 (IntKind.u32.wrap (ix a2 s1.2))) 15))) 4) (Arr.get a0 (bAnd .u32 (bXor .u32 (shR .u32 (bXor .u32 s1.1 (IntKind.u32.wrap (ix a2 s1.2))) 4) (Arr.get a0 (bAnd .u32 (bXor .u32 s1.1 (IntKind.u32.wrap (ix a2 s1.2))) 15))) 15))), (IntKind.i64.wrap (s1.2 + 1)))) else none) else none) else none) else some (Sum.inl (s1.1)))
def crc_register.f (fu : Nat) (a0 : Arr 16 Int) (a1 : Int) (a2 : List Int) : Option Int := ((loopM (crc_register.s0 fu a0 a2) fu (a1, 0)).bind fun e2 => some (e2))
set_option maxRecDepth 100000 in
set_option maxHeartbeats 400000 in
theorem crc_register.ok (fu : Nat) (w : World) (a0 : Arr 16 Int) (G_0 : Nat) (b_0 : Blk w G_0 205 [Kd.seg (kA 16 (kI .u32)) a0]) (a1 : Int) (a2 : List Int) (V2_0 : Value) (R2_0 : Rd (kI .u8) w V2_0 a2) (r : Int) (h : crc_register.f fu a0 a1 a2 = some r) :
  Calls Try.prog 155 (([.pointer (some ⟨G_0, 0, none⟩), .int .u32 a1, V2_0] : List Value).toArray) w (fun e w' => ∃ v, e = .returned v ∧ v = .int .u32 r ∧ Gr w w') := by
 unfold crc_register.f at h
 have fB : Gr w w := Fr.refl _ _
 refine calls_cw Try.func155 rfl Try.ntmps155 rfl ?_
 refine cw_seq ?_
 refine cw_region ?_
 refine ol_val (v := .int .u32 0) (by exact xr_assign rfl rfl) rfl rfl rfl ?_
 refine ol_nil ?_
 refine cw_seq ?_
 refine cw_seq ?_
 refine cw_region ?_
 refine ol_val (v := V2_0) (by exact xr_move rfl rfl) rfl rfl rfl ?_
 refine ol_val (v := .int .i64 (List.length a2 : Int)) (by exact xr_lenR rfl Try.underlying43 rfl (R2_0.gr fB)) rfl rfl rfl ?_
 refine ol_val (v := .int .i64 0) (by exact xr_move rfl rfl) rfl rfl rfl ?_
 refine ol_nil ?_
 obtain ⟨e2, l3, h4⟩ := bs h
 refine cw_mid (fun ρ' w' => ρ' 1 = .int .u32 e2 ∧ Blk w' G_0 205 [Kd.seg (kA 16 (kI .u32)) a0] ∧ Gr w w') ?_ ?_
 ·refine cw_block ?_
  refine cw_round (fun (s1 : Int × Int) ρ' w' => ρ' 0 = .pointer (some ⟨G_0, 0, none⟩) ∧ ρ' 1 = .int .u32 s1.1 ∧ ρ' 9 = V2_0 ∧ ρ' 10 = .int .i64 (List.length a2 : Int) ∧ ρ' 11 = .int .i64 s1.2 ∧ Blk w' G_0 205 [Kd.seg (kA 16 (kI .u32)) a0] ∧ Gr w w') l3 ?_ ?_
  ·skip
   exact ⟨rfl, rfl, rfl, rfl, rfl, b_0, fB⟩
  rintro s1 x7 ρ5 w6 ⟨e0, e1, e9, e10, e11, b_0, fB⟩ h
  unfold crc_register.s0 at h
  refine cw_seq ?_
  refine cw_region ?_
  refine ol_val (v := .bool (decide (s1.2 < (List.length a2 : Int)))) (by exact xr_lss rfl e11 e10) rfl rfl rfl ?_
  refine ol_nil ?_
  refine cw_seq ?_
  rcases is h with ⟨c8, h⟩ | ⟨c8, h⟩
  ·refine cw_condT rfl c8 ?_
   refine cw_skip ?_
   refine cw_seq ?_
   refine cw_block ?_
   refine cw_seq ?_
   refine cw_region ?_
   obtain ⟨g9, h⟩ := gs h
   refine ol_val (v := .pointer (some ⟨(sb V2_0), so V2_0 + Int.toNat s1.2 * 1, none⟩)) (by exact xr_indexR (K := (kI .u8)) (v := V2_0) rfl Try.underlying43 sz5 e9 (R2_0.gr fB) e11 g9.1 g9.2) rfl rfl rfl ?_
   refine ol_val (v := .int .u8 (ix a2 s1.2)) (by exact xr_load1 (v := .int .u8 (ix a2 s1.2)) rfl ag5 rfl ((R2_0.gr fB).elem g9.1 g9.2)) rfl rfl rfl ?_
   refine ol_val (v := .int .u8 (ix a2 s1.2)) (by exact xr_assign rfl rfl) rfl rfl rfl ?_
   refine ol_nil ?_
   refine cw_seq ?_
   refine cw_region ?_
   refine ol_val (v := .int .u32 s1.1) (by exact xr_move rfl e1) rfl rfl rfl ?_
   refine ol_val (v := .int .u8 (ix a2 s1.2)) (by exact xr_move rfl rfl) rfl rfl rfl ?_
   refine ol_val (v := .int .u32 (IntKind.u32.wrap (ix a2 s1.2))) (by exact xr_conv rfl Try.underlying5 Try.underlying191 rfl) rfl rfl rfl ?_
   refine ol_val (v := .int .u32 (bXor .u32 s1.1 (IntKind.u32.wrap (ix a2 s1.2)))) (by exact xr_xor rfl rfl rfl) rfl rfl rfl ?_
   refine ol_val (v := .int .u32 (bXor .u32 s1.1 (IntKind.u32.wrap (ix a2 s1.2)))) (by exact xr_assign rfl rfl) rfl rfl rfl ?_
   refine ol_nil ?_
   refine cw_seq ?_
   refine cw_region ?_
   refine ol_val (v := .int .u32 (bXor .u32 s1.1 (IntKind.u32.wrap (ix a2 s1.2)))) (by exact xr_move rfl rfl) rfl rfl rfl ?_
   refine ol_val (v := .int .u32 (shR .u32 (bXor .u32 s1.1 (IntKind.u32.wrap (ix a2 s1.2))) 4)) (by exact xr_shr rfl rfl rfl (by decide)) rfl rfl rfl ?_
   refine ol_val (v := .pointer (some ⟨G_0, 0, none⟩)) (by exact xr_move rfl e0) rfl rfl rfl ?_
   refine ol_val (v := .int .u32 (bXor .u32 s1.1 (IntKind.u32.wrap (ix a2 s1.2)))) (by exact xr_move rfl rfl) rfl rfl rfl ?_
   refine ol_val (v := .int .u32 (bAnd .u32 (bXor .u32 s1.1 (IntKind.u32.wrap (ix a2 s1.2))) 15)) (by exact xr_and rfl rfl rfl) rfl rfl rfl ?_
   refine ol_val (v := .pointer (some ⟨G_0, 0, none⟩)) (by exact xr_nilCheck rfl rfl) rfl rfl rfl ?_
   obtain ⟨g10, h⟩ := gs h
   refine ol_val (v := .pointer (some ⟨G_0, 0 + Int.toNat (bAnd .u32 (bXor .u32 s1.1 (IntKind.u32.wrap (ix a2 s1.2))) 15) * 1, none⟩)) (by exact xr_indexA (p := 0) (s := 1) rfl Try.underlying205 sz191 rfl rfl g10.1 g10.2) rfl rfl rfl ?_
   refine ol_val (v := .int .u32 (Arr.get a0 (bAnd .u32 (bXor .u32 s1.1 (IntKind.u32.wrap (ix a2 s1.2))) 15))) (by exact xr_load1 (v := .int .u32 (Arr.get a0 (bAnd .u32 (bXor .u32 s1.1 (IntKind.u32.wrap (ix a2 s1.2))) 15))) rfl ag191 rfl (At.arr (a := a0) (b_0.seg 0 rfl rfl) g10.1 g10.2)) rfl rfl rfl ?_
   refine ol_val (v := .int .u32 (bXor .u32 (shR .u32 (bXor .u32 s1.1 (IntKind.u32.wrap (ix a2 s1.2))) 4) (Arr.get a0 (bAnd .u32 (bXor .u32 s1.1 (IntKind.u32.wrap (ix a2 s1.2))) 15)))) (by exact xr_xor rfl rfl rfl) rfl rfl rfl ?_
   refine ol_val (v := .int .u32 (bXor .u32 (shR .u32 (bXor .u32 s1.1 (IntKind.u32.wrap (ix a2 s1.2))) 4) (Arr.get a0 (bAnd .u32 (bXor .u32 s1.1 (IntKind.u32.wrap (ix a2 s1.2))) 15)))) (by exact xr_assign rfl rfl) rfl rfl rfl ?_
   refine ol_nil ?_
   refine cw_region ?_
   refine ol_val (v := .int .u32 (bXor .u32 (shR .u32 (bXor .u32 s1.1 (IntKind.u32.wrap (ix a2 s1.2))) 4) (Arr.get a0 (bAnd .u32 (bXor .u32 s1.1 (IntKind.u32.wrap (ix a2 s1.2))) 15)))) (by exact xr_move rfl rfl) rfl rfl rfl ?_
   refine ol_val (v := .int .u32 (shR .u32 (bXor .u32 (shR .u32 (bXor .u32 s1.1 (IntKind.u32.wrap (ix a2 s1.2))) 4) (Arr.get a0 (bAnd .u32 (bXor .u32 s1.1 (IntKind.u32.wrap (ix a2 s1.2))) 15))) 4)) (by exact xr_shr rfl rfl rfl (by decide)) rfl rfl rfl ?_
   refine ol_val (v := .pointer (some ⟨G_0, 0, none⟩)) (by exact xr_move rfl e0) rfl rfl rfl ?_
   refine ol_val (v := .int .u32 (bXor .u32 (shR .u32 (bXor .u32 s1.1 (IntKind.u32.wrap (ix a2 s1.2))) 4) (Arr.get a0 (bAnd .u32 (bXor .u32 s1.1 (IntKind.u32.wrap (ix a2 s1.2))) 15)))) (by exact xr_move rfl rfl) rfl rfl rfl ?_
   refine ol_val (v := .int .u32 (bAnd .u32 (bXor .u32 (shR .u32 (bXor .u32 s1.1 (IntKind.u32.wrap (ix a2 s1.2))) 4) (Arr.get a0 (bAnd .u32 (bXor .u32 s1.1 (IntKind.u32.wrap (ix a2 s1.2))) 15))) 15)) (by exact xr_and rfl rfl rfl) rfl rfl rfl ?_
   refine ol_val (v := .pointer (some ⟨G_0, 0, none⟩)) (by exact xr_nilCheck rfl rfl) rfl rfl rfl ?_
   obtain ⟨g11, h⟩ := gs h
   refine ol_val (v := .pointer (some ⟨G_0, 0 + Int.toNat (bAnd .u32 (bXor .u32 (shR .u32 (bXor .u32 s1.1 (IntKind.u32.wrap (ix a2 s1.2))) 4) (Arr.get a0 (bAnd .u32 (bXor .u32 s1.1 (IntKind.u32.wrap (ix a2 s1.2))) 15))) 15) * 1, none⟩)) (by exact xr_indexA (p := 0) (s := 1) rfl Try.underlying205 sz191 rfl rfl g11.1 g11.2) rfl rfl rfl ?_
   refine ol_val (v := .int .u32 (Arr.get a0 (bAnd .u32 (bXor .u32 (shR .u32 (bXor .u32 s1.1 (IntKind.u32.wrap (ix a2 s1.2))) 4) (Arr.get a0 (bAnd .u32 (bXor .u32 s1.1 (IntKind.u32.wrap (ix a2 s1.2))) 15))) 15))) (by exact xr_load1 (v := .int .u32 (Arr.get a0 (bAnd .u32 (bXor .u32 (shR .u32 (bXor .u32 s1.1 (IntKind.u32.wrap (ix a2 s1.2))) 4) (Arr.get a0 (bAnd .u32 (bXor .u32 s1.1 (IntKind.u32.wrap (ix a2 s1.2))) 15))) 15))) rfl ag191 rfl (At.arr (a := a0) (b_0.seg 0 rfl rfl) g11.1 g11.2)) rfl rfl rfl ?_
   refine ol_val (v := .int .u32 (bXor .u32 (shR .u32 (bXor .u32 (shR .u32 (bXor .u32 s1.1 (IntKind.u32.wrap (ix a2 s1.2))) 4) (Arr.get a0 (bAnd .u32 (bXor .u32 s1.1 (IntKind.u32.wrap (ix a2 s1.2))) 15))) 4) (Arr.get a0 (bAnd .u32 (bXor .u32 (shR .u32 (bXor .u32 s1.1 (IntKind.u32.wrap (ix a2 s1.2))) 4) (Arr.get a0 (bAnd .u32 (bXor .u32 s1.1 (IntKind.u32.wrap (ix a2 s1.2))) 15))) 15)))) (by exact xr_xor rfl rfl rfl) rfl rfl rfl ?_
   refine ol_val (v := .int .u32 (bXor .u32 (shR .u32 (bXor .u32 (shR .u32 (bXor .u32 s1.1 (IntKind.u32.wrap (ix a2 s1.2))) 4) (Arr.get a0 (bAnd .u32 (bXor .u32 s1.1 (IntKind.u32.wrap (ix a2 s1.2))) 15))) 4) (Arr.get a0 (bAnd .u32 (bXor .u32 (shR .u32 (bXor .u32 s1.1 (IntKind.u32.wrap (ix a2 s1.2))) 4) (Arr.get a0 (bAnd .u32 (bXor .u32 s1.1 (IntKind.u32.wrap (ix a2 s1.2))) 15))) 15)))) (by exact xr_assign rfl rfl) rfl rfl rfl ?_
   refine ol_nil ?_
   refine blk_i ?_
   refine cw_region ?_
   refine ol_val (v := .int .i64 (IntKind.i64.wrap (s1.2 + 1))) (by exact xr_add rfl e11 rfl) rfl rfl rfl ?_
   refine ol_val (v := .int .i64 (IntKind.i64.wrap (s1.2 + 1))) (by exact xr_move rfl rfl) rfl rfl rfl ?_
   refine ol_nil ?_
   obtain rfl := Option.some.inj h
   refine lp_in ?_
   exact ⟨e0, rfl, e9, e10, rfl, b_0, fB⟩
  refine cw_condF rfl c8 ?_
  refine cw_exit ?_
  repeat (first | with_reducible refine thn_e ?_ | with_reducible refine blk_e rfl ?_)
  obtain rfl := Option.some.inj h
  refine lp_exit ?_
  rintro rfl
  refine thn_x ?_
  exact ⟨e1, b_0, fB⟩
 rintro ρ12 w13 ⟨e1, b_0, fB⟩
 have h := h4
 refine cw_seq ?_
 refine cw_region ?_
 refine ol_val (v := .int .u32 e2) (by exact xr_move rfl e1) rfl rfl rfl ?_
 refine ol_val (v := .int .u32 e2) (by exact xr_assign rfl rfl) rfl rfl rfl ?_
 refine ol_nil ?_
 refine cw_ret ?_
 repeat (first | with_reducible refine thn_r ?_ | with_reducible refine blk_r ?_)
 obtain rfl := Option.some.inj h
 refine fin_ret1 Try.results155 rfl ?_
 exact ⟨_, rfl, rfl, fB⟩
end Go.Proofs.Ytklhbaghbmndeaa

/- rickyard/crc.Sum: its model, and that the Go function computes it: written by gen.py. -/
set_option linter.unusedVariables false
namespace Go.Proofs.Ytklhbaghbmndeaa
open Go Go.Xw
def crc_Sum.s0 (fu : Nat) (a0 : List (List Int)) (t1 : (Arr 16 Int)) : (Int × Int) → Option (Sum Int (Int × Int)) := fun s13 => (if (decide (s13.2 < (List.length a0 : Int))) = true then (if 0 ≤ s13.2 ∧ s13.2 < (List.length a0 : Int) then ((crc_register.f fu t1 s13.1 (ix a0 s13.2) : Option Int).bind fun t23 => some (Sum.inr (t23, (IntKind.i64.wrap (s13.2 + 1))))) else none) else some (Sum.inl (s13.1)))
def crc_Sum.f (fu : Nat) (a0 : List (List Int)) : Option Int := ((crc_Table.f fu : Option (Arr 16 Int)).bind fun t1 => ((loopM (crc_Sum.s0 fu a0 t1) fu (4294967295, 0)).bind fun e14 => some ((bXor .u32 e14 4294967295))))
set_option maxRecDepth 100000 in
set_option maxHeartbeats 400000 in
theorem crc_Sum.ok (fu : Nat) (w : World) (a0 : List (List Int)) (V0_0 : Value) (R0_0 : Rds (kI .u8) w V0_0 a0) (r : Int) (h : crc_Sum.f fu a0 = some r) :
  Calls Try.prog 149 (([V0_0] : List Value).toArray) w (fun e w' => ∃ v, e = .returned v ∧ v = .int .u32 r ∧ Gr w w') := by
 unfold crc_Sum.f at h
 have fB : Gr w w := Fr.refl _ _
 refine calls_cw Try.func149 rfl Try.ntmps149 rfl ?_
 refine cw_seq ?_
 refine cw_region ?_
 refine ol_val (v := .int .u32 0) (by exact xr_assign rfl rfl) rfl rfl rfl ?_
 refine ol_nil ?_
 refine cw_seq ?_
 refine cw_region ?_
 obtain ⟨t1, k2, h⟩ := bs h
 refine ol_op (by exact opv_call rfl cal154 an (crc_Table.ok fu _ _ k2)) rfl rfl rfl ?_
 rintro _ w4 ⟨rfl, q3⟩
 have fB := fB.gr q3
 refine ol_op (by exact opv_alloc (ss := [Kd.seg (kA 16 (kI .u32)) (Arr.rep 16 (0 : Int))]) rfl ze205 rfl) rfl rfl rfl ?_
 rintro _ w10 ⟨G5, rfl, b6, q7, z8⟩
 have z8 := Nat.le_trans fB.size z8
 have fB := fB.gr q7
 refine ol_op0 (by exact opv_store (ss' := [Kd.seg (kA 16 (kI .u32)) t1]) (xs := cellsOf [Kd.seg (kA 16 (kI .u32)) t1]) rfl sz205 rfl rfl rfl (len_cellsOf _) (one_cellsOf _) b6 (Spl.segs _ 0 1 [Kd.seg (kA 16 (kI .u32)) t1] rfl rfl)) rfl rfl ?_
 rintro _ w12 ⟨b6, q11⟩
 have fB := fB.wr q11 z8
 refine ol_val (v := .int .u32 4294967295) (by exact xr_assign rfl rfl) rfl rfl rfl ?_
 refine ol_nil ?_
 refine cw_seq ?_
 refine cw_seq ?_
 refine cw_region ?_
 refine ol_val (v := V0_0) (by exact xr_move rfl rfl) rfl rfl rfl ?_
 refine ol_val (v := .int .i64 (List.length a0 : Int)) (by exact xr_lenRs rfl Try.underlying100 rfl (R0_0.gr fB)) rfl rfl rfl ?_
 refine ol_val (v := .int .i64 0) (by exact xr_move rfl rfl) rfl rfl rfl ?_
 refine ol_nil ?_
 obtain ⟨e14, l15, h16⟩ := bs h
 refine cw_mid (fun ρ' w' => ρ' 4 = .int .u32 e14 ∧ Gr w w') ?_ ?_
 ·refine cw_block ?_
  refine cw_round (fun (s13 : Int × Int) ρ' w' => ρ' 3 = .pointer (some ⟨G5, 0, none⟩) ∧ ρ' 4 = .int .u32 s13.1 ∧ ρ' 8 = V0_0 ∧ ρ' 9 = .int .i64 (List.length a0 : Int) ∧ ρ' 10 = .int .i64 s13.2 ∧ Blk w' G5 205 [Kd.seg (kA 16 (kI .u32)) t1] ∧ Gr w w') l15 ?_ ?_
  ·skip
   exact ⟨rfl, rfl, rfl, rfl, rfl, b6, fB⟩
  rintro s13 x19 ρ17 w18 ⟨e3, e4, e8, e9, e10, b6, fB⟩ h
  unfold crc_Sum.s0 at h
  refine cw_seq ?_
  refine cw_region ?_
  refine ol_val (v := .bool (decide (s13.2 < (List.length a0 : Int)))) (by exact xr_lss rfl e10 e9) rfl rfl rfl ?_
  refine ol_nil ?_
  refine cw_seq ?_
  rcases is h with ⟨c20, h⟩ | ⟨c20, h⟩
  ·refine cw_condT rfl c20 ?_
   refine cw_skip ?_
   refine cw_seq ?_
   refine cw_block ?_
   refine cw_seq ?_
   refine cw_region ?_
   obtain ⟨g21, h⟩ := gs h
   refine ol_val (v := .pointer (some ⟨(sb V0_0), so V0_0 + Int.toNat s13.2 * 1, none⟩)) (by exact xr_indexRs (v := V0_0) rfl Try.underlying100 sz43 e8 (R0_0.gr fB) e10 g21.1 g21.2) rfl rfl rfl ?_
   refine ol_val (v := inner w18 V0_0 s13.2) (by exact xr_load1 (v := inner w18 V0_0 s13.2) rfl ag43 rfl ((R0_0.gr fB).elem g21.1 g21.2).1) rfl rfl rfl ?_
   have r22 : Rd (kI .u8) w18 (inner w18 V0_0 s13.2) (ix a0 s13.2) := ((R0_0.gr fB).elem g21.1 g21.2).2
   refine ol_val (v := inner w18 V0_0 s13.2) (by exact xr_assign rfl rfl) rfl rfl rfl ?_
   refine ol_nil ?_
   refine cw_region ?_
   refine ol_val (v := .int .u32 s13.1) (by exact xr_move rfl e4) rfl rfl rfl ?_
   refine ol_val (v := inner w18 V0_0 s13.2) (by exact xr_move rfl rfl) rfl rfl rfl ?_
   obtain ⟨t23, k24, h⟩ := bs h
   refine ol_op (by exact opv_call rfl cal155 (ac e3 (ac rfl (ac rfl an))) (crc_register.ok fu _ t1 G5 b6 s13.1 (ix a0 s13.2) (inner w18 V0_0 s13.2) (r22) _ k24)) rfl rfl rfl ?_
   rintro _ w26 ⟨rfl, q25⟩
   have b6 := b6.gr q25
   have fB := fB.gr q25
   refine ol_val (v := .int .u32 t23) (by exact xr_assign rfl rfl) rfl rfl rfl ?_
   refine ol_nil ?_
   refine blk_i ?_
   refine cw_region ?_
   refine ol_val (v := .int .i64 (IntKind.i64.wrap (s13.2 + 1))) (by exact xr_add rfl e10 rfl) rfl rfl rfl ?_
   refine ol_val (v := .int .i64 (IntKind.i64.wrap (s13.2 + 1))) (by exact xr_move rfl rfl) rfl rfl rfl ?_
   refine ol_nil ?_
   obtain rfl := Option.some.inj h
   refine lp_in ?_
   exact ⟨e3, rfl, e8, e9, rfl, b6, fB⟩
  refine cw_condF rfl c20 ?_
  refine cw_exit ?_
  repeat (first | with_reducible refine thn_e ?_ | with_reducible refine blk_e rfl ?_)
  obtain rfl := Option.some.inj h
  refine lp_exit ?_
  rintro rfl
  refine thn_x ?_
  exact ⟨e4, fB⟩
 rintro ρ27 w28 ⟨e4, fB⟩
 have h := h16
 refine cw_seq ?_
 refine cw_region ?_
 refine ol_val (v := .int .u32 e14) (by exact xr_move rfl e4) rfl rfl rfl ?_
 refine ol_val (v := .int .u32 (bXor .u32 e14 4294967295)) (by exact xr_xor rfl rfl rfl) rfl rfl rfl ?_
 refine ol_val (v := .int .u32 (bXor .u32 e14 4294967295)) (by exact xr_assign rfl rfl) rfl rfl rfl ?_
 refine ol_nil ?_
 refine cw_ret ?_
 repeat (first | with_reducible refine thn_r ?_ | with_reducible refine blk_r ?_)
 obtain rfl := Option.some.inj h
 refine fin_ret1 Try.results149 rfl ?_
 exact ⟨_, rfl, rfl, fB⟩
end Go.Proofs.Ytklhbaghbmndeaa

/- rickyard/rickyardref02.Step: its model, and that the Go function computes it: written by gen.py. -/
set_option linter.unusedVariables false
namespace Go.Proofs.Ytklhbaghbmndeaa
open Go Go.Xw
def rickyardref02_Step.f (fu : Nat) (a0 : Int) : Option Int := (if (decide ((Int.tmod a0 2) = 1)) = true then some ((bXor .u32 (IntKind.u32.wrap (Int.tdiv a0 2)) 2197175160)) else some ((IntKind.u32.wrap (Int.tdiv a0 2))))
set_option maxRecDepth 100000 in
set_option maxHeartbeats 400000 in
theorem rickyardref02_Step.ok (fu : Nat) (w : World) (a0 : Int) (r : Int) (h : rickyardref02_Step.f fu a0 = some r) :
  Calls Try.prog 153 (([.int .u32 a0] : List Value).toArray) w (fun e w' => ∃ v, e = .returned v ∧ v = .int .u32 r ∧ Gr w w') := by
 unfold rickyardref02_Step.f at h
 have fB : Gr w w := Fr.refl _ _
 refine calls_cw Try.func153 rfl Try.ntmps153 rfl ?_
 refine cw_seq ?_
 refine cw_region ?_
 refine ol_val (v := .int .u32 0) (by exact xr_assign rfl rfl) rfl rfl rfl ?_
 refine ol_nil ?_
 refine cw_seq ?_
 refine cw_seq ?_
 refine cw_region ?_
 refine ol_val (v := .int .u32 a0) (by exact xr_move rfl rfl) rfl rfl rfl ?_
 refine ol_val (v := .int .u32 (Int.tmod a0 2)) (by exact xr_rem rfl rfl rfl (by decide)) rfl rfl rfl ?_
 refine ol_val (v := .bool (decide ((Int.tmod a0 2) = 1))) (by exact xr_eqI rfl Try.underlying191 rfl rfl rfl) rfl rfl rfl ?_
 refine ol_nil ?_
 rcases is h with ⟨c1, h⟩ | ⟨c1, h⟩
 ·refine cw_condT rfl c1 ?_
  refine cw_seq ?_
  refine cw_region ?_
  refine ol_val (v := .int .u32 a0) (by exact xr_move rfl rfl) rfl rfl rfl ?_
  refine ol_val (v := .int .u32 (IntKind.u32.wrap (Int.tdiv a0 2))) (by exact xr_quo rfl rfl rfl (by decide)) rfl rfl rfl ?_
  refine ol_val (v := .int .u32 (bXor .u32 (IntKind.u32.wrap (Int.tdiv a0 2)) 2197175160)) (by exact xr_xor rfl rfl rfl) rfl rfl rfl ?_
  refine ol_val (v := .int .u32 (bXor .u32 (IntKind.u32.wrap (Int.tdiv a0 2)) 2197175160)) (by exact xr_assign rfl rfl) rfl rfl rfl ?_
  refine ol_nil ?_
  refine cw_ret ?_
  repeat (first | with_reducible refine thn_r ?_ | with_reducible refine blk_r ?_)
  obtain rfl := Option.some.inj h
  refine fin_ret1 Try.results153 rfl ?_
  exact ⟨_, rfl, rfl, fB⟩
 refine cw_condF rfl c1 ?_
 refine cw_skip ?_
 refine cw_seq ?_
 refine cw_region ?_
 refine ol_val (v := .int .u32 a0) (by exact xr_move rfl rfl) rfl rfl rfl ?_
 refine ol_val (v := .int .u32 (IntKind.u32.wrap (Int.tdiv a0 2))) (by exact xr_quo rfl rfl rfl (by decide)) rfl rfl rfl ?_
 refine ol_val (v := .int .u32 (IntKind.u32.wrap (Int.tdiv a0 2))) (by exact xr_assign rfl rfl) rfl rfl rfl ?_
 refine ol_nil ?_
 refine cw_ret ?_
 repeat (first | with_reducible refine thn_r ?_ | with_reducible refine blk_r ?_)
 obtain rfl := Option.some.inj h
 refine fin_ret1 Try.results153 rfl ?_
 exact ⟨_, rfl, rfl, fB⟩
end Go.Proofs.Ytklhbaghbmndeaa
