/- RootLays: texts merged, part 7 of 8. The last part proves that the law RootLays holds for every input. -/
import Derived.Test.YtklhbaghbmndeaaPkRootLays6
import Derived.ProofKit
import Derived.OpenShut
import Derived.ChangeOld
import Derived.Below
import Derived.SizedLaws
import Derived.WalkKit
set_option maxRecDepth 100000
set_option maxHeartbeats 4000000
set_option linter.unusedVariables false
set_option linter.unusedSimpArgs false
namespace Go.Proofs.Ytklhbaghbmndeaa
open Go Go.Xw
def rickyardref16_Lay.s0 (fu : Nat) (a1 : Int) (t27 : (List UInt8)) : (Int × Int × (List Int) × (List Int) × (List Int) × (List Bool) × (List Int) × Int × Int × Int) → Option (Sum (Int × (List Int) × (List Int) × (List Int) × (List Bool) × (List Int) × Int × Int × Int) (Int × Int × (List Int) × (List Int) × (List Int) × (List Bool) × (List Int) × Int × Int × Int)) := fun s116 => (if (if (decide (s116.2.1 < 8)) = true then (decide (s116.1 = 0)) else false) = true then (if (0 : Int) ≤ (IntKind.i64.wrap (8 * s116.2.1)) ∧ (IntKind.i64.wrap (8 * s116.2.1)) ≤ (IntKind.i64.wrap ((IntKind.i64.wrap (8 * s116.2.1)) + 8)) ∧ (IntKind.i64.wrap ((IntKind.i64.wrap (8 * s116.2.1)) + 8)) ≤ (List.length t27 : Int) then ((rickyardref01_Number.f fu (cut t27 (IntKind.i64.wrap (8 * s116.2.1)) (IntKind.i64.wrap ((IntKind.i64.wrap (8 * s116.2.1)) + 8)))).bind fun t173 => ((rickyardref05_Device_Store.f fu (⟨s116.2.2.1, s116.2.2.2.1, s116.2.2.2.2.1, s116.2.2.2.2.2.1, s116.2.2.2.2.2.2.1, s116.2.2.2.2.2.2.2.1, s116.2.2.2.2.2.2.2.2.1, s116.2.2.2.2.2.2.2.2.2⟩ : S_rickyardref05_Device) (IntKind.i64.wrap ((IntKind.i64.wrap (8 * a1)) + s116.2.1)) t173).bind fun t177 => some (Sum.inr (t177.1, (IntKind.i64.wrap (s116.2.1 + 1)), t177.2.Lasts, t177.2.Stored, t177.2.Sent, t177.2.Flushed, t177.2.Plan, t177.2.Since, t177.2.Left, t177.2.Steps)))) else none) else some (Sum.inl (s116.1, s116.2.2.1, s116.2.2.2.1, s116.2.2.2.2.1, s116.2.2.2.2.2.1, s116.2.2.2.2.2.2.1, s116.2.2.2.2.2.2.2.1, s116.2.2.2.2.2.2.2.2.1, s116.2.2.2.2.2.2.2.2.2)))
def rickyardref16_Lay.f (fu : Nat) (a0 : S_rickyardref05_Device) (a1 : Int) (a2 : S_api_Super) : Option (Int × S_rickyardref05_Device) := ((rickyardref13_Put.f fu a2).bind fun t27 => ((rickyardref15_Word.f fu a0 a1 0 0).bind fun t31 => (((if (decide (t31.1 = 0)) = true then ((rickyardref05_Device_Fence.f fu t31.2).bind fun t86 => some (t86.1, t86.2.Lasts, t86.2.Stored, t86.2.Sent, t86.2.Flushed, t86.2.Plan, t86.2.Since, t86.2.Left, t86.2.Steps)) else some (t31.1, t31.2.Lasts, t31.2.Stored, t31.2.Sent, t31.2.Flushed, t31.2.Plan, t31.2.Since, t31.2.Left, t31.2.Steps)) : Option (Int × (List Int) × (List Int) × (List Int) × (List Bool) × (List Int) × Int × Int × Int)).bind fun x59 => ((loopM (rickyardref16_Lay.s0 fu a1 t27) fu (x59.1, 1, x59.2.1, x59.2.2.1, x59.2.2.2.1, x59.2.2.2.2.1, x59.2.2.2.2.2.1, x59.2.2.2.2.2.2.1, x59.2.2.2.2.2.2.2.1, x59.2.2.2.2.2.2.2.2)).bind fun e117 => (((if (decide (e117.1 = 0)) = true then ((rickyardref05_Device_Flush.f fu (⟨e117.2.1, e117.2.2.1, e117.2.2.2.1, e117.2.2.2.2.1, e117.2.2.2.2.2.1, e117.2.2.2.2.2.2.1, e117.2.2.2.2.2.2.2.1, e117.2.2.2.2.2.2.2.2⟩ : S_rickyardref05_Device) a1).bind fun t234 => some (t234.1, t234.2.Lasts, t234.2.Stored, t234.2.Sent, t234.2.Flushed, t234.2.Plan, t234.2.Since, t234.2.Left, t234.2.Steps)) else some (e117.1, e117.2.1, e117.2.2.1, e117.2.2.2.1, e117.2.2.2.2.1, e117.2.2.2.2.2.1, e117.2.2.2.2.2.2.1, e117.2.2.2.2.2.2.2.1, e117.2.2.2.2.2.2.2.2)) : Option (Int × (List Int) × (List Int) × (List Int) × (List Bool) × (List Int) × Int × Int × Int)).bind fun x207 => (((if (decide (x207.1 = 0)) = true then ((rickyardref05_Device_Fence.f fu (⟨x207.2.1, x207.2.2.1, x207.2.2.2.1, x207.2.2.2.2.1, x207.2.2.2.2.2.1, x207.2.2.2.2.2.2.1, x207.2.2.2.2.2.2.2.1, x207.2.2.2.2.2.2.2.2⟩ : S_rickyardref05_Device)).bind fun t291 => some (t291.1, t291.2.Lasts, t291.2.Stored, t291.2.Sent, t291.2.Flushed, t291.2.Plan, t291.2.Since, t291.2.Left, t291.2.Steps)) else some (x207.1, x207.2.1, x207.2.2.1, x207.2.2.2.1, x207.2.2.2.2.1, x207.2.2.2.2.2.1, x207.2.2.2.2.2.2.1, x207.2.2.2.2.2.2.2.1, x207.2.2.2.2.2.2.2.2)) : Option (Int × (List Int) × (List Int) × (List Int) × (List Bool) × (List Int) × Int × Int × Int)).bind fun x264 => (((if (decide (x264.1 = 0)) = true then (if (8 : Int) ≤ (List.length t27 : Int) then ((rickyardref01_Number.f fu (cut t27 0 8)).bind fun t349 => ((rickyardref15_Word.f fu (⟨x264.2.1, x264.2.2.1, x264.2.2.2.1, x264.2.2.2.2.1, x264.2.2.2.2.2.1, x264.2.2.2.2.2.2.1, x264.2.2.2.2.2.2.2.1, x264.2.2.2.2.2.2.2.2⟩ : S_rickyardref05_Device) a1 0 t349).bind fun t353 => some (t353.1, t353.2.Lasts, t353.2.Stored, t353.2.Sent, t353.2.Flushed, t353.2.Plan, t353.2.Since, t353.2.Left, t353.2.Steps))) else none) else some (x264.1, x264.2.1, x264.2.2.1, x264.2.2.2.1, x264.2.2.2.2.1, x264.2.2.2.2.2.1, x264.2.2.2.2.2.2.1, x264.2.2.2.2.2.2.2.1, x264.2.2.2.2.2.2.2.2)) : Option (Int × (List Int) × (List Int) × (List Int) × (List Bool) × (List Int) × Int × Int × Int)).bind fun x321 => (((if (decide (x321.1 = 0)) = true then ((rickyardref05_Device_Fence.f fu (⟨x321.2.1, x321.2.2.1, x321.2.2.2.1, x321.2.2.2.2.1, x321.2.2.2.2.2.1, x321.2.2.2.2.2.2.1, x321.2.2.2.2.2.2.2.1, x321.2.2.2.2.2.2.2.2⟩ : S_rickyardref05_Device)).bind fun t410 => some (t410.1, t410.2.Lasts, t410.2.Stored, t410.2.Sent, t410.2.Flushed, t410.2.Plan, t410.2.Since, t410.2.Left, t410.2.Steps)) else some (x321.1, x321.2.1, x321.2.2.1, x321.2.2.2.1, x321.2.2.2.2.1, x321.2.2.2.2.2.1, x321.2.2.2.2.2.2.1, x321.2.2.2.2.2.2.2.1, x321.2.2.2.2.2.2.2.2)) : Option (Int × (List Int) × (List Int) × (List Int) × (List Bool) × (List Int) × Int × Int × Int)).bind fun x383 => some (x383.1, (⟨x383.2.1, x383.2.2.1, x383.2.2.2.1, x383.2.2.2.2.1, x383.2.2.2.2.2.1, x383.2.2.2.2.2.2.1, x383.2.2.2.2.2.2.2.1, x383.2.2.2.2.2.2.2.2⟩ : S_rickyardref05_Device))))))))))
theorem rickyardref16_Lay.ok (fu : Nat) (w : World) (a0 : S_rickyardref05_Device) (G_0 : Nat) (V0_0 : Value) (O0_0 : Own (kI .u64) 22 w 0 V0_0 a0.Lasts) (V0_1 : Value) (O0_1 : Own (kI .u64) 22 w 0 V0_1 a0.Stored) (V0_2 : Value) (O0_2 : Own (kI .u64) 22 w 0 V0_2 a0.Sent) (V0_3 : Value) (O0_3 : Own kB 4 w 0 V0_3 a0.Flushed) (V0_4 : Value) (O0_4 : Own (kI .i64) 3 w 0 V0_4 a0.Plan) (b_0 : Blk w G_0 65 [Seg.cell V0_0 O0_0.one, Seg.cell V0_1 O0_1.one, Seg.cell V0_2 O0_2.one, Seg.cell V0_3 O0_3.one, Seg.cell V0_4 O0_4.one, (sI a0.Since), (sI a0.Left), (sI a0.Steps)]) (a1 : Int) (a2 : S_api_Super) (V2_0 : Value) (R2_0 : Rd (kI .i64) w V2_0 a2.Charts) (A_R0_0_R0_1 : OffV V0_0 V0_1) (A_R0_0_R0_2 : OffV V0_0 V0_2) (A_R0_1_R0_2 : OffV V0_1 V0_2) (NR2_0_P0 : OffR V2_0 a2.Charts G_0) (NR2_0_R0_0 : OffRV V2_0 a2.Charts V0_0) (NR2_0_R0_1 : OffRV V2_0 a2.Charts V0_1) (NR2_0_R0_2 : OffRV V2_0 a2.Charts V0_2) (NR2_0_R0_3 : OffRV V2_0 a2.Charts V0_3) (NR2_0_R0_4 : OffRV V2_0 a2.Charts V0_4) (r : Int × S_rickyardref05_Device) (h : rickyardref16_Lay.f fu a0 a1 a2 = some r) :
  Calls Try.prog 79 (([(pt G_0 0), .int .i64 a1, aggV [(sI a2.Epoch), (sI a2.Tickets.Geometry.Blocks), (sI a2.Tickets.Geometry.Slots), (sI a2.Tickets.Geometry.Gens), (sI a2.Tickets.Top), (sI a2.Tickets.High), (sI a2.Tickets.Free), (sI a2.Dir), Seg.cell V2_0 R2_0.one]] : List Value).toArray) w (fun e w' => ∃ v, e = .returned v ∧ ∃ u1 : Value, ∃ u4 : Value, ∃ u7 : Value, ∃ u10 : Value, ∃ u13 : Value, ∃ o2 : Own (kI .u64) 22 w' 0 u1 r.2.Lasts, ∃ m3 : ∀ g, Value.ownBlock u1 = some g → w.heap.size ≤ g ∨ (g = G_0 ∨ some g = Value.ownBlock V0_0 ∨ some g = Value.ownBlock V0_1 ∨ some g = Value.ownBlock V0_2 ∨ some g = Value.ownBlock V0_3 ∨ some g = Value.ownBlock V0_4), ∃ o5 : Own (kI .u64) 22 w' 0 u4 r.2.Stored, ∃ m6 : ∀ g, Value.ownBlock u4 = some g → w.heap.size ≤ g ∨ (g = G_0 ∨ some g = Value.ownBlock V0_0 ∨ some g = Value.ownBlock V0_1 ∨ some g = Value.ownBlock V0_2 ∨ some g = Value.ownBlock V0_3 ∨ some g = Value.ownBlock V0_4), ∃ o8 : Own (kI .u64) 22 w' 0 u7 r.2.Sent, ∃ m9 : ∀ g, Value.ownBlock u7 = some g → w.heap.size ≤ g ∨ (g = G_0 ∨ some g = Value.ownBlock V0_0 ∨ some g = Value.ownBlock V0_1 ∨ some g = Value.ownBlock V0_2 ∨ some g = Value.ownBlock V0_3 ∨ some g = Value.ownBlock V0_4), ∃ o11 : Own kB 4 w' 0 u10 r.2.Flushed, ∃ m12 : ∀ g, Value.ownBlock u10 = some g → w.heap.size ≤ g ∨ (g = G_0 ∨ some g = Value.ownBlock V0_0 ∨ some g = Value.ownBlock V0_1 ∨ some g = Value.ownBlock V0_2 ∨ some g = Value.ownBlock V0_3 ∨ some g = Value.ownBlock V0_4), ∃ o14 : Own (kI .i64) 3 w' 0 u13 r.2.Plan, ∃ m15 : ∀ g, Value.ownBlock u13 = some g → w.heap.size ≤ g ∨ (g = G_0 ∨ some g = Value.ownBlock V0_0 ∨ some g = Value.ownBlock V0_1 ∨ some g = Value.ownBlock V0_2 ∨ some g = Value.ownBlock V0_3 ∨ some g = Value.ownBlock V0_4), ∃ a16 : OffV u1 u4, ∃ a17 : OffV u1 u7, ∃ a18 : OffV u4 u7, v = .int .i64 r.1 ∧ Blk w' G_0 65 [Seg.cell u1 o2.one, Seg.cell u4 o5.one, Seg.cell u7 o8.one, Seg.cell u10 o11.one, Seg.cell u13 o14.one, (sI r.2.Since), (sI r.2.Left), (sI r.2.Steps)] ∧ Fr (fun j => j = G_0 ∨ some j = Value.ownBlock V0_0 ∨ some j = Value.ownBlock V0_1 ∨ some j = Value.ownBlock V0_2 ∨ some j = Value.ownBlock V0_3 ∨ some j = Value.ownBlock V0_4) w w') := by
 unfold rickyardref16_Lay.f at h
 have fB : Fr (fun j => j = G_0 ∨ some j = Value.ownBlock V0_0 ∨ some j = Value.ownBlock V0_1 ∨ some j = Value.ownBlock V0_2 ∨ some j = Value.ownBlock V0_3 ∨ some j = Value.ownBlock V0_4) w w := Fr.refl _ _
 have M0_0 : ∀ g, Value.ownBlock V0_0 = some g → w.heap.size ≤ g ∨ (g = G_0 ∨ some g = Value.ownBlock V0_0 ∨ some g = Value.ownBlock V0_1 ∨ some g = Value.ownBlock V0_2 ∨ some g = Value.ownBlock V0_3 ∨ some g = Value.ownBlock V0_4) := fun g hg => .inr (.inr (.inl hg.symm))
 have M0_1 : ∀ g, Value.ownBlock V0_1 = some g → w.heap.size ≤ g ∨ (g = G_0 ∨ some g = Value.ownBlock V0_0 ∨ some g = Value.ownBlock V0_1 ∨ some g = Value.ownBlock V0_2 ∨ some g = Value.ownBlock V0_3 ∨ some g = Value.ownBlock V0_4) := fun g hg => .inr (.inr (.inr (.inl hg.symm)))
 have M0_2 : ∀ g, Value.ownBlock V0_2 = some g → w.heap.size ≤ g ∨ (g = G_0 ∨ some g = Value.ownBlock V0_0 ∨ some g = Value.ownBlock V0_1 ∨ some g = Value.ownBlock V0_2 ∨ some g = Value.ownBlock V0_3 ∨ some g = Value.ownBlock V0_4) := fun g hg => .inr (.inr (.inr (.inr (.inl hg.symm))))
 have M0_3 : ∀ g, Value.ownBlock V0_3 = some g → w.heap.size ≤ g ∨ (g = G_0 ∨ some g = Value.ownBlock V0_0 ∨ some g = Value.ownBlock V0_1 ∨ some g = Value.ownBlock V0_2 ∨ some g = Value.ownBlock V0_3 ∨ some g = Value.ownBlock V0_4) := fun g hg => .inr (.inr (.inr (.inr (.inr (.inl hg.symm)))))
 have M0_4 : ∀ g, Value.ownBlock V0_4 = some g → w.heap.size ≤ g ∨ (g = G_0 ∨ some g = Value.ownBlock V0_0 ∨ some g = Value.ownBlock V0_1 ∨ some g = Value.ownBlock V0_2 ∨ some g = Value.ownBlock V0_3 ∨ some g = Value.ownBlock V0_4) := fun g hg => .inr (.inr (.inr (.inr (.inr (.inr hg.symm)))))
 refine calls_cw Try.func79 rfl Try.ntmps79 rfl ?_
 refine cw_seq ?_
 refine cw_region ?_
 refine ol_op (opv_box (ss := [(sI a2.Epoch), (sI a2.Tickets.Geometry.Blocks), (sI a2.Tickets.Geometry.Slots), (sI a2.Tickets.Geometry.Gens), (sI a2.Tickets.Top), (sI a2.Tickets.High), (sI a2.Tickets.Free), (sI a2.Dir), Seg.cell V2_0 R2_0.one]) rfl rfl rfl) rfl rfl rfl ?_
 rintro _ w24 ⟨G19, rfl, b20, q21, z22⟩
 have n25 := b_0.ne z22
 have a26 := OffR.new R2_0 z22 rfl
 have z22 := Nat.le_trans fB.size z22
 have b_0 := b_0.gr q21
 have O0_0 := O0_0.gr q21
 have O0_1 := O0_1.gr q21
 have O0_2 := O0_2.gr q21
 have O0_3 := O0_3.gr q21
 have O0_4 := O0_4.gr q21
 have R2_0 := R2_0.gr q21
 have fB := fB.gr q21
 refine ol_val (v := .int .i64 0) (xr_assign rfl rfl) rfl rfl rfl ?_
 refine ol_nil ?_
 refine cw_seq ?_
 refine cw_region ?_
 refine ol_val (v := aggV [(sI a2.Epoch), (sI a2.Tickets.Geometry.Blocks), (sI a2.Tickets.Geometry.Slots), (sI a2.Tickets.Geometry.Gens), (sI a2.Tickets.Top), (sI a2.Tickets.High), (sI a2.Tickets.Free), (sI a2.Dir), Seg.cell V2_0 R2_0.one]) (xr_loadS (ss := [(sI a2.Epoch), (sI a2.Tickets.Geometry.Blocks), (sI a2.Tickets.Geometry.Slots), (sI a2.Tickets.Geometry.Gens), (sI a2.Tickets.Top), (sI a2.Tickets.High), (sI a2.Tickets.Free), (sI a2.Dir), Seg.cell V2_0 R2_0.one]) rfl ag110 sz110 rfl rfl (b20.segs 0 9 rfl)) rfl rfl rfl ?_
 obtain ⟨t27, k28, h⟩ := bs h
 refine ol_op (opv_call rfl cal76 (ac rfl an) (rickyardref13_Put.ok fu _ a2 V2_0 (R2_0) _ k28)) rfl rfl rfl ?_
 rintro _ w30 ⟨rfl, q29⟩
 have b_0 := b_0.gr q29
 have O0_0 := O0_0.gr q29
 have O0_1 := O0_1.gr q29
 have O0_2 := O0_2.gr q29
 have O0_3 := O0_3.gr q29
 have O0_4 := O0_4.gr q29
 have fB := fB.gr q29
 refine ol_val (v := sv t27) (xr_assign rfl rfl) rfl rfl rfl ?_
 refine ol_nil ?_
 refine cw_seq ?_
 refine cw_region ?_
 refine ol_val (v := (pt G_0 0)) (xr_move rfl rfl) rfl rfl rfl ?_
 refine ol_val (v := .int .i64 a1) (xr_move rfl rfl) rfl rfl rfl ?_
 obtain ⟨t31, k32, h⟩ := bs h
 have c57 : ∀ k, (k = G_0 ∨ some k = Value.ownBlock V0_0 ∨ some k = Value.ownBlock V0_1 ∨ some k = Value.ownBlock V0_2 ∨ some k = Value.ownBlock V0_3 ∨ some k = Value.ownBlock V0_4) → (w.heap.size ≤ k ∨ (k = G_0 ∨ some k = Value.ownBlock V0_0 ∨ some k = Value.ownBlock V0_1 ∨ some k = Value.ownBlock V0_2 ∨ some k = Value.ownBlock V0_3 ∨ some k = Value.ownBlock V0_4)) := (cv_or (cv_eq (.inr (.inl rfl))) (cv_or (cv_own M0_0) (cv_or (cv_own M0_1) (cv_or (cv_own M0_2) (cv_or (cv_own M0_3) (cv_own M0_4))))))
 refine ol_op (opv_call rfl cal106 (ac rfl (ac rfl (ac rfl (ac rfl an)))) (rickyardref15_Word.ok fu _ a0 G_0 V0_0 (Own.base O0_0 (Nat.zero_le _)) V0_1 (Own.base O0_1 (Nat.zero_le _)) V0_2 (Own.base O0_2 (Nat.zero_le _)) V0_3 (Own.base O0_3 (Nat.zero_le _)) V0_4 (Own.base O0_4 (Nat.zero_le _)) b_0 a1 0 0 A_R0_0_R0_1 A_R0_0_R0_2 A_R0_1_R0_2 _ k32)) rfl rfl rfl ?_
 rintro _ w58 ⟨u34, u38, u42, u46, u50, o35, m36, o39, m40, o43, m44, o47, m48, o51, m52, a54, a55, a56, rfl, b_0, q33⟩
 have m36 : ∀ g, Value.ownBlock u34 = some g → w.heap.size ≤ g ∨ (g = G_0 ∨ some g = Value.ownBlock V0_0 ∨ some g = Value.ownBlock V0_1 ∨ some g = Value.ownBlock V0_2 ∨ some g = Value.ownBlock V0_3 ∨ some g = Value.ownBlock V0_4) := fun g hg => (m36 g hg).elim (fun x => .inl (Nat.le_trans fB.size x)) (c57 g)
 have m40 : ∀ g, Value.ownBlock u38 = some g → w.heap.size ≤ g ∨ (g = G_0 ∨ some g = Value.ownBlock V0_0 ∨ some g = Value.ownBlock V0_1 ∨ some g = Value.ownBlock V0_2 ∨ some g = Value.ownBlock V0_3 ∨ some g = Value.ownBlock V0_4) := fun g hg => (m40 g hg).elim (fun x => .inl (Nat.le_trans fB.size x)) (c57 g)
 have m44 : ∀ g, Value.ownBlock u42 = some g → w.heap.size ≤ g ∨ (g = G_0 ∨ some g = Value.ownBlock V0_0 ∨ some g = Value.ownBlock V0_1 ∨ some g = Value.ownBlock V0_2 ∨ some g = Value.ownBlock V0_3 ∨ some g = Value.ownBlock V0_4) := fun g hg => (m44 g hg).elim (fun x => .inl (Nat.le_trans fB.size x)) (c57 g)
 have m48 : ∀ g, Value.ownBlock u46 = some g → w.heap.size ≤ g ∨ (g = G_0 ∨ some g = Value.ownBlock V0_0 ∨ some g = Value.ownBlock V0_1 ∨ some g = Value.ownBlock V0_2 ∨ some g = Value.ownBlock V0_3 ∨ some g = Value.ownBlock V0_4) := fun g hg => (m48 g hg).elim (fun x => .inl (Nat.le_trans fB.size x)) (c57 g)
 have m52 : ∀ g, Value.ownBlock u50 = some g → w.heap.size ≤ g ∨ (g = G_0 ∨ some g = Value.ownBlock V0_0 ∨ some g = Value.ownBlock V0_1 ∨ some g = Value.ownBlock V0_2 ∨ some g = Value.ownBlock V0_3 ∨ some g = Value.ownBlock V0_4) := fun g hg => (m52 g hg).elim (fun x => .inl (Nat.le_trans fB.size x)) (c57 g)
 have fB := fB.call q33 c57
 refine ol_val (v := .int .i64 t31.1) (xr_assign rfl rfl) rfl rfl rfl ?_
 refine ol_nil ?_
 refine cw_seq ?_
 refine cw_seq ?_
 refine cw_region ?_
 refine ol_val (v := .int .i64 t31.1) (xr_move rfl rfl) rfl rfl rfl ?_
 refine ol_val (v := .bool (decide (t31.1 = 0))) (xr_eqI rfl Try.underlying3 rfl rfl rfl) rfl rfl rfl ?_
 refine ol_nil ?_
 obtain ⟨x59, j60, h61⟩ := bs h
 refine cw_mid (fun ρ' w' => ∃ v62 : Value, ∃ v66 : Value, ∃ v70 : Value, ∃ v74 : Value, ∃ v78 : Value, ∃ o63 : Own (kI .u64) 22 w' 0 v62 x59.2.1, ∃ o67 : Own (kI .u64) 22 w' 0 v66 x59.2.2.1, ∃ o71 : Own (kI .u64) 22 w' 0 v70 x59.2.2.2.1, ∃ o75 : Own kB 4 w' 0 v74 x59.2.2.2.2.1, ∃ o79 : Own (kI .i64) 3 w' 0 v78 x59.2.2.2.2.2.1, ∃ m65 : ∀ g, Value.ownBlock v62 = some g → w.heap.size ≤ g ∨ (g = G_0 ∨ some g = Value.ownBlock V0_0 ∨ some g = Value.ownBlock V0_1 ∨ some g = Value.ownBlock V0_2 ∨ some g = Value.ownBlock V0_3 ∨ some g = Value.ownBlock V0_4), ∃ m69 : ∀ g, Value.ownBlock v66 = some g → w.heap.size ≤ g ∨ (g = G_0 ∨ some g = Value.ownBlock V0_0 ∨ some g = Value.ownBlock V0_1 ∨ some g = Value.ownBlock V0_2 ∨ some g = Value.ownBlock V0_3 ∨ some g = Value.ownBlock V0_4), ∃ m73 : ∀ g, Value.ownBlock v70 = some g → w.heap.size ≤ g ∨ (g = G_0 ∨ some g = Value.ownBlock V0_0 ∨ some g = Value.ownBlock V0_1 ∨ some g = Value.ownBlock V0_2 ∨ some g = Value.ownBlock V0_3 ∨ some g = Value.ownBlock V0_4), ∃ m77 : ∀ g, Value.ownBlock v74 = some g → w.heap.size ≤ g ∨ (g = G_0 ∨ some g = Value.ownBlock V0_0 ∨ some g = Value.ownBlock V0_1 ∨ some g = Value.ownBlock V0_2 ∨ some g = Value.ownBlock V0_3 ∨ some g = Value.ownBlock V0_4), ∃ m81 : ∀ g, Value.ownBlock v78 = some g → w.heap.size ≤ g ∨ (g = G_0 ∨ some g = Value.ownBlock V0_0 ∨ some g = Value.ownBlock V0_1 ∨ some g = Value.ownBlock V0_2 ∨ some g = Value.ownBlock V0_3 ∨ some g = Value.ownBlock V0_4), OffV v62 v66 ∧ OffV v62 v70 ∧ OffV v66 v70 ∧ ρ' 0 = (pt G_0 0) ∧ ρ' 1 = .int .i64 a1 ∧ ρ' 7 = sv t27 ∧ ρ' 8 = .int .i64 x59.1 ∧ Blk w' G_0 65 [Seg.cell v62 o63.one, Seg.cell v66 o67.one, Seg.cell v70 o71.one, Seg.cell v74 o75.one, Seg.cell v78 o79.one, (sI x59.2.2.2.2.2.2.1), (sI x59.2.2.2.2.2.2.2.1), (sI x59.2.2.2.2.2.2.2.2)] ∧ Fr (fun j => j = G_0 ∨ some j = Value.ownBlock V0_0 ∨ some j = Value.ownBlock V0_1 ∨ some j = Value.ownBlock V0_2 ∨ some j = Value.ownBlock V0_3 ∨ some j = Value.ownBlock V0_4) w w') ?_ ?_
 ·have h := j60
  rcases is h with ⟨c85, h⟩ | ⟨c85, h⟩
  ·refine cw_condT rfl c85 ?_
   refine cw_region ?_
   refine ol_val (v := (pt G_0 0)) (xr_move rfl rfl) rfl rfl rfl ?_
   obtain ⟨t86, k87, h⟩ := bs h
   have c112 : ∀ k, (k = G_0 ∨ some k = Value.ownBlock u34 ∨ some k = Value.ownBlock u38 ∨ some k = Value.ownBlock u42 ∨ some k = Value.ownBlock u46 ∨ some k = Value.ownBlock u50) → (w.heap.size ≤ k ∨ (k = G_0 ∨ some k = Value.ownBlock V0_0 ∨ some k = Value.ownBlock V0_1 ∨ some k = Value.ownBlock V0_2 ∨ some k = Value.ownBlock V0_3 ∨ some k = Value.ownBlock V0_4)) := (cv_or (cv_eq (.inr (.inl rfl))) (cv_or (cv_own m36) (cv_or (cv_own m40) (cv_or (cv_own m44) (cv_or (cv_own m48) (cv_own m52))))))
   refine ol_op (opv_call rfl cal95 (ac rfl an) (rickyardref05_Device_Fence.ok fu _ t31.2 G_0 u34 (Own.base o35 (Nat.zero_le _)) u38 (Own.base o39 (Nat.zero_le _)) u42 (Own.base o43 (Nat.zero_le _)) u46 (Own.base o47 (Nat.zero_le _)) u50 (Own.base o51 (Nat.zero_le _)) b_0 a54 a55 a56 _ k87)) rfl rfl rfl ?_
   rintro _ w113 ⟨u89, u93, u97, u101, u105, o90, m91, o94, m95, o98, m99, o102, m103, o106, m107, a109, a110, a111, rfl, b_0, q88⟩
   have m91 : ∀ g, Value.ownBlock u89 = some g → w.heap.size ≤ g ∨ (g = G_0 ∨ some g = Value.ownBlock V0_0 ∨ some g = Value.ownBlock V0_1 ∨ some g = Value.ownBlock V0_2 ∨ some g = Value.ownBlock V0_3 ∨ some g = Value.ownBlock V0_4) := fun g hg => (m91 g hg).elim (fun x => .inl (Nat.le_trans fB.size x)) (c112 g)
   have m95 : ∀ g, Value.ownBlock u93 = some g → w.heap.size ≤ g ∨ (g = G_0 ∨ some g = Value.ownBlock V0_0 ∨ some g = Value.ownBlock V0_1 ∨ some g = Value.ownBlock V0_2 ∨ some g = Value.ownBlock V0_3 ∨ some g = Value.ownBlock V0_4) := fun g hg => (m95 g hg).elim (fun x => .inl (Nat.le_trans fB.size x)) (c112 g)
   have m99 : ∀ g, Value.ownBlock u97 = some g → w.heap.size ≤ g ∨ (g = G_0 ∨ some g = Value.ownBlock V0_0 ∨ some g = Value.ownBlock V0_1 ∨ some g = Value.ownBlock V0_2 ∨ some g = Value.ownBlock V0_3 ∨ some g = Value.ownBlock V0_4) := fun g hg => (m99 g hg).elim (fun x => .inl (Nat.le_trans fB.size x)) (c112 g)
   have m103 : ∀ g, Value.ownBlock u101 = some g → w.heap.size ≤ g ∨ (g = G_0 ∨ some g = Value.ownBlock V0_0 ∨ some g = Value.ownBlock V0_1 ∨ some g = Value.ownBlock V0_2 ∨ some g = Value.ownBlock V0_3 ∨ some g = Value.ownBlock V0_4) := fun g hg => (m103 g hg).elim (fun x => .inl (Nat.le_trans fB.size x)) (c112 g)
   have m107 : ∀ g, Value.ownBlock u105 = some g → w.heap.size ≤ g ∨ (g = G_0 ∨ some g = Value.ownBlock V0_0 ∨ some g = Value.ownBlock V0_1 ∨ some g = Value.ownBlock V0_2 ∨ some g = Value.ownBlock V0_3 ∨ some g = Value.ownBlock V0_4) := fun g hg => (m107 g hg).elim (fun x => .inl (Nat.le_trans fB.size x)) (c112 g)
   have fB := fB.call q88 c112
   refine ol_val (v := .int .i64 t86.1) (xr_assign rfl rfl) rfl rfl rfl ?_
   refine ol_nil ?_
   obtain rfl := Option.some.inj h
   refine thn_i ?_
   exact ⟨u89, u93, u97, u101, u105, o90, o94, o98, o102, o106, m91, m95, m99, m103, m107, a109, a110, a111, rfl, rfl, rfl, rfl, b_0, fB⟩
  refine cw_condF rfl c85 ?_
  refine cw_skip ?_
  obtain rfl := Option.some.inj h
  refine thn_i ?_
  exact ⟨u34, u38, u42, u46, u50, o35, o39, o43, o47, o51, m36, m40, m44, m48, m52, a54, a55, a56, rfl, rfl, rfl, rfl, b_0, fB⟩
 rintro ρ114 w115 ⟨v62, v66, v70, v74, v78, o63, o67, o71, o75, o79, m65, m69, m73, m77, m81, a82, a83, a84, e0, e1, e7, e8, b_0, fB⟩
 have h := h61
 refine cw_seq ?_
 refine cw_seq ?_
 refine cw_region ?_
 refine ol_val (v := .int .i64 1) (xr_assign rfl rfl) rfl rfl rfl ?_
 refine ol_nil ?_
 obtain ⟨e117, l118, h119⟩ := bs h
 refine cw_mid (fun ρ' w' => ∃ v120 : Value, ∃ v124 : Value, ∃ v128 : Value, ∃ v132 : Value, ∃ v136 : Value, ∃ o121 : Own (kI .u64) 22 w' 0 v120 e117.2.1, ∃ o125 : Own (kI .u64) 22 w' 0 v124 e117.2.2.1, ∃ o129 : Own (kI .u64) 22 w' 0 v128 e117.2.2.2.1, ∃ o133 : Own kB 4 w' 0 v132 e117.2.2.2.2.1, ∃ o137 : Own (kI .i64) 3 w' 0 v136 e117.2.2.2.2.2.1, ∃ m123 : ∀ g, Value.ownBlock v120 = some g → w.heap.size ≤ g ∨ (g = G_0 ∨ some g = Value.ownBlock V0_0 ∨ some g = Value.ownBlock V0_1 ∨ some g = Value.ownBlock V0_2 ∨ some g = Value.ownBlock V0_3 ∨ some g = Value.ownBlock V0_4), ∃ m127 : ∀ g, Value.ownBlock v124 = some g → w.heap.size ≤ g ∨ (g = G_0 ∨ some g = Value.ownBlock V0_0 ∨ some g = Value.ownBlock V0_1 ∨ some g = Value.ownBlock V0_2 ∨ some g = Value.ownBlock V0_3 ∨ some g = Value.ownBlock V0_4), ∃ m131 : ∀ g, Value.ownBlock v128 = some g → w.heap.size ≤ g ∨ (g = G_0 ∨ some g = Value.ownBlock V0_0 ∨ some g = Value.ownBlock V0_1 ∨ some g = Value.ownBlock V0_2 ∨ some g = Value.ownBlock V0_3 ∨ some g = Value.ownBlock V0_4), ∃ m135 : ∀ g, Value.ownBlock v132 = some g → w.heap.size ≤ g ∨ (g = G_0 ∨ some g = Value.ownBlock V0_0 ∨ some g = Value.ownBlock V0_1 ∨ some g = Value.ownBlock V0_2 ∨ some g = Value.ownBlock V0_3 ∨ some g = Value.ownBlock V0_4), ∃ m139 : ∀ g, Value.ownBlock v136 = some g → w.heap.size ≤ g ∨ (g = G_0 ∨ some g = Value.ownBlock V0_0 ∨ some g = Value.ownBlock V0_1 ∨ some g = Value.ownBlock V0_2 ∨ some g = Value.ownBlock V0_3 ∨ some g = Value.ownBlock V0_4), OffV v120 v124 ∧ OffV v120 v128 ∧ OffV v124 v128 ∧ ρ' 0 = (pt G_0 0) ∧ ρ' 1 = .int .i64 a1 ∧ ρ' 7 = sv t27 ∧ ρ' 8 = .int .i64 e117.1 ∧ Blk w' G_0 65 [Seg.cell v120 o121.one, Seg.cell v124 o125.one, Seg.cell v128 o129.one, Seg.cell v132 o133.one, Seg.cell v136 o137.one, (sI e117.2.2.2.2.2.2.1), (sI e117.2.2.2.2.2.2.2.1), (sI e117.2.2.2.2.2.2.2.2)] ∧ Fr (fun j => j = G_0 ∨ some j = Value.ownBlock V0_0 ∨ some j = Value.ownBlock V0_1 ∨ some j = Value.ownBlock V0_2 ∨ some j = Value.ownBlock V0_3 ∨ some j = Value.ownBlock V0_4) w w') ?_ ?_
 ·refine cw_block ?_
  refine cw_round (fun (s116 : Int × Int × (List Int) × (List Int) × (List Int) × (List Bool) × (List Int) × Int × Int × Int) ρ' w' => ∃ v143 : Value, ∃ v147 : Value, ∃ v151 : Value, ∃ v155 : Value, ∃ v159 : Value, ∃ o144 : Own (kI .u64) 22 w' 0 v143 s116.2.2.1, ∃ o148 : Own (kI .u64) 22 w' 0 v147 s116.2.2.2.1, ∃ o152 : Own (kI .u64) 22 w' 0 v151 s116.2.2.2.2.1, ∃ o156 : Own kB 4 w' 0 v155 s116.2.2.2.2.2.1, ∃ o160 : Own (kI .i64) 3 w' 0 v159 s116.2.2.2.2.2.2.1, ∃ m146 : ∀ g, Value.ownBlock v143 = some g → w.heap.size ≤ g ∨ (g = G_0 ∨ some g = Value.ownBlock V0_0 ∨ some g = Value.ownBlock V0_1 ∨ some g = Value.ownBlock V0_2 ∨ some g = Value.ownBlock V0_3 ∨ some g = Value.ownBlock V0_4), ∃ m150 : ∀ g, Value.ownBlock v147 = some g → w.heap.size ≤ g ∨ (g = G_0 ∨ some g = Value.ownBlock V0_0 ∨ some g = Value.ownBlock V0_1 ∨ some g = Value.ownBlock V0_2 ∨ some g = Value.ownBlock V0_3 ∨ some g = Value.ownBlock V0_4), ∃ m154 : ∀ g, Value.ownBlock v151 = some g → w.heap.size ≤ g ∨ (g = G_0 ∨ some g = Value.ownBlock V0_0 ∨ some g = Value.ownBlock V0_1 ∨ some g = Value.ownBlock V0_2 ∨ some g = Value.ownBlock V0_3 ∨ some g = Value.ownBlock V0_4), ∃ m158 : ∀ g, Value.ownBlock v155 = some g → w.heap.size ≤ g ∨ (g = G_0 ∨ some g = Value.ownBlock V0_0 ∨ some g = Value.ownBlock V0_1 ∨ some g = Value.ownBlock V0_2 ∨ some g = Value.ownBlock V0_3 ∨ some g = Value.ownBlock V0_4), ∃ m162 : ∀ g, Value.ownBlock v159 = some g → w.heap.size ≤ g ∨ (g = G_0 ∨ some g = Value.ownBlock V0_0 ∨ some g = Value.ownBlock V0_1 ∨ some g = Value.ownBlock V0_2 ∨ some g = Value.ownBlock V0_3 ∨ some g = Value.ownBlock V0_4), OffV v143 v147 ∧ OffV v143 v151 ∧ OffV v147 v151 ∧ ρ' 0 = (pt G_0 0) ∧ ρ' 1 = .int .i64 a1 ∧ ρ' 7 = sv t27 ∧ ρ' 8 = .int .i64 s116.1 ∧ ρ' 9 = .int .i64 s116.2.1 ∧ Blk w' G_0 65 [Seg.cell v143 o144.one, Seg.cell v147 o148.one, Seg.cell v151 o152.one, Seg.cell v155 o156.one, Seg.cell v159 o160.one, (sI s116.2.2.2.2.2.2.2.1), (sI s116.2.2.2.2.2.2.2.2.1), (sI s116.2.2.2.2.2.2.2.2.2)] ∧ Fr (fun j => j = G_0 ∨ some j = Value.ownBlock V0_0 ∨ some j = Value.ownBlock V0_1 ∨ some j = Value.ownBlock V0_2 ∨ some j = Value.ownBlock V0_3 ∨ some j = Value.ownBlock V0_4) w w') l118 ?_ ?_
  ·skip
   exact ⟨v62, v66, v70, v74, v78, o63, o67, o71, o75, o79, m65, m69, m73, m77, m81, a82, a83, a84, e0, e1, e7, e8, rfl, b_0, fB⟩
  rintro s116 x168 ρ166 w167 ⟨v143, v147, v151, v155, v159, o144, o148, o152, o156, o160, m146, m150, m154, m158, m162, a163, a164, a165, e0, e1, e7, e8, e9, b_0, fB⟩ h
  unfold rickyardref16_Lay.s0 at h
  refine cw_seq ?_
  refine cw_seq ?_
  refine cw_mid (fun ρ' w' => ρ' 0 = (pt G_0 0) ∧ ρ' 1 = .int .i64 a1 ∧ ρ' 7 = sv t27 ∧ ρ' 8 = .int .i64 s116.1 ∧ ρ' 9 = .int .i64 s116.2.1 ∧ ρ' 24 = .bool (if (decide (s116.2.1 < 8)) = true then (decide (s116.1 = 0)) else false) ∧ w167 = w') ?_ ?_
  ·skip
   refine cw_region ?_
   refine ol_val (v := .int .i64 s116.2.1) (xr_move rfl e9) rfl rfl rfl ?_
   refine ol_val (v := .bool (decide (s116.2.1 < 8))) (xr_lss rfl rfl rfl) rfl rfl rfl ?_
   refine ol_val (v := .bool (decide (s116.2.1 < 8))) (xr_move rfl rfl) rfl rfl rfl ?_
   rcases bt (decide (s116.2.1 < 8)) with c169 | c169
   ·skip
    refine ol_gval (v := .int .i64 s116.1) (xr_move rfl e8) rfl rfl rfl rfl rfl c169 ?_
    refine ol_gval (v := .bool (decide (s116.1 = 0))) (xr_eqI rfl Try.underlying3 rfl rfl rfl) rfl rfl rfl rfl rfl c169 ?_
    refine ol_val (v := .bool (decide (s116.1 = 0))) (xr_pickT rfl rfl c169 rfl) rfl rfl rfl ?_
    refine ol_nil ?_
    refine thn_i ?_
    exact ⟨e0, e1, e7, e8, e9, (rfl).trans (congrArg (fun z => (.bool z : Value)) (show (decide (s116.1 = 0)) = (if (decide (s116.2.1 < 8)) = true then (decide (s116.1 = 0)) else false) from by rw [ite_t c169])), rfl⟩
   refine ol_gskip rfl rfl rfl rfl rfl c169 ?_
   refine ol_gskip rfl rfl rfl rfl rfl c169 ?_
   refine ol_val (v := .bool false) (xr_pickF rfl rfl c169 rfl) rfl rfl rfl ?_
   refine ol_nil ?_
   refine thn_i ?_
   exact ⟨e0, e1, e7, e8, e9, (rfl).trans (congrArg (fun z => (.bool z : Value)) (show false = (if (decide (s116.2.1 < 8)) = true then (decide (s116.1 = 0)) else false) from by rw [ite_f c169])), rfl⟩
  rintro ρ170 _ ⟨e0, e1, e7, e8, e9, e24, rfl⟩
  rcases is h with ⟨c171, h⟩ | ⟨c171, h⟩
  ·refine cw_condT e24 c171 ?_
   refine cw_skip ?_
   refine cw_seq ?_
   refine cw_block ?_
   refine cw_region ?_
   refine ol_val (v := (pt G_0 0)) (xr_move rfl e0) rfl rfl rfl ?_
   refine ol_val (v := .int .i64 a1) (xr_move rfl e1) rfl rfl rfl ?_
   refine ol_val (v := .int .i64 (IntKind.i64.wrap (8 * a1))) (xr_mul rfl rfl rfl) rfl rfl rfl ?_
   refine ol_val (v := .int .i64 s116.2.1) (xr_move rfl e9) rfl rfl rfl ?_
   refine ol_val (v := .int .i64 (IntKind.i64.wrap ((IntKind.i64.wrap (8 * a1)) + s116.2.1))) (xr_add rfl rfl rfl) rfl rfl rfl ?_
   refine ol_val (v := sv t27) (xr_move rfl e7) rfl rfl rfl ?_
   refine ol_val (v := .int .i64 s116.2.1) (xr_move rfl e9) rfl rfl rfl ?_
   refine ol_val (v := .int .i64 (IntKind.i64.wrap (8 * s116.2.1))) (xr_mul rfl rfl rfl) rfl rfl rfl ?_
   refine ol_val (v := .int .i64 s116.2.1) (xr_move rfl e9) rfl rfl rfl ?_
   refine ol_val (v := .int .i64 (IntKind.i64.wrap (8 * s116.2.1))) (xr_mul rfl rfl rfl) rfl rfl rfl ?_
   refine ol_val (v := .int .i64 (IntKind.i64.wrap ((IntKind.i64.wrap (8 * s116.2.1)) + 8))) (xr_add rfl rfl rfl) rfl rfl rfl ?_
   obtain ⟨g172, h⟩ := gs h
   refine ol_val (v := sv (cut t27 (IntKind.i64.wrap (8 * s116.2.1)) (IntKind.i64.wrap ((IntKind.i64.wrap (8 * s116.2.1)) + 8)))) (xr_str_lh rfl Try.underlying9 rfl rfl rfl g172.1 g172.2.1 g172.2.2) rfl rfl rfl ?_
   obtain ⟨t173, k174, h⟩ := bs h
   refine ol_op (opv_call rfl cal41 (ac rfl an) (rickyardref01_Number.ok fu _ (cut t27 (IntKind.i64.wrap (8 * s116.2.1)) (IntKind.i64.wrap ((IntKind.i64.wrap (8 * s116.2.1)) + 8))) _ k174)) rfl rfl rfl ?_
   rintro _ w176 ⟨rfl, q175⟩
   have b_0 := b_0.gr q175
   have o144 := o144.gr q175
   have o148 := o148.gr q175
   have o152 := o152.gr q175
   have o156 := o156.gr q175
   have o160 := o160.gr q175
   have fB := fB.gr q175
   obtain ⟨t177, k178, h⟩ := bs h
   have c203 : ∀ k, (k = G_0 ∨ some k = Value.ownBlock v143 ∨ some k = Value.ownBlock v147 ∨ some k = Value.ownBlock v151 ∨ some k = Value.ownBlock v155 ∨ some k = Value.ownBlock v159) → (w.heap.size ≤ k ∨ (k = G_0 ∨ some k = Value.ownBlock V0_0 ∨ some k = Value.ownBlock V0_1 ∨ some k = Value.ownBlock V0_2 ∨ some k = Value.ownBlock V0_3 ∨ some k = Value.ownBlock V0_4)) := (cv_or (cv_eq (.inr (.inl rfl))) (cv_or (cv_own m146) (cv_or (cv_own m150) (cv_or (cv_own m154) (cv_or (cv_own m158) (cv_own m162))))))
   refine ol_op (opv_call rfl cal92 (ac rfl (ac rfl (ac rfl an))) (rickyardref05_Device_Store.ok fu _ (⟨s116.2.2.1, s116.2.2.2.1, s116.2.2.2.2.1, s116.2.2.2.2.2.1, s116.2.2.2.2.2.2.1, s116.2.2.2.2.2.2.2.1, s116.2.2.2.2.2.2.2.2.1, s116.2.2.2.2.2.2.2.2.2⟩ : S_rickyardref05_Device) G_0 v143 (Own.base o144 (Nat.zero_le _)) v147 (Own.base o148 (Nat.zero_le _)) v151 (Own.base o152 (Nat.zero_le _)) v155 (Own.base o156 (Nat.zero_le _)) v159 (Own.base o160 (Nat.zero_le _)) b_0 (IntKind.i64.wrap ((IntKind.i64.wrap (8 * a1)) + s116.2.1)) t173 a163 a164 a165 _ k178)) rfl rfl rfl ?_
   rintro _ w204 ⟨u180, u184, u188, u192, u196, o181, m182, o185, m186, o189, m190, o193, m194, o197, m198, a200, a201, a202, rfl, b_0, q179⟩
   have m182 : ∀ g, Value.ownBlock u180 = some g → w.heap.size ≤ g ∨ (g = G_0 ∨ some g = Value.ownBlock V0_0 ∨ some g = Value.ownBlock V0_1 ∨ some g = Value.ownBlock V0_2 ∨ some g = Value.ownBlock V0_3 ∨ some g = Value.ownBlock V0_4) := fun g hg => (m182 g hg).elim (fun x => .inl (Nat.le_trans fB.size x)) (c203 g)
   have m186 : ∀ g, Value.ownBlock u184 = some g → w.heap.size ≤ g ∨ (g = G_0 ∨ some g = Value.ownBlock V0_0 ∨ some g = Value.ownBlock V0_1 ∨ some g = Value.ownBlock V0_2 ∨ some g = Value.ownBlock V0_3 ∨ some g = Value.ownBlock V0_4) := fun g hg => (m186 g hg).elim (fun x => .inl (Nat.le_trans fB.size x)) (c203 g)
   have m190 : ∀ g, Value.ownBlock u188 = some g → w.heap.size ≤ g ∨ (g = G_0 ∨ some g = Value.ownBlock V0_0 ∨ some g = Value.ownBlock V0_1 ∨ some g = Value.ownBlock V0_2 ∨ some g = Value.ownBlock V0_3 ∨ some g = Value.ownBlock V0_4) := fun g hg => (m190 g hg).elim (fun x => .inl (Nat.le_trans fB.size x)) (c203 g)
   have m194 : ∀ g, Value.ownBlock u192 = some g → w.heap.size ≤ g ∨ (g = G_0 ∨ some g = Value.ownBlock V0_0 ∨ some g = Value.ownBlock V0_1 ∨ some g = Value.ownBlock V0_2 ∨ some g = Value.ownBlock V0_3 ∨ some g = Value.ownBlock V0_4) := fun g hg => (m194 g hg).elim (fun x => .inl (Nat.le_trans fB.size x)) (c203 g)
   have m198 : ∀ g, Value.ownBlock u196 = some g → w.heap.size ≤ g ∨ (g = G_0 ∨ some g = Value.ownBlock V0_0 ∨ some g = Value.ownBlock V0_1 ∨ some g = Value.ownBlock V0_2 ∨ some g = Value.ownBlock V0_3 ∨ some g = Value.ownBlock V0_4) := fun g hg => (m198 g hg).elim (fun x => .inl (Nat.le_trans fB.size x)) (c203 g)
   have fB := fB.call q179 c203
   refine ol_val (v := .int .i64 t177.1) (xr_assign rfl rfl) rfl rfl rfl ?_
   refine ol_nil ?_
   refine blk_i ?_
   refine cw_region ?_
   refine ol_val (v := .int .i64 s116.2.1) (xr_move rfl e9) rfl rfl rfl ?_
   refine ol_val (v := .int .i64 (IntKind.i64.wrap (s116.2.1 + 1))) (xr_add rfl rfl rfl) rfl rfl rfl ?_
   refine ol_val (v := .int .i64 (IntKind.i64.wrap (s116.2.1 + 1))) (xr_assign rfl rfl) rfl rfl rfl ?_
   refine ol_nil ?_
   obtain rfl := Option.some.inj h
   refine lp_in ?_
   exact ⟨u180, u184, u188, u192, u196, o181, o185, o189, o193, o197, m182, m186, m190, m194, m198, a200, a201, a202, e0, e1, e7, rfl, rfl, b_0, fB⟩
  refine cw_condF e24 c171 ?_
  refine cw_exit ?_
  repeat (first | with_reducible refine thn_e ?_ | with_reducible refine blk_e rfl ?_)
  obtain rfl := Option.some.inj h
  refine lp_exit ?_
  rintro rfl
  refine thn_x ?_
  exact ⟨v143, v147, v151, v155, v159, o144, o148, o152, o156, o160, m146, m150, m154, m158, m162, a163, a164, a165, e0, e1, e7, e8, b_0, fB⟩
 rintro ρ205 w206 ⟨v120, v124, v128, v132, v136, o121, o125, o129, o133, o137, m123, m127, m131, m135, m139, a140, a141, a142, e0, e1, e7, e8, b_0, fB⟩
 have h := h119
 refine cw_seq ?_
 refine cw_seq ?_
 refine cw_region ?_
 refine ol_val (v := .int .i64 e117.1) (xr_move rfl e8) rfl rfl rfl ?_
 refine ol_val (v := .bool (decide (e117.1 = 0))) (xr_eqI rfl Try.underlying3 rfl rfl rfl) rfl rfl rfl ?_
 refine ol_nil ?_
 obtain ⟨x207, j208, h209⟩ := bs h
 refine cw_mid (fun ρ' w' => ∃ v210 : Value, ∃ v214 : Value, ∃ v218 : Value, ∃ v222 : Value, ∃ v226 : Value, ∃ o211 : Own (kI .u64) 22 w' 0 v210 x207.2.1, ∃ o215 : Own (kI .u64) 22 w' 0 v214 x207.2.2.1, ∃ o219 : Own (kI .u64) 22 w' 0 v218 x207.2.2.2.1, ∃ o223 : Own kB 4 w' 0 v222 x207.2.2.2.2.1, ∃ o227 : Own (kI .i64) 3 w' 0 v226 x207.2.2.2.2.2.1, ∃ m213 : ∀ g, Value.ownBlock v210 = some g → w.heap.size ≤ g ∨ (g = G_0 ∨ some g = Value.ownBlock V0_0 ∨ some g = Value.ownBlock V0_1 ∨ some g = Value.ownBlock V0_2 ∨ some g = Value.ownBlock V0_3 ∨ some g = Value.ownBlock V0_4), ∃ m217 : ∀ g, Value.ownBlock v214 = some g → w.heap.size ≤ g ∨ (g = G_0 ∨ some g = Value.ownBlock V0_0 ∨ some g = Value.ownBlock V0_1 ∨ some g = Value.ownBlock V0_2 ∨ some g = Value.ownBlock V0_3 ∨ some g = Value.ownBlock V0_4), ∃ m221 : ∀ g, Value.ownBlock v218 = some g → w.heap.size ≤ g ∨ (g = G_0 ∨ some g = Value.ownBlock V0_0 ∨ some g = Value.ownBlock V0_1 ∨ some g = Value.ownBlock V0_2 ∨ some g = Value.ownBlock V0_3 ∨ some g = Value.ownBlock V0_4), ∃ m225 : ∀ g, Value.ownBlock v222 = some g → w.heap.size ≤ g ∨ (g = G_0 ∨ some g = Value.ownBlock V0_0 ∨ some g = Value.ownBlock V0_1 ∨ some g = Value.ownBlock V0_2 ∨ some g = Value.ownBlock V0_3 ∨ some g = Value.ownBlock V0_4), ∃ m229 : ∀ g, Value.ownBlock v226 = some g → w.heap.size ≤ g ∨ (g = G_0 ∨ some g = Value.ownBlock V0_0 ∨ some g = Value.ownBlock V0_1 ∨ some g = Value.ownBlock V0_2 ∨ some g = Value.ownBlock V0_3 ∨ some g = Value.ownBlock V0_4), OffV v210 v214 ∧ OffV v210 v218 ∧ OffV v214 v218 ∧ ρ' 0 = (pt G_0 0) ∧ ρ' 1 = .int .i64 a1 ∧ ρ' 7 = sv t27 ∧ ρ' 8 = .int .i64 x207.1 ∧ Blk w' G_0 65 [Seg.cell v210 o211.one, Seg.cell v214 o215.one, Seg.cell v218 o219.one, Seg.cell v222 o223.one, Seg.cell v226 o227.one, (sI x207.2.2.2.2.2.2.1), (sI x207.2.2.2.2.2.2.2.1), (sI x207.2.2.2.2.2.2.2.2)] ∧ Fr (fun j => j = G_0 ∨ some j = Value.ownBlock V0_0 ∨ some j = Value.ownBlock V0_1 ∨ some j = Value.ownBlock V0_2 ∨ some j = Value.ownBlock V0_3 ∨ some j = Value.ownBlock V0_4) w w') ?_ ?_
 ·have h := j208
  rcases is h with ⟨c233, h⟩ | ⟨c233, h⟩
  ·refine cw_condT rfl c233 ?_
   refine cw_region ?_
   refine ol_val (v := (pt G_0 0)) (xr_move rfl e0) rfl rfl rfl ?_
   refine ol_val (v := .int .i64 a1) (xr_move rfl e1) rfl rfl rfl ?_
   obtain ⟨t234, k235, h⟩ := bs h
   have c260 : ∀ k, (k = G_0 ∨ some k = Value.ownBlock v120 ∨ some k = Value.ownBlock v124 ∨ some k = Value.ownBlock v128 ∨ some k = Value.ownBlock v132 ∨ some k = Value.ownBlock v136) → (w.heap.size ≤ k ∨ (k = G_0 ∨ some k = Value.ownBlock V0_0 ∨ some k = Value.ownBlock V0_1 ∨ some k = Value.ownBlock V0_2 ∨ some k = Value.ownBlock V0_3 ∨ some k = Value.ownBlock V0_4)) := (cv_or (cv_eq (.inr (.inl rfl))) (cv_or (cv_own m123) (cv_or (cv_own m127) (cv_or (cv_own m131) (cv_or (cv_own m135) (cv_own m139))))))
   refine ol_op (opv_call rfl cal94 (ac rfl (ac rfl an)) (rickyardref05_Device_Flush.ok fu _ (⟨e117.2.1, e117.2.2.1, e117.2.2.2.1, e117.2.2.2.2.1, e117.2.2.2.2.2.1, e117.2.2.2.2.2.2.1, e117.2.2.2.2.2.2.2.1, e117.2.2.2.2.2.2.2.2⟩ : S_rickyardref05_Device) G_0 v120 (Own.base o121 (Nat.zero_le _)) v124 (Own.base o125 (Nat.zero_le _)) v128 (Own.base o129 (Nat.zero_le _)) v132 (Own.base o133 (Nat.zero_le _)) v136 (Own.base o137 (Nat.zero_le _)) b_0 a1 a140 a141 a142 _ k235)) rfl rfl rfl ?_
   rintro _ w261 ⟨u237, u241, u245, u249, u253, o238, m239, o242, m243, o246, m247, o250, m251, o254, m255, a257, a258, a259, rfl, b_0, q236⟩
   have m239 : ∀ g, Value.ownBlock u237 = some g → w.heap.size ≤ g ∨ (g = G_0 ∨ some g = Value.ownBlock V0_0 ∨ some g = Value.ownBlock V0_1 ∨ some g = Value.ownBlock V0_2 ∨ some g = Value.ownBlock V0_3 ∨ some g = Value.ownBlock V0_4) := fun g hg => (m239 g hg).elim (fun x => .inl (Nat.le_trans fB.size x)) (c260 g)
   have m243 : ∀ g, Value.ownBlock u241 = some g → w.heap.size ≤ g ∨ (g = G_0 ∨ some g = Value.ownBlock V0_0 ∨ some g = Value.ownBlock V0_1 ∨ some g = Value.ownBlock V0_2 ∨ some g = Value.ownBlock V0_3 ∨ some g = Value.ownBlock V0_4) := fun g hg => (m243 g hg).elim (fun x => .inl (Nat.le_trans fB.size x)) (c260 g)
   have m247 : ∀ g, Value.ownBlock u245 = some g → w.heap.size ≤ g ∨ (g = G_0 ∨ some g = Value.ownBlock V0_0 ∨ some g = Value.ownBlock V0_1 ∨ some g = Value.ownBlock V0_2 ∨ some g = Value.ownBlock V0_3 ∨ some g = Value.ownBlock V0_4) := fun g hg => (m247 g hg).elim (fun x => .inl (Nat.le_trans fB.size x)) (c260 g)
   have m251 : ∀ g, Value.ownBlock u249 = some g → w.heap.size ≤ g ∨ (g = G_0 ∨ some g = Value.ownBlock V0_0 ∨ some g = Value.ownBlock V0_1 ∨ some g = Value.ownBlock V0_2 ∨ some g = Value.ownBlock V0_3 ∨ some g = Value.ownBlock V0_4) := fun g hg => (m251 g hg).elim (fun x => .inl (Nat.le_trans fB.size x)) (c260 g)
   have m255 : ∀ g, Value.ownBlock u253 = some g → w.heap.size ≤ g ∨ (g = G_0 ∨ some g = Value.ownBlock V0_0 ∨ some g = Value.ownBlock V0_1 ∨ some g = Value.ownBlock V0_2 ∨ some g = Value.ownBlock V0_3 ∨ some g = Value.ownBlock V0_4) := fun g hg => (m255 g hg).elim (fun x => .inl (Nat.le_trans fB.size x)) (c260 g)
   have fB := fB.call q236 c260
   refine ol_val (v := .int .i64 t234.1) (xr_assign rfl rfl) rfl rfl rfl ?_
   refine ol_nil ?_
   obtain rfl := Option.some.inj h
   refine thn_i ?_
   exact ⟨u237, u241, u245, u249, u253, o238, o242, o246, o250, o254, m239, m243, m247, m251, m255, a257, a258, a259, e0, e1, e7, rfl, b_0, fB⟩
  refine cw_condF rfl c233 ?_
  refine cw_skip ?_
  obtain rfl := Option.some.inj h
  refine thn_i ?_
  exact ⟨v120, v124, v128, v132, v136, o121, o125, o129, o133, o137, m123, m127, m131, m135, m139, a140, a141, a142, e0, e1, e7, e8, b_0, fB⟩
 rintro ρ262 w263 ⟨v210, v214, v218, v222, v226, o211, o215, o219, o223, o227, m213, m217, m221, m225, m229, a230, a231, a232, e0, e1, e7, e8, b_0, fB⟩
 have h := h209
 refine cw_seq ?_
 refine cw_seq ?_
 refine cw_region ?_
 refine ol_val (v := .int .i64 x207.1) (xr_move rfl e8) rfl rfl rfl ?_
 refine ol_val (v := .bool (decide (x207.1 = 0))) (xr_eqI rfl Try.underlying3 rfl rfl rfl) rfl rfl rfl ?_
 refine ol_nil ?_
 obtain ⟨x264, j265, h266⟩ := bs h
 refine cw_mid (fun ρ' w' => ∃ v267 : Value, ∃ v271 : Value, ∃ v275 : Value, ∃ v279 : Value, ∃ v283 : Value, ∃ o268 : Own (kI .u64) 22 w' 0 v267 x264.2.1, ∃ o272 : Own (kI .u64) 22 w' 0 v271 x264.2.2.1, ∃ o276 : Own (kI .u64) 22 w' 0 v275 x264.2.2.2.1, ∃ o280 : Own kB 4 w' 0 v279 x264.2.2.2.2.1, ∃ o284 : Own (kI .i64) 3 w' 0 v283 x264.2.2.2.2.2.1, ∃ m270 : ∀ g, Value.ownBlock v267 = some g → w.heap.size ≤ g ∨ (g = G_0 ∨ some g = Value.ownBlock V0_0 ∨ some g = Value.ownBlock V0_1 ∨ some g = Value.ownBlock V0_2 ∨ some g = Value.ownBlock V0_3 ∨ some g = Value.ownBlock V0_4), ∃ m274 : ∀ g, Value.ownBlock v271 = some g → w.heap.size ≤ g ∨ (g = G_0 ∨ some g = Value.ownBlock V0_0 ∨ some g = Value.ownBlock V0_1 ∨ some g = Value.ownBlock V0_2 ∨ some g = Value.ownBlock V0_3 ∨ some g = Value.ownBlock V0_4), ∃ m278 : ∀ g, Value.ownBlock v275 = some g → w.heap.size ≤ g ∨ (g = G_0 ∨ some g = Value.ownBlock V0_0 ∨ some g = Value.ownBlock V0_1 ∨ some g = Value.ownBlock V0_2 ∨ some g = Value.ownBlock V0_3 ∨ some g = Value.ownBlock V0_4), ∃ m282 : ∀ g, Value.ownBlock v279 = some g → w.heap.size ≤ g ∨ (g = G_0 ∨ some g = Value.ownBlock V0_0 ∨ some g = Value.ownBlock V0_1 ∨ some g = Value.ownBlock V0_2 ∨ some g = Value.ownBlock V0_3 ∨ some g = Value.ownBlock V0_4), ∃ m286 : ∀ g, Value.ownBlock v283 = some g → w.heap.size ≤ g ∨ (g = G_0 ∨ some g = Value.ownBlock V0_0 ∨ some g = Value.ownBlock V0_1 ∨ some g = Value.ownBlock V0_2 ∨ some g = Value.ownBlock V0_3 ∨ some g = Value.ownBlock V0_4), OffV v267 v271 ∧ OffV v267 v275 ∧ OffV v271 v275 ∧ ρ' 0 = (pt G_0 0) ∧ ρ' 1 = .int .i64 a1 ∧ ρ' 7 = sv t27 ∧ ρ' 8 = .int .i64 x264.1 ∧ Blk w' G_0 65 [Seg.cell v267 o268.one, Seg.cell v271 o272.one, Seg.cell v275 o276.one, Seg.cell v279 o280.one, Seg.cell v283 o284.one, (sI x264.2.2.2.2.2.2.1), (sI x264.2.2.2.2.2.2.2.1), (sI x264.2.2.2.2.2.2.2.2)] ∧ Fr (fun j => j = G_0 ∨ some j = Value.ownBlock V0_0 ∨ some j = Value.ownBlock V0_1 ∨ some j = Value.ownBlock V0_2 ∨ some j = Value.ownBlock V0_3 ∨ some j = Value.ownBlock V0_4) w w') ?_ ?_
 ·have h := j265
  rcases is h with ⟨c290, h⟩ | ⟨c290, h⟩
  ·refine cw_condT rfl c290 ?_
   refine cw_region ?_
   refine ol_val (v := (pt G_0 0)) (xr_move rfl e0) rfl rfl rfl ?_
   obtain ⟨t291, k292, h⟩ := bs h
   have c317 : ∀ k, (k = G_0 ∨ some k = Value.ownBlock v210 ∨ some k = Value.ownBlock v214 ∨ some k = Value.ownBlock v218 ∨ some k = Value.ownBlock v222 ∨ some k = Value.ownBlock v226) → (w.heap.size ≤ k ∨ (k = G_0 ∨ some k = Value.ownBlock V0_0 ∨ some k = Value.ownBlock V0_1 ∨ some k = Value.ownBlock V0_2 ∨ some k = Value.ownBlock V0_3 ∨ some k = Value.ownBlock V0_4)) := (cv_or (cv_eq (.inr (.inl rfl))) (cv_or (cv_own m213) (cv_or (cv_own m217) (cv_or (cv_own m221) (cv_or (cv_own m225) (cv_own m229))))))
   refine ol_op (opv_call rfl cal95 (ac rfl an) (rickyardref05_Device_Fence.ok fu _ (⟨x207.2.1, x207.2.2.1, x207.2.2.2.1, x207.2.2.2.2.1, x207.2.2.2.2.2.1, x207.2.2.2.2.2.2.1, x207.2.2.2.2.2.2.2.1, x207.2.2.2.2.2.2.2.2⟩ : S_rickyardref05_Device) G_0 v210 (Own.base o211 (Nat.zero_le _)) v214 (Own.base o215 (Nat.zero_le _)) v218 (Own.base o219 (Nat.zero_le _)) v222 (Own.base o223 (Nat.zero_le _)) v226 (Own.base o227 (Nat.zero_le _)) b_0 a230 a231 a232 _ k292)) rfl rfl rfl ?_
   rintro _ w318 ⟨u294, u298, u302, u306, u310, o295, m296, o299, m300, o303, m304, o307, m308, o311, m312, a314, a315, a316, rfl, b_0, q293⟩
   have m296 : ∀ g, Value.ownBlock u294 = some g → w.heap.size ≤ g ∨ (g = G_0 ∨ some g = Value.ownBlock V0_0 ∨ some g = Value.ownBlock V0_1 ∨ some g = Value.ownBlock V0_2 ∨ some g = Value.ownBlock V0_3 ∨ some g = Value.ownBlock V0_4) := fun g hg => (m296 g hg).elim (fun x => .inl (Nat.le_trans fB.size x)) (c317 g)
   have m300 : ∀ g, Value.ownBlock u298 = some g → w.heap.size ≤ g ∨ (g = G_0 ∨ some g = Value.ownBlock V0_0 ∨ some g = Value.ownBlock V0_1 ∨ some g = Value.ownBlock V0_2 ∨ some g = Value.ownBlock V0_3 ∨ some g = Value.ownBlock V0_4) := fun g hg => (m300 g hg).elim (fun x => .inl (Nat.le_trans fB.size x)) (c317 g)
   have m304 : ∀ g, Value.ownBlock u302 = some g → w.heap.size ≤ g ∨ (g = G_0 ∨ some g = Value.ownBlock V0_0 ∨ some g = Value.ownBlock V0_1 ∨ some g = Value.ownBlock V0_2 ∨ some g = Value.ownBlock V0_3 ∨ some g = Value.ownBlock V0_4) := fun g hg => (m304 g hg).elim (fun x => .inl (Nat.le_trans fB.size x)) (c317 g)
   have m308 : ∀ g, Value.ownBlock u306 = some g → w.heap.size ≤ g ∨ (g = G_0 ∨ some g = Value.ownBlock V0_0 ∨ some g = Value.ownBlock V0_1 ∨ some g = Value.ownBlock V0_2 ∨ some g = Value.ownBlock V0_3 ∨ some g = Value.ownBlock V0_4) := fun g hg => (m308 g hg).elim (fun x => .inl (Nat.le_trans fB.size x)) (c317 g)
   have m312 : ∀ g, Value.ownBlock u310 = some g → w.heap.size ≤ g ∨ (g = G_0 ∨ some g = Value.ownBlock V0_0 ∨ some g = Value.ownBlock V0_1 ∨ some g = Value.ownBlock V0_2 ∨ some g = Value.ownBlock V0_3 ∨ some g = Value.ownBlock V0_4) := fun g hg => (m312 g hg).elim (fun x => .inl (Nat.le_trans fB.size x)) (c317 g)
   have fB := fB.call q293 c317
   refine ol_val (v := .int .i64 t291.1) (xr_assign rfl rfl) rfl rfl rfl ?_
   refine ol_nil ?_
   obtain rfl := Option.some.inj h
   refine thn_i ?_
   exact ⟨u294, u298, u302, u306, u310, o295, o299, o303, o307, o311, m296, m300, m304, m308, m312, a314, a315, a316, e0, e1, e7, rfl, b_0, fB⟩
  refine cw_condF rfl c290 ?_
  refine cw_skip ?_
  obtain rfl := Option.some.inj h
  refine thn_i ?_
  exact ⟨v210, v214, v218, v222, v226, o211, o215, o219, o223, o227, m213, m217, m221, m225, m229, a230, a231, a232, e0, e1, e7, e8, b_0, fB⟩
 rintro ρ319 w320 ⟨v267, v271, v275, v279, v283, o268, o272, o276, o280, o284, m270, m274, m278, m282, m286, a287, a288, a289, e0, e1, e7, e8, b_0, fB⟩
 have h := h266
 refine cw_seq ?_
 refine cw_seq ?_
 refine cw_region ?_
 refine ol_val (v := .int .i64 x264.1) (xr_move rfl e8) rfl rfl rfl ?_
 refine ol_val (v := .bool (decide (x264.1 = 0))) (xr_eqI rfl Try.underlying3 rfl rfl rfl) rfl rfl rfl ?_
 refine ol_nil ?_
 obtain ⟨x321, j322, h323⟩ := bs h
 refine cw_mid (fun ρ' w' => ∃ v324 : Value, ∃ v328 : Value, ∃ v332 : Value, ∃ v336 : Value, ∃ v340 : Value, ∃ o325 : Own (kI .u64) 22 w' 0 v324 x321.2.1, ∃ o329 : Own (kI .u64) 22 w' 0 v328 x321.2.2.1, ∃ o333 : Own (kI .u64) 22 w' 0 v332 x321.2.2.2.1, ∃ o337 : Own kB 4 w' 0 v336 x321.2.2.2.2.1, ∃ o341 : Own (kI .i64) 3 w' 0 v340 x321.2.2.2.2.2.1, ∃ m327 : ∀ g, Value.ownBlock v324 = some g → w.heap.size ≤ g ∨ (g = G_0 ∨ some g = Value.ownBlock V0_0 ∨ some g = Value.ownBlock V0_1 ∨ some g = Value.ownBlock V0_2 ∨ some g = Value.ownBlock V0_3 ∨ some g = Value.ownBlock V0_4), ∃ m331 : ∀ g, Value.ownBlock v328 = some g → w.heap.size ≤ g ∨ (g = G_0 ∨ some g = Value.ownBlock V0_0 ∨ some g = Value.ownBlock V0_1 ∨ some g = Value.ownBlock V0_2 ∨ some g = Value.ownBlock V0_3 ∨ some g = Value.ownBlock V0_4), ∃ m335 : ∀ g, Value.ownBlock v332 = some g → w.heap.size ≤ g ∨ (g = G_0 ∨ some g = Value.ownBlock V0_0 ∨ some g = Value.ownBlock V0_1 ∨ some g = Value.ownBlock V0_2 ∨ some g = Value.ownBlock V0_3 ∨ some g = Value.ownBlock V0_4), ∃ m339 : ∀ g, Value.ownBlock v336 = some g → w.heap.size ≤ g ∨ (g = G_0 ∨ some g = Value.ownBlock V0_0 ∨ some g = Value.ownBlock V0_1 ∨ some g = Value.ownBlock V0_2 ∨ some g = Value.ownBlock V0_3 ∨ some g = Value.ownBlock V0_4), ∃ m343 : ∀ g, Value.ownBlock v340 = some g → w.heap.size ≤ g ∨ (g = G_0 ∨ some g = Value.ownBlock V0_0 ∨ some g = Value.ownBlock V0_1 ∨ some g = Value.ownBlock V0_2 ∨ some g = Value.ownBlock V0_3 ∨ some g = Value.ownBlock V0_4), OffV v324 v328 ∧ OffV v324 v332 ∧ OffV v328 v332 ∧ ρ' 0 = (pt G_0 0) ∧ ρ' 8 = .int .i64 x321.1 ∧ Blk w' G_0 65 [Seg.cell v324 o325.one, Seg.cell v328 o329.one, Seg.cell v332 o333.one, Seg.cell v336 o337.one, Seg.cell v340 o341.one, (sI x321.2.2.2.2.2.2.1), (sI x321.2.2.2.2.2.2.2.1), (sI x321.2.2.2.2.2.2.2.2)] ∧ Fr (fun j => j = G_0 ∨ some j = Value.ownBlock V0_0 ∨ some j = Value.ownBlock V0_1 ∨ some j = Value.ownBlock V0_2 ∨ some j = Value.ownBlock V0_3 ∨ some j = Value.ownBlock V0_4) w w') ?_ ?_
 ·have h := j322
  rcases is h with ⟨c347, h⟩ | ⟨c347, h⟩
  ·refine cw_condT rfl c347 ?_
   refine cw_region ?_
   refine ol_val (v := (pt G_0 0)) (xr_move rfl e0) rfl rfl rfl ?_
   refine ol_val (v := .int .i64 a1) (xr_move rfl e1) rfl rfl rfl ?_
   refine ol_val (v := sv t27) (xr_move rfl e7) rfl rfl rfl ?_
   obtain ⟨g348, h⟩ := gs h
   refine ol_val (v := sv (cut t27 0 8)) (xr_str_h rfl Try.underlying9 rfl rfl (by decide) g348) rfl rfl rfl ?_
   obtain ⟨t349, k350, h⟩ := bs h
   refine ol_op (opv_call rfl cal41 (ac rfl an) (rickyardref01_Number.ok fu _ (cut t27 0 8) _ k350)) rfl rfl rfl ?_
   rintro _ w352 ⟨rfl, q351⟩
   have b_0 := b_0.gr q351
   have o268 := o268.gr q351
   have o272 := o272.gr q351
   have o276 := o276.gr q351
   have o280 := o280.gr q351
   have o284 := o284.gr q351
   have fB := fB.gr q351
   obtain ⟨t353, k354, h⟩ := bs h
   have c379 : ∀ k, (k = G_0 ∨ some k = Value.ownBlock v267 ∨ some k = Value.ownBlock v271 ∨ some k = Value.ownBlock v275 ∨ some k = Value.ownBlock v279 ∨ some k = Value.ownBlock v283) → (w.heap.size ≤ k ∨ (k = G_0 ∨ some k = Value.ownBlock V0_0 ∨ some k = Value.ownBlock V0_1 ∨ some k = Value.ownBlock V0_2 ∨ some k = Value.ownBlock V0_3 ∨ some k = Value.ownBlock V0_4)) := (cv_or (cv_eq (.inr (.inl rfl))) (cv_or (cv_own m270) (cv_or (cv_own m274) (cv_or (cv_own m278) (cv_or (cv_own m282) (cv_own m286))))))
   refine ol_op (opv_call rfl cal106 (ac rfl (ac rfl (ac rfl (ac rfl an)))) (rickyardref15_Word.ok fu _ (⟨x264.2.1, x264.2.2.1, x264.2.2.2.1, x264.2.2.2.2.1, x264.2.2.2.2.2.1, x264.2.2.2.2.2.2.1, x264.2.2.2.2.2.2.2.1, x264.2.2.2.2.2.2.2.2⟩ : S_rickyardref05_Device) G_0 v267 (Own.base o268 (Nat.zero_le _)) v271 (Own.base o272 (Nat.zero_le _)) v275 (Own.base o276 (Nat.zero_le _)) v279 (Own.base o280 (Nat.zero_le _)) v283 (Own.base o284 (Nat.zero_le _)) b_0 a1 0 t349 a287 a288 a289 _ k354)) rfl rfl rfl ?_
   rintro _ w380 ⟨u356, u360, u364, u368, u372, o357, m358, o361, m362, o365, m366, o369, m370, o373, m374, a376, a377, a378, rfl, b_0, q355⟩
   have m358 : ∀ g, Value.ownBlock u356 = some g → w.heap.size ≤ g ∨ (g = G_0 ∨ some g = Value.ownBlock V0_0 ∨ some g = Value.ownBlock V0_1 ∨ some g = Value.ownBlock V0_2 ∨ some g = Value.ownBlock V0_3 ∨ some g = Value.ownBlock V0_4) := fun g hg => (m358 g hg).elim (fun x => .inl (Nat.le_trans fB.size x)) (c379 g)
   have m362 : ∀ g, Value.ownBlock u360 = some g → w.heap.size ≤ g ∨ (g = G_0 ∨ some g = Value.ownBlock V0_0 ∨ some g = Value.ownBlock V0_1 ∨ some g = Value.ownBlock V0_2 ∨ some g = Value.ownBlock V0_3 ∨ some g = Value.ownBlock V0_4) := fun g hg => (m362 g hg).elim (fun x => .inl (Nat.le_trans fB.size x)) (c379 g)
   have m366 : ∀ g, Value.ownBlock u364 = some g → w.heap.size ≤ g ∨ (g = G_0 ∨ some g = Value.ownBlock V0_0 ∨ some g = Value.ownBlock V0_1 ∨ some g = Value.ownBlock V0_2 ∨ some g = Value.ownBlock V0_3 ∨ some g = Value.ownBlock V0_4) := fun g hg => (m366 g hg).elim (fun x => .inl (Nat.le_trans fB.size x)) (c379 g)
   have m370 : ∀ g, Value.ownBlock u368 = some g → w.heap.size ≤ g ∨ (g = G_0 ∨ some g = Value.ownBlock V0_0 ∨ some g = Value.ownBlock V0_1 ∨ some g = Value.ownBlock V0_2 ∨ some g = Value.ownBlock V0_3 ∨ some g = Value.ownBlock V0_4) := fun g hg => (m370 g hg).elim (fun x => .inl (Nat.le_trans fB.size x)) (c379 g)
   have m374 : ∀ g, Value.ownBlock u372 = some g → w.heap.size ≤ g ∨ (g = G_0 ∨ some g = Value.ownBlock V0_0 ∨ some g = Value.ownBlock V0_1 ∨ some g = Value.ownBlock V0_2 ∨ some g = Value.ownBlock V0_3 ∨ some g = Value.ownBlock V0_4) := fun g hg => (m374 g hg).elim (fun x => .inl (Nat.le_trans fB.size x)) (c379 g)
   have fB := fB.call q355 c379
   refine ol_val (v := .int .i64 t353.1) (xr_assign rfl rfl) rfl rfl rfl ?_
   refine ol_nil ?_
   obtain rfl := Option.some.inj h
   refine thn_i ?_
   exact ⟨u356, u360, u364, u368, u372, o357, o361, o365, o369, o373, m358, m362, m366, m370, m374, a376, a377, a378, e0, rfl, b_0, fB⟩
  refine cw_condF rfl c347 ?_
  refine cw_skip ?_
  obtain rfl := Option.some.inj h
  refine thn_i ?_
  exact ⟨v267, v271, v275, v279, v283, o268, o272, o276, o280, o284, m270, m274, m278, m282, m286, a287, a288, a289, e0, e8, b_0, fB⟩
 rintro ρ381 w382 ⟨v324, v328, v332, v336, v340, o325, o329, o333, o337, o341, m327, m331, m335, m339, m343, a344, a345, a346, e0, e8, b_0, fB⟩
 have h := h323
 refine cw_seq ?_
 refine cw_seq ?_
 refine cw_region ?_
 refine ol_val (v := .int .i64 x321.1) (xr_move rfl e8) rfl rfl rfl ?_
 refine ol_val (v := .bool (decide (x321.1 = 0))) (xr_eqI rfl Try.underlying3 rfl rfl rfl) rfl rfl rfl ?_
 refine ol_nil ?_
 obtain ⟨x383, j384, h385⟩ := bs h
 refine cw_mid (fun ρ' w' => ∃ v386 : Value, ∃ v390 : Value, ∃ v394 : Value, ∃ v398 : Value, ∃ v402 : Value, ∃ o387 : Own (kI .u64) 22 w' 0 v386 x383.2.1, ∃ o391 : Own (kI .u64) 22 w' 0 v390 x383.2.2.1, ∃ o395 : Own (kI .u64) 22 w' 0 v394 x383.2.2.2.1, ∃ o399 : Own kB 4 w' 0 v398 x383.2.2.2.2.1, ∃ o403 : Own (kI .i64) 3 w' 0 v402 x383.2.2.2.2.2.1, ∃ m389 : ∀ g, Value.ownBlock v386 = some g → w.heap.size ≤ g ∨ (g = G_0 ∨ some g = Value.ownBlock V0_0 ∨ some g = Value.ownBlock V0_1 ∨ some g = Value.ownBlock V0_2 ∨ some g = Value.ownBlock V0_3 ∨ some g = Value.ownBlock V0_4), ∃ m393 : ∀ g, Value.ownBlock v390 = some g → w.heap.size ≤ g ∨ (g = G_0 ∨ some g = Value.ownBlock V0_0 ∨ some g = Value.ownBlock V0_1 ∨ some g = Value.ownBlock V0_2 ∨ some g = Value.ownBlock V0_3 ∨ some g = Value.ownBlock V0_4), ∃ m397 : ∀ g, Value.ownBlock v394 = some g → w.heap.size ≤ g ∨ (g = G_0 ∨ some g = Value.ownBlock V0_0 ∨ some g = Value.ownBlock V0_1 ∨ some g = Value.ownBlock V0_2 ∨ some g = Value.ownBlock V0_3 ∨ some g = Value.ownBlock V0_4), ∃ m401 : ∀ g, Value.ownBlock v398 = some g → w.heap.size ≤ g ∨ (g = G_0 ∨ some g = Value.ownBlock V0_0 ∨ some g = Value.ownBlock V0_1 ∨ some g = Value.ownBlock V0_2 ∨ some g = Value.ownBlock V0_3 ∨ some g = Value.ownBlock V0_4), ∃ m405 : ∀ g, Value.ownBlock v402 = some g → w.heap.size ≤ g ∨ (g = G_0 ∨ some g = Value.ownBlock V0_0 ∨ some g = Value.ownBlock V0_1 ∨ some g = Value.ownBlock V0_2 ∨ some g = Value.ownBlock V0_3 ∨ some g = Value.ownBlock V0_4), OffV v386 v390 ∧ OffV v386 v394 ∧ OffV v390 v394 ∧ ρ' 8 = .int .i64 x383.1 ∧ Blk w' G_0 65 [Seg.cell v386 o387.one, Seg.cell v390 o391.one, Seg.cell v394 o395.one, Seg.cell v398 o399.one, Seg.cell v402 o403.one, (sI x383.2.2.2.2.2.2.1), (sI x383.2.2.2.2.2.2.2.1), (sI x383.2.2.2.2.2.2.2.2)] ∧ Fr (fun j => j = G_0 ∨ some j = Value.ownBlock V0_0 ∨ some j = Value.ownBlock V0_1 ∨ some j = Value.ownBlock V0_2 ∨ some j = Value.ownBlock V0_3 ∨ some j = Value.ownBlock V0_4) w w') ?_ ?_
 ·have h := j384
  rcases is h with ⟨c409, h⟩ | ⟨c409, h⟩
  ·refine cw_condT rfl c409 ?_
   refine cw_region ?_
   refine ol_val (v := (pt G_0 0)) (xr_move rfl e0) rfl rfl rfl ?_
   obtain ⟨t410, k411, h⟩ := bs h
   have c436 : ∀ k, (k = G_0 ∨ some k = Value.ownBlock v324 ∨ some k = Value.ownBlock v328 ∨ some k = Value.ownBlock v332 ∨ some k = Value.ownBlock v336 ∨ some k = Value.ownBlock v340) → (w.heap.size ≤ k ∨ (k = G_0 ∨ some k = Value.ownBlock V0_0 ∨ some k = Value.ownBlock V0_1 ∨ some k = Value.ownBlock V0_2 ∨ some k = Value.ownBlock V0_3 ∨ some k = Value.ownBlock V0_4)) := (cv_or (cv_eq (.inr (.inl rfl))) (cv_or (cv_own m327) (cv_or (cv_own m331) (cv_or (cv_own m335) (cv_or (cv_own m339) (cv_own m343))))))
   refine ol_op (opv_call rfl cal95 (ac rfl an) (rickyardref05_Device_Fence.ok fu _ (⟨x321.2.1, x321.2.2.1, x321.2.2.2.1, x321.2.2.2.2.1, x321.2.2.2.2.2.1, x321.2.2.2.2.2.2.1, x321.2.2.2.2.2.2.2.1, x321.2.2.2.2.2.2.2.2⟩ : S_rickyardref05_Device) G_0 v324 (Own.base o325 (Nat.zero_le _)) v328 (Own.base o329 (Nat.zero_le _)) v332 (Own.base o333 (Nat.zero_le _)) v336 (Own.base o337 (Nat.zero_le _)) v340 (Own.base o341 (Nat.zero_le _)) b_0 a344 a345 a346 _ k411)) rfl rfl rfl ?_
   rintro _ w437 ⟨u413, u417, u421, u425, u429, o414, m415, o418, m419, o422, m423, o426, m427, o430, m431, a433, a434, a435, rfl, b_0, q412⟩
   have m415 : ∀ g, Value.ownBlock u413 = some g → w.heap.size ≤ g ∨ (g = G_0 ∨ some g = Value.ownBlock V0_0 ∨ some g = Value.ownBlock V0_1 ∨ some g = Value.ownBlock V0_2 ∨ some g = Value.ownBlock V0_3 ∨ some g = Value.ownBlock V0_4) := fun g hg => (m415 g hg).elim (fun x => .inl (Nat.le_trans fB.size x)) (c436 g)
   have m419 : ∀ g, Value.ownBlock u417 = some g → w.heap.size ≤ g ∨ (g = G_0 ∨ some g = Value.ownBlock V0_0 ∨ some g = Value.ownBlock V0_1 ∨ some g = Value.ownBlock V0_2 ∨ some g = Value.ownBlock V0_3 ∨ some g = Value.ownBlock V0_4) := fun g hg => (m419 g hg).elim (fun x => .inl (Nat.le_trans fB.size x)) (c436 g)
   have m423 : ∀ g, Value.ownBlock u421 = some g → w.heap.size ≤ g ∨ (g = G_0 ∨ some g = Value.ownBlock V0_0 ∨ some g = Value.ownBlock V0_1 ∨ some g = Value.ownBlock V0_2 ∨ some g = Value.ownBlock V0_3 ∨ some g = Value.ownBlock V0_4) := fun g hg => (m423 g hg).elim (fun x => .inl (Nat.le_trans fB.size x)) (c436 g)
   have m427 : ∀ g, Value.ownBlock u425 = some g → w.heap.size ≤ g ∨ (g = G_0 ∨ some g = Value.ownBlock V0_0 ∨ some g = Value.ownBlock V0_1 ∨ some g = Value.ownBlock V0_2 ∨ some g = Value.ownBlock V0_3 ∨ some g = Value.ownBlock V0_4) := fun g hg => (m427 g hg).elim (fun x => .inl (Nat.le_trans fB.size x)) (c436 g)
   have m431 : ∀ g, Value.ownBlock u429 = some g → w.heap.size ≤ g ∨ (g = G_0 ∨ some g = Value.ownBlock V0_0 ∨ some g = Value.ownBlock V0_1 ∨ some g = Value.ownBlock V0_2 ∨ some g = Value.ownBlock V0_3 ∨ some g = Value.ownBlock V0_4) := fun g hg => (m431 g hg).elim (fun x => .inl (Nat.le_trans fB.size x)) (c436 g)
   have fB := fB.call q412 c436
   refine ol_val (v := .int .i64 t410.1) (xr_assign rfl rfl) rfl rfl rfl ?_
   refine ol_nil ?_
   obtain rfl := Option.some.inj h
   refine thn_i ?_
   exact ⟨u413, u417, u421, u425, u429, o414, o418, o422, o426, o430, m415, m419, m423, m427, m431, a433, a434, a435, rfl, b_0, fB⟩
  refine cw_condF rfl c409 ?_
  refine cw_skip ?_
  obtain rfl := Option.some.inj h
  refine thn_i ?_
  exact ⟨v324, v328, v332, v336, v340, o325, o329, o333, o337, o341, m327, m331, m335, m339, m343, a344, a345, a346, e8, b_0, fB⟩
 rintro ρ438 w439 ⟨v386, v390, v394, v398, v402, o387, o391, o395, o399, o403, m389, m393, m397, m401, m405, a406, a407, a408, e8, b_0, fB⟩
 have h := h385
 refine cw_seq ?_
 refine cw_region ?_
 refine ol_val (v := .int .i64 x383.1) (xr_move rfl e8) rfl rfl rfl ?_
 refine ol_val (v := .int .i64 x383.1) (xr_assign rfl rfl) rfl rfl rfl ?_
 refine ol_nil ?_
 refine cw_ret ?_
 repeat (first | with_reducible refine thn_r ?_ | with_reducible refine blk_r ?_)
 obtain rfl := Option.some.inj h
 refine fin_ret1 Try.results79 rfl ?_
 exact ⟨_, rfl, v386, v390, v394, v398, v402, o387, m389, o391, m393, o395, m397, o399, m401, o403, m405, a406, a407, a408, rfl, b_0, fB⟩
def rickyardlaw16_RootLays.f (fu : Nat) (a0 : List Int) (a1 : Int) (a2 : S_api_Super) : Option Bool := ((((rickyardlaw16_awake.f fu).bind fun t9 => (if (!t9) = true then some (true) else (if (decide ((List.length a0 : Int) > 500)) = true then some (true) else some ((decide ((List.length a2.Charts : Int) > 60)))))) : Option Bool).bind fun x7 => (if x7 = true then ((rickyardlaw16_awake.f fu).bind fun t19 => some (t19)) else ((pmem_From.f fu a0).bind fun t23 => ((root_Lay.f fu t23 a1 a2).bind fun t40 => (((if (decide (a1 < 0)) = true then some (true) else (if (decide (a1 > 1)) = true then some (true) else (if (decide ((List.length a0 : Int) < 128)) = true then some (true) else ((rickyardref13_Right.f fu a2).bind fun t59 => some ((!t59)))))) : Option Bool).bind fun x54 => (if x54 = true then (((if (decide (t40.1 = 2)) = true then ((pmem_Device_Steps.f fu t40.2).bind fun t70 => some ((decide (t70 = 0)))) else some (false)) : Option Bool).bind fun x67 => some (x67)) else ((rickyardref05_From.f fu a0).bind fun t77 => ((rickyardref16_Lay.f fu t77 a1 a2).bind fun t110 => (if (decide (t40.1 = t110.1)) = true then ((pmem_Device_Steps.f fu t40.2).bind fun t166 => (if (decide (t166 = t110.2.Steps)) = true then ((pmem_Device_Image.f fu t40.2).bind fun t173 => ((rickyardref05_Text.f fu t110.2.Lasts).bind fun t179 => (if (decide ((List.map toB t173) = t179)) = true then ((pmem_Device_View.f fu t40.2).bind fun t186 => ((rickyardref05_Text.f fu t110.2.Stored).bind fun t192 => (if (decide ((List.map toB t186) = t192)) = true then ((pmem_Device_Fates.f fu t40.2).bind fun t199 => some ((decide ((List.length t199 : Int) = 0)))) else some (false)))) else some (false)))) else some (false))) else some (false))))))))))
theorem rickyardlaw16_RootLays.ok (fu : Nat) (w : World) (a0 : List Int) (V0_0 : Value) (R0_0 : Rd (kI .u8) w V0_0 a0) (a1 : Int) (a2 : S_api_Super) (V2_0 : Value) (R2_0 : Rd (kI .i64) w V2_0 a2.Charts) (r : Bool) (h : rickyardlaw16_RootLays.f fu a0 a1 a2 = some r) :
  Calls Try.prog 20 (([V0_0, .int .i64 a1, aggV [(sI a2.Epoch), (sI a2.Tickets.Geometry.Blocks), (sI a2.Tickets.Geometry.Slots), (sI a2.Tickets.Geometry.Gens), (sI a2.Tickets.Top), (sI a2.Tickets.High), (sI a2.Tickets.Free), (sI a2.Dir), Seg.cell V2_0 R2_0.one]] : List Value).toArray) w (fun e w' => ∃ v, e = .returned v ∧ v = .bool r ∧ Gr w w') := by
 unfold rickyardlaw16_RootLays.f at h
 have fB : Gr w w := Fr.refl _ _
 refine calls_cw Try.func20 rfl Try.ntmps20 rfl ?_
 refine cw_seq ?_
 refine cw_region ?_
 refine ol_op (opv_box (ss := [(sI a2.Epoch), (sI a2.Tickets.Geometry.Blocks), (sI a2.Tickets.Geometry.Slots), (sI a2.Tickets.Geometry.Gens), (sI a2.Tickets.Top), (sI a2.Tickets.High), (sI a2.Tickets.Free), (sI a2.Dir), Seg.cell V2_0 R2_0.one]) rfl rfl rfl) rfl rfl rfl ?_
 rintro _ w6 ⟨G1, rfl, b2, q3, z4⟩
 have z4 := Nat.le_trans fB.size z4
 have fB := fB.gr q3
 refine ol_val (v := .bool false) (xr_assign rfl rfl) rfl rfl rfl ?_
 refine ol_nil ?_
 refine cw_seq ?_
 refine cw_seq ?_
 obtain ⟨x7, j8, h⟩ := bs h
 refine cw_mid (fun ρ' w' => ρ' 0 = V0_0 ∧ ρ' 1 = .int .i64 a1 ∧ ρ' 5 = (pt G1 0) ∧ ρ' 22 = .bool x7 ∧ Gr w6 w') ?_ ?_
 ·skip
  refine cw_region ?_
  obtain ⟨t9, k10, j8⟩ := bs j8
  refine ol_op (opv_call rfl cal69 an (rickyardlaw16_awake.ok fu _ _ k10)) rfl rfl rfl ?_
  rintro _ w12 ⟨rfl, q11⟩
  have b2 := b2.gr q11
  have fB := fB.gr q11
  refine ol_val (v := .bool (!t9)) (xr_not rfl rfl) rfl rfl rfl ?_
  refine ol_val (v := .bool (!t9)) (xr_move rfl rfl) rfl rfl rfl ?_
  rcases is j8 with ⟨c13, j8⟩ | ⟨c13, j8⟩
  ·skip
   refine ol_gskip rfl rfl rfl rfl rfl c13 ?_
   refine ol_gskip rfl rfl rfl rfl rfl c13 ?_
   refine ol_gskip rfl rfl rfl rfl rfl c13 ?_
   refine ol_val (v := .bool true) (xr_pickT rfl rfl c13 rfl) rfl rfl rfl ?_
   refine ol_val (v := .bool true) (xr_move rfl rfl) rfl rfl rfl ?_
   refine ol_gskip rfl rfl rfl rfl rfl rfl ?_
   refine ol_gskip rfl rfl rfl rfl rfl rfl ?_
   refine ol_gskip rfl rfl rfl rfl rfl rfl ?_
   refine ol_gskip rfl rfl rfl rfl rfl rfl ?_
   refine ol_val (v := .bool true) (xr_pickT rfl rfl rfl rfl) rfl rfl rfl ?_
   refine ol_nil ?_
   obtain rfl := Option.some.inj j8
   refine thn_i ?_
   exact ⟨rfl, rfl, rfl, rfl, q11⟩
  refine ol_gval (v := V0_0) (xr_move rfl rfl) rfl rfl rfl rfl rfl c13 ?_
  refine ol_gval (v := .int .i64 (List.length a0 : Int)) (xr_lenR rfl Try.underlying43 rfl (R0_0.gr fB)) rfl rfl rfl rfl rfl c13 ?_
  refine ol_gval (v := .bool (decide ((List.length a0 : Int) > 500))) (xr_gtr rfl rfl rfl) rfl rfl rfl rfl rfl c13 ?_
  refine ol_val (v := .bool (decide ((List.length a0 : Int) > 500))) (xr_pickF rfl rfl c13 rfl) rfl rfl rfl ?_
  refine ol_val (v := .bool (decide ((List.length a0 : Int) > 500))) (xr_move rfl rfl) rfl rfl rfl ?_
  rcases is j8 with ⟨c14, j8⟩ | ⟨c14, j8⟩
  ·skip
   refine ol_gskip rfl rfl rfl rfl rfl c14 ?_
   refine ol_gskip rfl rfl rfl rfl rfl c14 ?_
   refine ol_gskip rfl rfl rfl rfl rfl c14 ?_
   refine ol_gskip rfl rfl rfl rfl rfl c14 ?_
   refine ol_val (v := .bool true) (xr_pickT rfl rfl c14 rfl) rfl rfl rfl ?_
   refine ol_nil ?_
   obtain rfl := Option.some.inj j8
   refine thn_i ?_
   exact ⟨rfl, rfl, rfl, rfl, q11⟩
  refine ol_gval (v := (pt G1 8)) (xr_fieldAddr (p := 0) (q := 8) rfl fl110_3 rfl) rfl rfl rfl rfl rfl c14 ?_
  refine ol_gval (v := V2_0) (xr_load1 (v := V2_0) rfl ag25 rfl (b2.seg 8 rfl rfl)) rfl rfl rfl rfl rfl c14 ?_
  refine ol_gval (v := .int .i64 (List.length a2.Charts : Int)) (xr_lenR rfl Try.underlying25 rfl (R2_0.gr fB)) rfl rfl rfl rfl rfl c14 ?_
  refine ol_gval (v := .bool (decide ((List.length a2.Charts : Int) > 60))) (xr_gtr rfl rfl rfl) rfl rfl rfl rfl rfl c14 ?_
  refine ol_val (v := .bool (decide ((List.length a2.Charts : Int) > 60))) (xr_pickF rfl rfl c14 rfl) rfl rfl rfl ?_
  refine ol_nil ?_
  obtain rfl := Option.some.inj j8
  refine thn_i ?_
  exact ⟨rfl, rfl, rfl, rfl, q11⟩
 rintro ρ15 w16 ⟨e0, e1, e5, e22, q17⟩
 have b2 := b2.gr q17
 have fB := fB.gr q17
 rcases is h with ⟨c18, h⟩ | ⟨c18, h⟩
 ·refine cw_condT e22 c18 ?_
  refine cw_seq ?_
  refine cw_region ?_
  obtain ⟨t19, k20, h⟩ := bs h
  refine ol_op (opv_call rfl cal69 an (rickyardlaw16_awake.ok fu _ _ k20)) rfl rfl rfl ?_
  rintro _ w22 ⟨rfl, q21⟩
  have fB := fB.gr q21
  refine ol_val (v := .bool t19) (xr_assign rfl rfl) rfl rfl rfl ?_
  refine ol_nil ?_
  refine cw_ret ?_
  repeat (first | with_reducible refine thn_r ?_ | with_reducible refine blk_r ?_)
  obtain rfl := Option.some.inj h
  refine fin_ret1 Try.results20 rfl ?_
  exact ⟨_, rfl, rfl, fB⟩
 refine cw_condF e22 c18 ?_
 refine cw_skip ?_
 refine cw_seq ?_
 refine cw_region ?_
 refine ol_val (v := V0_0) (xr_move rfl e0) rfl rfl rfl ?_
 obtain ⟨t23, k24, h⟩ := bs h
 refine ol_op (opv_call rfl cal48 (ac rfl an) (pmem_From.ok fu _ a0 V0_0 (R0_0.gr fB) _ k24)) rfl rfl rfl ?_
 rintro u25 w28 ⟨_, p26, rfl, q27⟩
 obtain ⟨G29, u33, u36, o34, o37, rfl, z30, b31⟩ := p26
 have o34 := Own.base o34 fB.size
 have o37 := Own.base o37 fB.size
 have n39 := b2.ne z30
 have z30 := Nat.le_trans fB.size z30
 have b2 := b2.gr q27
 have fB := fB.gr q27
 refine ol_val (v := (pt G29 0)) (xr_assign rfl rfl) rfl rfl rfl ?_
 refine ol_nil ?_
 refine cw_seq ?_
 refine cw_seq ?_
 refine cw_region ?_
 refine ol_val (v := (pt G29 0)) (xr_move rfl rfl) rfl rfl rfl ?_
 refine ol_val (v := .bool false) (xr_eqP (b := false) rfl Try.underlying30 rfl rfl (by simp) (by simp)) rfl rfl rfl ?_
 refine ol_nil ?_
 refine cw_condF rfl rfl ?_
 refine cw_skip ?_
 refine cw_seq ?_
 refine cw_region ?_
 refine ol_val (v := (pt G29 0)) (xr_move rfl rfl) rfl rfl rfl ?_
 refine ol_val (v := .int .i64 a1) (xr_move rfl e1) rfl rfl rfl ?_
 refine ol_val (v := aggV [(sI a2.Epoch), (sI a2.Tickets.Geometry.Blocks), (sI a2.Tickets.Geometry.Slots), (sI a2.Tickets.Geometry.Gens), (sI a2.Tickets.Top), (sI a2.Tickets.High), (sI a2.Tickets.Free), (sI a2.Dir), Seg.cell V2_0 R2_0.one]) (xr_loadS (ss := [(sI a2.Epoch), (sI a2.Tickets.Geometry.Blocks), (sI a2.Tickets.Geometry.Slots), (sI a2.Tickets.Geometry.Gens), (sI a2.Tickets.Top), (sI a2.Tickets.High), (sI a2.Tickets.Free), (sI a2.Dir), Seg.cell V2_0 R2_0.one]) rfl ag110 sz110 rfl e5 (b2.segs 0 9 rfl)) rfl rfl rfl ?_
 obtain ⟨t40, k41, h⟩ := bs h
 have f51 := (nb_or n39 (nb_or (nb_off (off_ty b2 o34 (by decide))) (nb_off (off_ty b2 o37 (by decide)))))
 have c52 : ∀ k, (k = G29 ∨ some k = Value.ownBlock u33 ∨ some k = Value.ownBlock u36) → w.heap.size ≤ k := (cv_or (cv_eq z30) (cv_or (cv_own o34.geO) (cv_own o37.geO)))
 refine ol_op (opv_call rfl cal77 (ac rfl (ac rfl (ac rfl an))) (root_Lay.ok fu _ t23 G29 u33 (Own.base o34 (Nat.zero_le _)) u36 (Own.base o37 (Nat.zero_le _)) b31 a1 a2 V2_0 (R2_0.gr fB) (OffR.new R2_0 z30 rfl) (OffRV.call R2_0 o34 rfl) (OffRV.call R2_0 o37 rfl) _ k41)) rfl rfl rfl ?_
 rintro _ w53 ⟨u43, u47, o44, m45, o48, m49, rfl, b31, q42⟩
 have o44 := Own.rebase o44 (fun g hg => (m45 g hg).elim (fun x => Nat.le_trans fB.size x) (c52 g))
 have o48 := Own.rebase o48 (fun g hg => (m49 g hg).elim (fun x => Nat.le_trans fB.size x) (c52 g))
 have b2 := b2.fr q42 f51
 have fB := fB.call q42 (fun k h => .inl (c52 k h))
 refine ol_val (v := .int .i64 t40.1) (xr_assign rfl rfl) rfl rfl rfl ?_
 refine ol_nil ?_
 refine cw_seq ?_
 refine cw_seq ?_
 obtain ⟨x54, j55, h⟩ := bs h
 refine cw_mid (fun ρ' w' => ρ' 0 = V0_0 ∧ ρ' 1 = .int .i64 a1 ∧ ρ' 5 = (pt G1 0) ∧ ρ' 7 = (pt G29 0) ∧ ρ' 8 = .int .i64 t40.1 ∧ ρ' 47 = .bool x54 ∧ Gr w53 w') ?_ ?_
 ·skip
  refine cw_region ?_
  refine ol_val (v := .int .i64 a1) (xr_move rfl e1) rfl rfl rfl ?_
  refine ol_val (v := .bool (decide (a1 < 0))) (xr_lss rfl rfl rfl) rfl rfl rfl ?_
  refine ol_val (v := .bool (decide (a1 < 0))) (xr_move rfl rfl) rfl rfl rfl ?_
  rcases is j55 with ⟨c56, j55⟩ | ⟨c56, j55⟩
  ·skip
   refine ol_gskip rfl rfl rfl rfl rfl c56 ?_
   refine ol_gskip rfl rfl rfl rfl rfl c56 ?_
   refine ol_val (v := .bool true) (xr_pickT rfl rfl c56 rfl) rfl rfl rfl ?_
   refine ol_val (v := .bool true) (xr_move rfl rfl) rfl rfl rfl ?_
   refine ol_gskip rfl rfl rfl rfl rfl rfl ?_
   refine ol_gskip rfl rfl rfl rfl rfl rfl ?_
   refine ol_gskip rfl rfl rfl rfl rfl rfl ?_
   refine ol_val (v := .bool true) (xr_pickT rfl rfl rfl rfl) rfl rfl rfl ?_
   refine ol_val (v := .bool true) (xr_move rfl rfl) rfl rfl rfl ?_
   refine ol_gskip rfl rfl rfl rfl rfl rfl ?_
   refine ol_gskip rfl rfl rfl rfl rfl rfl ?_
   refine ol_gskip rfl rfl rfl rfl rfl rfl ?_
   refine ol_val (v := .bool true) (xr_pickT rfl rfl rfl rfl) rfl rfl rfl ?_
   refine ol_nil ?_
   obtain rfl := Option.some.inj j55
   refine thn_i ?_
   exact ⟨e0, e1, e5, rfl, rfl, rfl, Fr.refl _ _⟩
  refine ol_gval (v := .int .i64 a1) (xr_move rfl e1) rfl rfl rfl rfl rfl c56 ?_
  refine ol_gval (v := .bool (decide (a1 > 1))) (xr_gtr rfl rfl rfl) rfl rfl rfl rfl rfl c56 ?_
  refine ol_val (v := .bool (decide (a1 > 1))) (xr_pickF rfl rfl c56 rfl) rfl rfl rfl ?_
  refine ol_val (v := .bool (decide (a1 > 1))) (xr_move rfl rfl) rfl rfl rfl ?_
  rcases is j55 with ⟨c57, j55⟩ | ⟨c57, j55⟩
  ·skip
   refine ol_gskip rfl rfl rfl rfl rfl c57 ?_
   refine ol_gskip rfl rfl rfl rfl rfl c57 ?_
   refine ol_gskip rfl rfl rfl rfl rfl c57 ?_
   refine ol_val (v := .bool true) (xr_pickT rfl rfl c57 rfl) rfl rfl rfl ?_
   refine ol_val (v := .bool true) (xr_move rfl rfl) rfl rfl rfl ?_
   refine ol_gskip rfl rfl rfl rfl rfl rfl ?_
   refine ol_gskip rfl rfl rfl rfl rfl rfl ?_
   refine ol_gskip rfl rfl rfl rfl rfl rfl ?_
   refine ol_val (v := .bool true) (xr_pickT rfl rfl rfl rfl) rfl rfl rfl ?_
   refine ol_nil ?_
   obtain rfl := Option.some.inj j55
   refine thn_i ?_
   exact ⟨e0, e1, e5, rfl, rfl, rfl, Fr.refl _ _⟩
  refine ol_gval (v := V0_0) (xr_move rfl e0) rfl rfl rfl rfl rfl c57 ?_
  refine ol_gval (v := .int .i64 (List.length a0 : Int)) (xr_lenR rfl Try.underlying43 rfl (R0_0.gr fB)) rfl rfl rfl rfl rfl c57 ?_
  refine ol_gval (v := .bool (decide ((List.length a0 : Int) < 128))) (xr_lss rfl rfl rfl) rfl rfl rfl rfl rfl c57 ?_
  refine ol_val (v := .bool (decide ((List.length a0 : Int) < 128))) (xr_pickF rfl rfl c57 rfl) rfl rfl rfl ?_
  refine ol_val (v := .bool (decide ((List.length a0 : Int) < 128))) (xr_move rfl rfl) rfl rfl rfl ?_
  rcases is j55 with ⟨c58, j55⟩ | ⟨c58, j55⟩
  ·skip
   refine ol_gskip rfl rfl rfl rfl rfl c58 ?_
   refine ol_gskip rfl rfl rfl rfl rfl c58 ?_
   refine ol_gskip rfl rfl rfl rfl rfl c58 ?_
   refine ol_val (v := .bool true) (xr_pickT rfl rfl c58 rfl) rfl rfl rfl ?_
   refine ol_nil ?_
   obtain rfl := Option.some.inj j55
   refine thn_i ?_
   exact ⟨e0, e1, e5, rfl, rfl, rfl, Fr.refl _ _⟩
  refine ol_gval (v := aggV [(sI a2.Epoch), (sI a2.Tickets.Geometry.Blocks), (sI a2.Tickets.Geometry.Slots), (sI a2.Tickets.Geometry.Gens), (sI a2.Tickets.Top), (sI a2.Tickets.High), (sI a2.Tickets.Free), (sI a2.Dir), Seg.cell V2_0 R2_0.one]) (xr_loadS (ss := [(sI a2.Epoch), (sI a2.Tickets.Geometry.Blocks), (sI a2.Tickets.Geometry.Slots), (sI a2.Tickets.Geometry.Gens), (sI a2.Tickets.Top), (sI a2.Tickets.High), (sI a2.Tickets.Free), (sI a2.Dir), Seg.cell V2_0 R2_0.one]) rfl ag110 sz110 rfl e5 (b2.segs 0 9 rfl)) rfl rfl rfl rfl rfl c58 ?_
  obtain ⟨t59, k60, j55⟩ := bs j55
  refine ol_gop (opv_call rfl cal75 (ac rfl an) (rickyardref13_Right.ok fu _ a2 V2_0 (R2_0.gr fB) _ k60)) rfl rfl rfl rfl rfl c58 ?_
  rintro _ w62 ⟨rfl, q61⟩
  have b2 := b2.gr q61
  have b31 := b31.gr q61
  have o44 := o44.gr q61
  have o48 := o48.gr q61
  have fB := fB.gr q61
  refine ol_gval (v := .bool (!t59)) (xr_not rfl rfl) rfl rfl rfl rfl rfl c58 ?_
  refine ol_val (v := .bool (!t59)) (xr_pickF rfl rfl c58 rfl) rfl rfl rfl ?_
  refine ol_nil ?_
  obtain rfl := Option.some.inj j55
  refine thn_i ?_
  exact ⟨e0, e1, e5, rfl, rfl, rfl, q61⟩
 rintro ρ63 w64 ⟨e0, e1, e5, e7, e8, e47, q65⟩
 have b2 := b2.gr q65
 have b31 := b31.gr q65
 have o44 := o44.gr q65
 have o48 := o48.gr q65
 have fB := fB.gr q65
 rcases is h with ⟨c66, h⟩ | ⟨c66, h⟩
 ·refine cw_condT e47 c66 ?_
  refine cw_seq ?_
  obtain ⟨x67, j68, h⟩ := bs h
  refine cw_mid (fun ρ' w' => ρ' 6 = .bool x67 ∧ Gr w64 w') ?_ ?_
  ·skip
   refine cw_region ?_
   refine ol_val (v := .int .i64 t40.1) (xr_move rfl e8) rfl rfl rfl ?_
   refine ol_val (v := .bool (decide (t40.1 = 2))) (xr_eqI rfl Try.underlying31 rfl rfl rfl) rfl rfl rfl ?_
   refine ol_val (v := .bool (decide (t40.1 = 2))) (xr_move rfl rfl) rfl rfl rfl ?_
   rcases is j68 with ⟨c69, j68⟩ | ⟨c69, j68⟩
   ·skip
    refine ol_gval (v := (pt G29 0)) (xr_move rfl e7) rfl rfl rfl rfl rfl c69 ?_
    obtain ⟨t70, k71, j68⟩ := bs j68
    refine ol_gop (opv_call rfl cal37 (ac rfl an) (pmem_Device_Steps.ok fu _ t40.2 G29 u43 (o44.rd) u47 (o48.rd) b31 _ k71)) rfl rfl rfl rfl rfl c69 ?_
    rintro _ w73 ⟨rfl, q72⟩
    have fB := fB.gr q72
    refine ol_gval (v := .bool (decide (t70 = 0))) (xr_eqI rfl Try.underlying3 rfl rfl rfl) rfl rfl rfl rfl rfl c69 ?_
    refine ol_val (v := .bool (decide (t70 = 0))) (xr_pickT rfl rfl c69 rfl) rfl rfl rfl ?_
    refine ol_val (v := .bool (decide (t70 = 0))) (xr_assign rfl rfl) rfl rfl rfl ?_
    refine ol_nil ?_
    obtain rfl := Option.some.inj j68
    refine thn_i ?_
    exact ⟨rfl, q72⟩
   refine ol_gskip rfl rfl rfl rfl rfl c69 ?_
   refine ol_gskip rfl rfl rfl rfl rfl c69 ?_
   refine ol_gskip rfl rfl rfl rfl rfl c69 ?_
   refine ol_val (v := .bool false) (xr_pickF rfl rfl c69 rfl) rfl rfl rfl ?_
   refine ol_val (v := .bool false) (xr_assign rfl rfl) rfl rfl rfl ?_
   refine ol_nil ?_
   obtain rfl := Option.some.inj j68
   refine thn_i ?_
   exact ⟨rfl, Fr.refl _ _⟩
  rintro ρ74 w75 ⟨e6, q76⟩
  have fB := fB.gr q76
  refine cw_ret ?_
  repeat (first | with_reducible refine thn_r ?_ | with_reducible refine blk_r ?_)
  obtain rfl := Option.some.inj h
  refine fin_ret1 Try.results20 e6 ?_
  exact ⟨_, rfl, rfl, fB⟩
 refine cw_condF e47 c66 ?_
 refine cw_skip ?_
 refine cw_seq ?_
 refine cw_region ?_
 refine ol_val (v := V0_0) (xr_move rfl e0) rfl rfl rfl ?_
 obtain ⟨t77, k78, h⟩ := bs h
 refine ol_op (opv_call rfl cal78 (ac rfl an) (rickyardref05_From.ok fu _ a0 V0_0 (R0_0.gr fB) _ k78)) rfl rfl rfl ?_
 rintro u79 w82 ⟨_, p80, rfl, q81⟩
 obtain ⟨G83, u87, u90, u93, u96, u99, o88, o91, o94, o97, o100, a102, a103, a104, rfl, z84, b85⟩ := p80
 have a105 := OffV.call o48 o100
 have o88 := Own.base o88 fB.size
 have o91 := Own.base o91 fB.size
 have o94 := Own.base o94 fB.size
 have o97 := Own.base o97 fB.size
 have o100 := Own.base o100 fB.size
 have n106 := b2.ne z84
 have n107 := b31.ne z84
 have z84 := Nat.le_trans fB.size z84
 have b2 := b2.gr q81
 have b31 := b31.gr q81
 have o44 := o44.gr q81
 have o48 := o48.gr q81
 have fB := fB.gr q81
 refine ol_val (v := (pt G83 0)) (xr_assign rfl rfl) rfl rfl rfl ?_
 refine ol_nil ?_
 refine cw_seq ?_
 refine rd_region mo ?_
 intro w108 q109
 have b2 := b2.gr q109
 have b31 := b31.gr q109
 have b85 := b85.gr q109
 have o44 := o44.gr q109
 have o48 := o48.gr q109
 have o88 := o88.gr q109
 have o91 := o91.gr q109
 have o94 := o94.gr q109
 have o97 := o97.gr q109
 have o100 := o100.gr q109
 have fB := fB.gr q109
 obtain ⟨t110, k111, h⟩ := bs h
 have f137 := (nb_or n106 (nb_or (nb_off (off_ty b2 o88 (by decide))) (nb_or (nb_off (off_ty b2 o91 (by decide))) (nb_or (nb_off (off_ty b2 o94 (by decide))) (nb_or (nb_off (off_ty b2 o97 (by decide))) (nb_off (off_ty b2 o100 (by decide))))))))
 have f138 := (nb_or n107 (nb_or (nb_off (off_ty b31 o88 (by decide))) (nb_or (nb_off (off_ty b31 o91 (by decide))) (nb_or (nb_off (off_ty b31 o94 (by decide))) (nb_or (nb_off (off_ty b31 o97 (by decide))) (nb_off (off_ty b31 o100 (by decide))))))))
 have f139 := (vo_or (vo_eq (off_ty b85 o44 (by decide))) (vo_or (vo_own (OffV.ty o44 o88 (by decide))) (vo_or (vo_own (OffV.ty o44 o91 (by decide))) (vo_or (vo_own (OffV.ty o44 o94 (by decide))) (vo_or (vo_own (OffV.ty o44 o97 (by decide))) (vo_own (OffV.ty o44 o100 (by decide))))))))
 have f140 := (vo_or (vo_eq (off_ty b85 o48 (by decide))) (vo_or (vo_own (OffV.ty o48 o88 (by decide))) (vo_or (vo_own (OffV.ty o48 o91 (by decide))) (vo_or (vo_own (OffV.ty o48 o94 (by decide))) (vo_or (vo_own (OffV.ty o48 o97 (by decide))) (vo_own a105))))))
 have c141 : ∀ k, (k = G83 ∨ some k = Value.ownBlock u87 ∨ some k = Value.ownBlock u90 ∨ some k = Value.ownBlock u93 ∨ some k = Value.ownBlock u96 ∨ some k = Value.ownBlock u99) → w.heap.size ≤ k := (cv_or (cv_eq z84) (cv_or (cv_own o88.geO) (cv_or (cv_own o91.geO) (cv_or (cv_own o94.geO) (cv_or (cv_own o97.geO) (cv_own o100.geO))))))
 refine rd_drawW 0 5 4 (fun j => j = G83 ∨ some j = Value.ownBlock u87 ∨ some j = Value.ownBlock u90 ∨ some j = Value.ownBlock u93 ∨ some j = Value.ownBlock u96 ∨ some j = Value.ownBlock u99) [fun vz wz => vz = (.int .i64 t40.1 : Value), fun vz wz => vz = ((pt G83 0) : Value), fun vz wz => vz = (.int .i64 a1 : Value), fun vz wz => vz = (aggV [(sI a2.Epoch), (sI a2.Tickets.Geometry.Blocks), (sI a2.Tickets.Geometry.Slots), (sI a2.Tickets.Geometry.Gens), (sI a2.Tickets.Top), (sI a2.Tickets.High), (sI a2.Tickets.Free), (sI a2.Dir), Seg.cell V2_0 R2_0.one] : Value), fun vz wz => ∃ u113 : Value, ∃ u117 : Value, ∃ u121 : Value, ∃ u125 : Value, ∃ u129 : Value, ∃ o114 : Own (kI .u64) 22 wz 0 u113 t110.2.Lasts, ∃ m115 : ∀ g, Value.ownBlock u113 = some g → w108.heap.size ≤ g ∨ (g = G83 ∨ some g = Value.ownBlock u87 ∨ some g = Value.ownBlock u90 ∨ some g = Value.ownBlock u93 ∨ some g = Value.ownBlock u96 ∨ some g = Value.ownBlock u99), ∃ o118 : Own (kI .u64) 22 wz 0 u117 t110.2.Stored, ∃ m119 : ∀ g, Value.ownBlock u117 = some g → w108.heap.size ≤ g ∨ (g = G83 ∨ some g = Value.ownBlock u87 ∨ some g = Value.ownBlock u90 ∨ some g = Value.ownBlock u93 ∨ some g = Value.ownBlock u96 ∨ some g = Value.ownBlock u99), ∃ o122 : Own (kI .u64) 22 wz 0 u121 t110.2.Sent, ∃ m123 : ∀ g, Value.ownBlock u121 = some g → w108.heap.size ≤ g ∨ (g = G83 ∨ some g = Value.ownBlock u87 ∨ some g = Value.ownBlock u90 ∨ some g = Value.ownBlock u93 ∨ some g = Value.ownBlock u96 ∨ some g = Value.ownBlock u99), ∃ o126 : Own kB 4 wz 0 u125 t110.2.Flushed, ∃ m127 : ∀ g, Value.ownBlock u125 = some g → w108.heap.size ≤ g ∨ (g = G83 ∨ some g = Value.ownBlock u87 ∨ some g = Value.ownBlock u90 ∨ some g = Value.ownBlock u93 ∨ some g = Value.ownBlock u96 ∨ some g = Value.ownBlock u99), ∃ o130 : Own (kI .i64) 3 wz 0 u129 t110.2.Plan, ∃ m131 : ∀ g, Value.ownBlock u129 = some g → w108.heap.size ≤ g ∨ (g = G83 ∨ some g = Value.ownBlock u87 ∨ some g = Value.ownBlock u90 ∨ some g = Value.ownBlock u93 ∨ some g = Value.ownBlock u96 ∨ some g = Value.ownBlock u99), ∃ a133 : OffV u113 u117, ∃ a134 : OffV u113 u121, ∃ a135 : OffV u117 u121, ∃ b136 : Blk wz G83 65 [Seg.cell u113 o114.one, Seg.cell u117 o118.one, Seg.cell u121 o122.one, Seg.cell u125 o126.one, Seg.cell u129 o130.one, (sI t110.2.Since), (sI t110.2.Left), (sI t110.2.Steps)], vz = (.int .i64 t110.1 : Value)] rfl rfl ⟨fun _ _ _ h _ => h, fun _ _ _ h _ => h, fun _ _ _ h _ => h, fun _ _ _ h _ => h, fun _ _ _ ⟨u113, u117, u121, u125, u129, o114, m115, o118, m119, o122, m123, o126, m127, o130, m131, a133, a134, a135, b136, h⟩ q => ⟨u113, u117, u121, u125, u129, o114.gr q, m115, o118.gr q, m119, o122.gr q, m123, o126.gr q, m127, o130.gr q, m131, a133, a134, a135, b136.gr q, h⟩, trivial⟩ ⟨.inr fun _ _ _ h _ => h, .inr fun _ _ _ h _ => h, .inr fun _ _ _ h _ => h, .inr fun _ _ _ h _ => h, .inl rfl, trivial⟩ ?_ ?_
 ·refine ⟨?_, ?_, ?_, ?_, ?_, trivial⟩
  ·intro ρz wz hz0 hz1 hk hd
   have hz := hz1 rfl
   refine sk_other rfl ?_
   exact sk_val (v := .int .i64 t40.1) (xr_move rfl ((hk 8 rfl).trans e8)) rfl rfl
  ·intro ρz wz hz0 hz1 hk hd
   have hz := hz1 rfl
   refine sk_other rfl ?_
   exact sk_val (v := (pt G83 0)) (xr_move rfl ((hk 9 rfl).trans rfl)) rfl rfl
  ·intro ρz wz hz0 hz1 hk hd
   have hz := hz1 rfl
   refine sk_other rfl ?_
   exact sk_val (v := .int .i64 a1) (xr_move rfl ((hk 1 rfl).trans e1)) rfl rfl
  ·intro ρz wz hz0 hz1 hk hd
   have hz := hz1 rfl
   refine sk_other rfl ?_
   exact sk_val (xr_loadS (ss := [(sI a2.Epoch), (sI a2.Tickets.Geometry.Blocks), (sI a2.Tickets.Geometry.Slots), (sI a2.Tickets.Geometry.Gens), (sI a2.Tickets.Top), (sI a2.Tickets.High), (sI a2.Tickets.Free), (sI a2.Dir), Seg.cell V2_0 R2_0.one]) rfl ag110 sz110 rfl ((hk 5 rfl).trans e5) ((b2.fr hz f137).segs 0 9 rfl)) rfl rfl
  intro ρz wz hz0 hz1 hk hd
  have hz := hz0 rfl
  refine sk_writer rfl (opv_call rfl cal79 (ac (hd 1 rfl rfl 58 rfl) (ac (hd 2 rfl rfl 59 rfl) (ac (hd 3 rfl rfl 60 rfl) an))) (rickyardref16_Lay.ok fu _ t77 G83 u87 (Own.base (o88.gr hz) (Nat.zero_le _)) u90 (Own.base (o91.gr hz) (Nat.zero_le _)) u93 (Own.base (o94.gr hz) (Nat.zero_le _)) u96 (Own.base (o97.gr hz) (Nat.zero_le _)) u99 (Own.base (o100.gr hz) (Nat.zero_le _)) (b85.gr hz) a1 a2 V2_0 (R2_0.gr (fB.gr hz)) a102 a103 a104 (OffR.new R2_0 z84 rfl) (OffRV.call R2_0 o88 rfl) (OffRV.call R2_0 o91 rfl) (OffRV.call R2_0 o94 rfl) (OffRV.call R2_0 o97 rfl) (OffRV.call R2_0 o100 rfl) _ k111)) rfl ?_
  rintro _ wy ⟨u113, u117, u121, u125, u129, o114, m115, o118, m119, o122, m123, o126, m127, o130, m131, a133, a134, a135, rfl, b85, q112⟩
  exact ⟨⟨u113, u117, u121, u125, u129, o114, (fun g hg => (m115 g hg).elim (fun x => .inl (Nat.le_trans hz.size x)) .inr), o118, (fun g hg => (m119 g hg).elim (fun x => .inl (Nat.le_trans hz.size x)) .inr), o122, (fun g hg => (m123 g hg).elim (fun x => .inl (Nat.le_trans hz.size x)) .inr), o126, (fun g hg => (m127 g hg).elim (fun x => .inl (Nat.le_trans hz.size x)) .inr), o130, (fun g hg => (m131 g hg).elim (fun x => .inl (Nat.le_trans hz.size x)) .inr), a133, a134, a135, b85, rfl⟩, q112⟩
 intro ρ142 w143 q144 hk hd
 have e7 := (hk 7 rfl).trans e7
 have e9 := (hk 9 rfl).trans rfl
 have e57 := hd 0 rfl rfl 57 rfl
 obtain ⟨u145, u146, u147, u148, u149, o150, m151, o152, m153, o154, m155, o156, m157, o158, m159, a160, a161, a162, b163, e61⟩ := hd 4 rfl rfl 61 rfl
 have a164 := ov_new o48 f140 m159
 have o150 := Own.rebase o150 (fun g hg => (m151 g hg).elim (fun x => Nat.le_trans fB.size x) (c141 g))
 have o152 := Own.rebase o152 (fun g hg => (m153 g hg).elim (fun x => Nat.le_trans fB.size x) (c141 g))
 have o154 := Own.rebase o154 (fun g hg => (m155 g hg).elim (fun x => Nat.le_trans fB.size x) (c141 g))
 have o156 := Own.rebase o156 (fun g hg => (m157 g hg).elim (fun x => Nat.le_trans fB.size x) (c141 g))
 have o158 := Own.rebase o158 (fun g hg => (m159 g hg).elim (fun x => Nat.le_trans fB.size x) (c141 g))
 have b31 := b31.fr q144 f138
 have o44 := o44.fr q144 f139
 have o48 := o48.fr q144 f140
 have fB := fB.call q144 (fun k h => .inl (c141 k h))
 refine rd_seq (m := 5) (n := 7) rfl ?_
 refine ol_val (v := .bool (decide (t40.1 = t110.1))) (xr_eqI rfl Try.underlying3 rfl e57 e61) rfl rfl rfl ?_
 refine ol_val (v := .bool (decide (t40.1 = t110.1))) (xr_move rfl rfl) rfl rfl rfl ?_
 refine ol_nilK ?_
 rcases is h with ⟨c165, h⟩ | ⟨c165, h⟩
 ·skip
  obtain ⟨t166, k167, h⟩ := bs h
  refine rd_drawL 7 13 [fun vz wz => vz = ((pt G29 0) : Value), fun vz wz => vz = (.int .i64 t166 : Value), fun vz wz => vz = ((pt G83 0) : Value), fun vz wz => vz = ((pt G83 0) : Value), fun vz wz => vz = ((pt G83 7) : Value), fun vz wz => vz = (.int .i64 t110.2.Steps : Value)] rfl ⟨fun _ _ _ h _ => h, fun _ _ _ h _ => h, fun _ _ _ h _ => h, fun _ _ _ h _ => h, fun _ _ _ h _ => h, fun _ _ _ h _ => h, trivial⟩ ?_ ?_
  ·refine ⟨?_, ?_, ?_, ?_, ?_, ?_, trivial⟩
   ·intro ρz wz hz hk hd
    exact sk_gval (v := (pt G29 0)) (xr_move rfl ((hk 7 rfl).trans e7)) rfl rfl ((hk 63 rfl).trans rfl) c165 rfl
   ·intro ρz wz hz hk hd
    refine sk_gop (opv_call rfl cal37 (ac (hd 7 rfl rfl 64 rfl) an) (pmem_Device_Steps.ok fu _ t40.2 G29 u43 (o44.gr hz).rd u47 (o48.gr hz).rd (b31.gr hz) _ k167)) rfl rfl ((hk 63 rfl).trans rfl) c165 ?_
    rintro _ wy ⟨rfl, q168⟩
    exact ⟨rfl, q168⟩
   ·intro ρz wz hz hk hd
    exact sk_gval (v := (pt G83 0)) (xr_move rfl ((hk 9 rfl).trans e9)) rfl rfl ((hk 63 rfl).trans rfl) c165 rfl
   ·intro ρz wz hz hk hd
    exact sk_gval (v := (pt G83 0)) (xr_nilCheck rfl (hd 9 rfl rfl 66 rfl)) rfl rfl ((hk 63 rfl).trans rfl) c165 rfl
   ·intro ρz wz hz hk hd
    exact sk_gval (v := (pt G83 7)) (xr_fieldAddr (p := 0) (q := 7) rfl fl65_7 (hd 10 rfl rfl 67 rfl)) rfl rfl ((hk 63 rfl).trans rfl) c165 rfl
   intro ρz wz hz hk hd
   exact sk_gval (v := .int .i64 t110.2.Steps) (xr_load1 (v := .int .i64 t110.2.Steps) rfl ag3 (hd 11 rfl rfl 68 rfl) ((b163.gr hz).seg 7 rfl rfl)) rfl rfl ((hk 63 rfl).trans rfl) c165 rfl
  intro ρ169 w170 q171 hk hd
  have e7 := (hk 7 rfl).trans e7
  have e9 := (hk 9 rfl).trans e9
  have e63 := (hk 63 rfl).trans rfl
  have e65 := hd 8 rfl rfl 65 rfl
  have e69 := hd 12 rfl rfl 69 rfl
  have b31 := b31.gr q171
  have b163 := b163.gr q171
  have o44 := o44.gr q171
  have o48 := o48.gr q171
  have o150 := o150.gr q171
  have o152 := o152.gr q171
  have o154 := o154.gr q171
  have o156 := o156.gr q171
  have o158 := o158.gr q171
  have fB := fB.gr q171
  refine rd_seq (m := 13) (n := 16) rfl ?_
  refine ol_gval (v := .bool (decide (t166 = t110.2.Steps))) (xr_eqI rfl Try.underlying3 rfl e65 e69) rfl rfl rfl rfl e63 c165 ?_
  refine ol_val (v := .bool (decide (t166 = t110.2.Steps))) (xr_pickT rfl e63 c165 rfl) rfl rfl rfl ?_
  refine ol_val (v := .bool (decide (t166 = t110.2.Steps))) (xr_move rfl rfl) rfl rfl rfl ?_
  refine ol_nilK ?_
  rcases is h with ⟨c172, h⟩ | ⟨c172, h⟩
  ·skip
   obtain ⟨t173, k174, h⟩ := bs h
   obtain ⟨t179, k180, h⟩ := bs h
   refine rd_drawL 16 24 [fun vz wz => vz = ((pt G29 0) : Value), fun vz wz => ∃ u175 : Value, ∃ o176 : Own (kI .u8) 5 wz w.heap.size u175 t173, vz = (u175 : Value), fun vz wz => vz = (sv (List.map toB t173) : Value), fun vz wz => vz = ((pt G83 0) : Value), fun vz wz => vz = ((pt G83 0) : Value), fun vz wz => vz = ((pt G83 0) : Value), fun vz wz => vz = (u145 : Value), fun vz wz => vz = (sv t179 : Value)] rfl ⟨fun _ _ _ h _ => h, fun _ _ _ ⟨u175, o176, h⟩ q => ⟨u175, o176.gr q, h⟩, fun _ _ _ h _ => h, fun _ _ _ h _ => h, fun _ _ _ h _ => h, fun _ _ _ h _ => h, fun _ _ _ h _ => h, fun _ _ _ h _ => h, trivial⟩ ?_ ?_
   ·refine ⟨?_, ?_, ?_, ?_, ?_, ?_, ?_, ?_, trivial⟩
    ·intro ρz wz hz hk hd
     exact sk_gval (v := (pt G29 0)) (xr_move rfl ((hk 7 rfl).trans e7)) rfl rfl ((hk 72 rfl).trans rfl) c172 rfl
    ·intro ρz wz hz hk hd
     refine sk_gop (opv_call rfl cal33 (ac (hd 16 rfl rfl 73 rfl) an) (pmem_Device_Image.ok fu _ t40.2 G29 u43 (o44.gr hz).rd u47 (o48.gr hz).rd (b31.gr hz) _ k174)) rfl rfl ((hk 72 rfl).trans rfl) c172 ?_
     rintro u175 wy ⟨_, o176, rfl, q178⟩
     exact ⟨⟨u175, Own.base o176 ((Nat.le_trans fB.size hz.size)), rfl⟩, q178⟩
    ·intro ρz wz hz hk hd
     obtain ⟨u175, o176, d74⟩ := hd 17 rfl rfl 74 rfl
     exact sk_gval (v := sv (List.map toB t173)) (xr_toStr rfl Try.underlying43 Try.underlying5 Try.underlying9 d74 o176.rd) rfl rfl ((hk 72 rfl).trans rfl) c172 rfl
    ·intro ρz wz hz hk hd
     exact sk_gval (v := (pt G83 0)) (xr_move rfl ((hk 9 rfl).trans e9)) rfl rfl ((hk 72 rfl).trans rfl) c172 rfl
    ·intro ρz wz hz hk hd
     exact sk_gval (v := (pt G83 0)) (xr_nilCheck rfl (hd 19 rfl rfl 76 rfl)) rfl rfl ((hk 72 rfl).trans rfl) c172 rfl
    ·intro ρz wz hz hk hd
     exact sk_gval (v := (pt G83 0)) (xr_fieldAddr (p := 0) (q := 0) rfl fl65_0 (hd 20 rfl rfl 77 rfl)) rfl rfl ((hk 72 rfl).trans rfl) c172 rfl
    ·intro ρz wz hz hk hd
     exact sk_gval (v := u145) (xr_load1 (v := u145) rfl ag46 (hd 21 rfl rfl 78 rfl) ((b163.gr hz).seg 0 rfl rfl)) rfl rfl ((hk 72 rfl).trans rfl) c172 rfl
    intro ρz wz hz hk hd
    refine sk_gop (opv_call rfl cal34 (ac (hd 22 rfl rfl 79 rfl) an) (rickyardref05_Text.ok fu _ t110.2.Lasts u145 (o150.gr hz).rd _ k180)) rfl rfl ((hk 72 rfl).trans rfl) c172 ?_
    rintro _ wy ⟨rfl, q181⟩
    exact ⟨rfl, q181⟩
   intro ρ182 w183 q184 hk hd
   have e7 := (hk 7 rfl).trans e7
   have e9 := (hk 9 rfl).trans e9
   have e72 := (hk 72 rfl).trans rfl
   have e75 := hd 18 rfl rfl 75 rfl
   have e80 := hd 23 rfl rfl 80 rfl
   have b31 := b31.gr q184
   have b163 := b163.gr q184
   have o44 := o44.gr q184
   have o48 := o48.gr q184
   have o150 := o150.gr q184
   have o152 := o152.gr q184
   have o154 := o154.gr q184
   have o156 := o156.gr q184
   have o158 := o158.gr q184
   have fB := fB.gr q184
   refine rd_seq (m := 24) (n := 27) rfl ?_
   refine ol_gval (v := .bool (decide ((List.map toB t173) = t179))) (xr_eqStr rfl Try.underlying9 e75 e80) rfl rfl rfl rfl e72 c172 ?_
   refine ol_val (v := .bool (decide ((List.map toB t173) = t179))) (xr_pickT rfl e72 c172 rfl) rfl rfl rfl ?_
   refine ol_val (v := .bool (decide ((List.map toB t173) = t179))) (xr_move rfl rfl) rfl rfl rfl ?_
   refine ol_nilK ?_
   rcases is h with ⟨c185, h⟩ | ⟨c185, h⟩
   ·skip
    obtain ⟨t186, k187, h⟩ := bs h
    obtain ⟨t192, k193, h⟩ := bs h
    refine rd_drawL 27 35 [fun vz wz => vz = ((pt G29 0) : Value), fun vz wz => ∃ u188 : Value, ∃ o189 : Own (kI .u8) 5 wz w.heap.size u188 t186, vz = (u188 : Value), fun vz wz => vz = (sv (List.map toB t186) : Value), fun vz wz => vz = ((pt G83 0) : Value), fun vz wz => vz = ((pt G83 0) : Value), fun vz wz => vz = ((pt G83 1) : Value), fun vz wz => vz = (u146 : Value), fun vz wz => vz = (sv t192 : Value)] rfl ⟨fun _ _ _ h _ => h, fun _ _ _ ⟨u188, o189, h⟩ q => ⟨u188, o189.gr q, h⟩, fun _ _ _ h _ => h, fun _ _ _ h _ => h, fun _ _ _ h _ => h, fun _ _ _ h _ => h, fun _ _ _ h _ => h, fun _ _ _ h _ => h, trivial⟩ ?_ ?_
    ·refine ⟨?_, ?_, ?_, ?_, ?_, ?_, ?_, ?_, trivial⟩
     ·intro ρz wz hz hk hd
      exact sk_gval (v := (pt G29 0)) (xr_move rfl ((hk 7 rfl).trans e7)) rfl rfl ((hk 83 rfl).trans rfl) c185 rfl
     ·intro ρz wz hz hk hd
      refine sk_gop (opv_call rfl cal36 (ac (hd 27 rfl rfl 84 rfl) an) (pmem_Device_View.ok fu _ t40.2 G29 u43 (o44.gr hz).rd u47 (o48.gr hz).rd (b31.gr hz) _ k187)) rfl rfl ((hk 83 rfl).trans rfl) c185 ?_
      rintro u188 wy ⟨_, o189, rfl, q191⟩
      exact ⟨⟨u188, Own.base o189 ((Nat.le_trans fB.size hz.size)), rfl⟩, q191⟩
     ·intro ρz wz hz hk hd
      obtain ⟨u188, o189, d85⟩ := hd 28 rfl rfl 85 rfl
      exact sk_gval (v := sv (List.map toB t186)) (xr_toStr rfl Try.underlying43 Try.underlying5 Try.underlying9 d85 o189.rd) rfl rfl ((hk 83 rfl).trans rfl) c185 rfl
     ·intro ρz wz hz hk hd
      exact sk_gval (v := (pt G83 0)) (xr_move rfl ((hk 9 rfl).trans e9)) rfl rfl ((hk 83 rfl).trans rfl) c185 rfl
     ·intro ρz wz hz hk hd
      exact sk_gval (v := (pt G83 0)) (xr_nilCheck rfl (hd 30 rfl rfl 87 rfl)) rfl rfl ((hk 83 rfl).trans rfl) c185 rfl
     ·intro ρz wz hz hk hd
      exact sk_gval (v := (pt G83 1)) (xr_fieldAddr (p := 0) (q := 1) rfl fl65_1 (hd 31 rfl rfl 88 rfl)) rfl rfl ((hk 83 rfl).trans rfl) c185 rfl
     ·intro ρz wz hz hk hd
      exact sk_gval (v := u146) (xr_load1 (v := u146) rfl ag46 (hd 32 rfl rfl 89 rfl) ((b163.gr hz).seg 1 rfl rfl)) rfl rfl ((hk 83 rfl).trans rfl) c185 rfl
     intro ρz wz hz hk hd
     refine sk_gop (opv_call rfl cal34 (ac (hd 33 rfl rfl 90 rfl) an) (rickyardref05_Text.ok fu _ t110.2.Stored u146 (o152.gr hz).rd _ k193)) rfl rfl ((hk 83 rfl).trans rfl) c185 ?_
     rintro _ wy ⟨rfl, q194⟩
     exact ⟨rfl, q194⟩
    intro ρ195 w196 q197 hk hd
    have e7 := (hk 7 rfl).trans e7
    have e83 := (hk 83 rfl).trans rfl
    have e86 := hd 29 rfl rfl 86 rfl
    have e91 := hd 34 rfl rfl 91 rfl
    have b31 := b31.gr q197
    have o44 := o44.gr q197
    have o48 := o48.gr q197
    have fB := fB.gr q197
    refine rd_seq (m := 35) (n := 44) rfl ?_
    refine ol_gval (v := .bool (decide ((List.map toB t186) = t192))) (xr_eqStr rfl Try.underlying9 e86 e91) rfl rfl rfl rfl e83 c185 ?_
    refine ol_val (v := .bool (decide ((List.map toB t186) = t192))) (xr_pickT rfl e83 c185 rfl) rfl rfl rfl ?_
    refine ol_val (v := .bool (decide ((List.map toB t186) = t192))) (xr_move rfl rfl) rfl rfl rfl ?_
    rcases is h with ⟨c198, h⟩ | ⟨c198, h⟩
    ·skip
     refine ol_gval (v := (pt G29 0)) (xr_move rfl e7) rfl rfl rfl rfl rfl c198 ?_
     obtain ⟨t199, k200, h⟩ := bs h
     refine ol_gop (opv_call rfl cal40 (ac rfl an) (pmem_Device_Fates.ok fu _ t40.2 G29 u43 (o44.rd) u47 (o48.rd) b31 _ k200)) rfl rfl rfl rfl rfl c198 ?_
     rintro u201 w205 ⟨_, o202, rfl, q204⟩
     have o202 := Own.base o202 fB.size
     have fB := fB.gr q204
     refine ol_gval (v := .int .i64 (List.length t199 : Int)) (xr_lenR rfl Try.underlying52 rfl o202.rd) rfl rfl rfl rfl rfl c198 ?_
     refine ol_gval (v := .bool (decide ((List.length t199 : Int) = 0))) (xr_eqI rfl Try.underlying3 rfl rfl rfl) rfl rfl rfl rfl rfl c198 ?_
     refine ol_val (v := .bool (decide ((List.length t199 : Int) = 0))) (xr_pickT rfl rfl c198 rfl) rfl rfl rfl ?_
     refine ol_val (v := .bool (decide ((List.length t199 : Int) = 0))) (xr_assign rfl rfl) rfl rfl rfl ?_
     refine ol_nilK ?_
     refine rd_end rfl ?_
     refine cw_ret ?_
     repeat (first | with_reducible refine thn_r ?_ | with_reducible refine blk_r ?_)
     obtain rfl := Option.some.inj h
     refine fin_ret1 Try.results20 rfl ?_
     exact ⟨_, rfl, rfl, fB⟩
    refine ol_gskip rfl rfl rfl rfl rfl c198 ?_
    refine ol_gskip rfl rfl rfl rfl rfl c198 ?_
    refine ol_gskip rfl rfl rfl rfl rfl c198 ?_
    refine ol_gskip rfl rfl rfl rfl rfl c198 ?_
    refine ol_val (v := .bool false) (xr_pickF rfl rfl c198 rfl) rfl rfl rfl ?_
    refine ol_val (v := .bool false) (xr_assign rfl rfl) rfl rfl rfl ?_
    refine ol_nilK ?_
    refine rd_end rfl ?_
    refine cw_ret ?_
    repeat (first | with_reducible refine thn_r ?_ | with_reducible refine blk_r ?_)
    obtain rfl := Option.some.inj h
    refine fin_ret1 Try.results20 rfl ?_
    exact ⟨_, rfl, rfl, fB⟩
   refine rd_drawL 27 35 [fun vz _ => vz = undef, fun vz _ => vz = undef, fun vz _ => vz = undef, fun vz _ => vz = undef, fun vz _ => vz = undef, fun vz _ => vz = undef, fun vz _ => vz = undef, fun vz _ => vz = undef] rfl ⟨fun _ _ _ h _ => h, fun _ _ _ h _ => h, fun _ _ _ h _ => h, fun _ _ _ h _ => h, fun _ _ _ h _ => h, fun _ _ _ h _ => h, fun _ _ _ h _ => h, fun _ _ _ h _ => h, trivial⟩ ?_ ?_
   ·refine ⟨?_, ?_, ?_, ?_, ?_, ?_, ?_, ?_, trivial⟩
    ·intro ρz wz hz hk hd
     exact sk_skip rfl rfl ((hk 83 rfl).trans rfl) c185 rfl
    ·intro ρz wz hz hk hd
     exact sk_skip rfl rfl ((hk 83 rfl).trans rfl) c185 rfl
    ·intro ρz wz hz hk hd
     exact sk_skip rfl rfl ((hk 83 rfl).trans rfl) c185 rfl
    ·intro ρz wz hz hk hd
     exact sk_skip rfl rfl ((hk 83 rfl).trans rfl) c185 rfl
    ·intro ρz wz hz hk hd
     exact sk_skip rfl rfl ((hk 83 rfl).trans rfl) c185 rfl
    ·intro ρz wz hz hk hd
     exact sk_skip rfl rfl ((hk 83 rfl).trans rfl) c185 rfl
    ·intro ρz wz hz hk hd
     exact sk_skip rfl rfl ((hk 83 rfl).trans rfl) c185 rfl
    intro ρz wz hz hk hd
    exact sk_skip rfl rfl ((hk 83 rfl).trans rfl) c185 rfl
   intro ρ206 w207 q208 hk hd
   have e7 := (hk 7 rfl).trans e7
   have e83 := (hk 83 rfl).trans rfl
   have e86 := hd 29 rfl rfl 86 rfl
   have e91 := hd 34 rfl rfl 91 rfl
   have b31 := b31.gr q208
   have o44 := o44.gr q208
   have o48 := o48.gr q208
   have fB := fB.gr q208
   refine rd_seq (m := 35) (n := 44) rfl ?_
   refine ol_gskip rfl rfl rfl rfl e83 c185 ?_
   refine ol_val (v := .bool false) (xr_pickF rfl e83 c185 rfl) rfl rfl rfl ?_
   refine ol_val (v := .bool false) (xr_move rfl rfl) rfl rfl rfl ?_
   refine ol_gskip rfl rfl rfl rfl rfl rfl ?_
   refine ol_gskip rfl rfl rfl rfl rfl rfl ?_
   refine ol_gskip rfl rfl rfl rfl rfl rfl ?_
   refine ol_gskip rfl rfl rfl rfl rfl rfl ?_
   refine ol_val (v := .bool false) (xr_pickF rfl rfl rfl rfl) rfl rfl rfl ?_
   refine ol_val (v := .bool false) (xr_assign rfl rfl) rfl rfl rfl ?_
   refine ol_nilK ?_
   refine rd_end rfl ?_
   refine cw_ret ?_
   repeat (first | with_reducible refine thn_r ?_ | with_reducible refine blk_r ?_)
   obtain rfl := Option.some.inj h
   refine fin_ret1 Try.results20 rfl ?_
   exact ⟨_, rfl, rfl, fB⟩
  refine rd_drawL 16 24 [fun vz _ => vz = undef, fun vz _ => vz = undef, fun vz _ => vz = undef, fun vz _ => vz = undef, fun vz _ => vz = undef, fun vz _ => vz = undef, fun vz _ => vz = undef, fun vz _ => vz = undef] rfl ⟨fun _ _ _ h _ => h, fun _ _ _ h _ => h, fun _ _ _ h _ => h, fun _ _ _ h _ => h, fun _ _ _ h _ => h, fun _ _ _ h _ => h, fun _ _ _ h _ => h, fun _ _ _ h _ => h, trivial⟩ ?_ ?_
  ·refine ⟨?_, ?_, ?_, ?_, ?_, ?_, ?_, ?_, trivial⟩
   ·intro ρz wz hz hk hd
    exact sk_skip rfl rfl ((hk 72 rfl).trans rfl) c172 rfl
   ·intro ρz wz hz hk hd
    exact sk_skip rfl rfl ((hk 72 rfl).trans rfl) c172 rfl
   ·intro ρz wz hz hk hd
    exact sk_skip rfl rfl ((hk 72 rfl).trans rfl) c172 rfl
   ·intro ρz wz hz hk hd
    exact sk_skip rfl rfl ((hk 72 rfl).trans rfl) c172 rfl
   ·intro ρz wz hz hk hd
    exact sk_skip rfl rfl ((hk 72 rfl).trans rfl) c172 rfl
   ·intro ρz wz hz hk hd
    exact sk_skip rfl rfl ((hk 72 rfl).trans rfl) c172 rfl
   ·intro ρz wz hz hk hd
    exact sk_skip rfl rfl ((hk 72 rfl).trans rfl) c172 rfl
   intro ρz wz hz hk hd
   exact sk_skip rfl rfl ((hk 72 rfl).trans rfl) c172 rfl
  intro ρ209 w210 q211 hk hd
  have e7 := (hk 7 rfl).trans e7
  have e9 := (hk 9 rfl).trans e9
  have e72 := (hk 72 rfl).trans rfl
  have e75 := hd 18 rfl rfl 75 rfl
  have e80 := hd 23 rfl rfl 80 rfl
  have b31 := b31.gr q211
  have b163 := b163.gr q211
  have o44 := o44.gr q211
  have o48 := o48.gr q211
  have o150 := o150.gr q211
  have o152 := o152.gr q211
  have o154 := o154.gr q211
  have o156 := o156.gr q211
  have o158 := o158.gr q211
  have fB := fB.gr q211
  refine rd_seq (m := 24) (n := 27) rfl ?_
  refine ol_gskip rfl rfl rfl rfl e72 c172 ?_
  refine ol_val (v := .bool false) (xr_pickF rfl e72 c172 rfl) rfl rfl rfl ?_
  refine ol_val (v := .bool false) (xr_move rfl rfl) rfl rfl rfl ?_
  refine ol_nilK ?_
  refine rd_drawL 27 35 [fun vz _ => vz = undef, fun vz _ => vz = undef, fun vz _ => vz = undef, fun vz _ => vz = undef, fun vz _ => vz = undef, fun vz _ => vz = undef, fun vz _ => vz = undef, fun vz _ => vz = undef] rfl ⟨fun _ _ _ h _ => h, fun _ _ _ h _ => h, fun _ _ _ h _ => h, fun _ _ _ h _ => h, fun _ _ _ h _ => h, fun _ _ _ h _ => h, fun _ _ _ h _ => h, fun _ _ _ h _ => h, trivial⟩ ?_ ?_
  ·refine ⟨?_, ?_, ?_, ?_, ?_, ?_, ?_, ?_, trivial⟩
   ·intro ρz wz hz hk hd
    exact sk_skip rfl rfl ((hk 83 rfl).trans rfl) rfl rfl
   ·intro ρz wz hz hk hd
    exact sk_skip rfl rfl ((hk 83 rfl).trans rfl) rfl rfl
   ·intro ρz wz hz hk hd
    exact sk_skip rfl rfl ((hk 83 rfl).trans rfl) rfl rfl
   ·intro ρz wz hz hk hd
    exact sk_skip rfl rfl ((hk 83 rfl).trans rfl) rfl rfl
   ·intro ρz wz hz hk hd
    exact sk_skip rfl rfl ((hk 83 rfl).trans rfl) rfl rfl
   ·intro ρz wz hz hk hd
    exact sk_skip rfl rfl ((hk 83 rfl).trans rfl) rfl rfl
   ·intro ρz wz hz hk hd
    exact sk_skip rfl rfl ((hk 83 rfl).trans rfl) rfl rfl
   intro ρz wz hz hk hd
   exact sk_skip rfl rfl ((hk 83 rfl).trans rfl) rfl rfl
  intro ρ212 w213 q214 hk hd
  have e7 := (hk 7 rfl).trans e7
  have e83 := (hk 83 rfl).trans rfl
  have e86 := hd 29 rfl rfl 86 rfl
  have e91 := hd 34 rfl rfl 91 rfl
  have b31 := b31.gr q214
  have o44 := o44.gr q214
  have o48 := o48.gr q214
  have fB := fB.gr q214
  refine rd_seq (m := 35) (n := 44) rfl ?_
  refine ol_gskip rfl rfl rfl rfl e83 rfl ?_
  refine ol_val (v := .bool false) (xr_pickF rfl e83 rfl rfl) rfl rfl rfl ?_
  refine ol_val (v := .bool false) (xr_move rfl rfl) rfl rfl rfl ?_
  refine ol_gskip rfl rfl rfl rfl rfl rfl ?_
  refine ol_gskip rfl rfl rfl rfl rfl rfl ?_
  refine ol_gskip rfl rfl rfl rfl rfl rfl ?_
  refine ol_gskip rfl rfl rfl rfl rfl rfl ?_
  refine ol_val (v := .bool false) (xr_pickF rfl rfl rfl rfl) rfl rfl rfl ?_
  refine ol_val (v := .bool false) (xr_assign rfl rfl) rfl rfl rfl ?_
  refine ol_nilK ?_
  refine rd_end rfl ?_
  refine cw_ret ?_
  repeat (first | with_reducible refine thn_r ?_ | with_reducible refine blk_r ?_)
  obtain rfl := Option.some.inj h
  refine fin_ret1 Try.results20 rfl ?_
  exact ⟨_, rfl, rfl, fB⟩
 refine rd_drawL 7 13 [fun vz _ => vz = undef, fun vz _ => vz = undef, fun vz _ => vz = undef, fun vz _ => vz = undef, fun vz _ => vz = undef, fun vz _ => vz = undef] rfl ⟨fun _ _ _ h _ => h, fun _ _ _ h _ => h, fun _ _ _ h _ => h, fun _ _ _ h _ => h, fun _ _ _ h _ => h, fun _ _ _ h _ => h, trivial⟩ ?_ ?_
 ·refine ⟨?_, ?_, ?_, ?_, ?_, ?_, trivial⟩
  ·intro ρz wz hz hk hd
   exact sk_skip rfl rfl ((hk 63 rfl).trans rfl) c165 rfl
  ·intro ρz wz hz hk hd
   exact sk_skip rfl rfl ((hk 63 rfl).trans rfl) c165 rfl
  ·intro ρz wz hz hk hd
   exact sk_skip rfl rfl ((hk 63 rfl).trans rfl) c165 rfl
  ·intro ρz wz hz hk hd
   exact sk_skip rfl rfl ((hk 63 rfl).trans rfl) c165 rfl
  ·intro ρz wz hz hk hd
   exact sk_skip rfl rfl ((hk 63 rfl).trans rfl) c165 rfl
  intro ρz wz hz hk hd
  exact sk_skip rfl rfl ((hk 63 rfl).trans rfl) c165 rfl
 intro ρ215 w216 q217 hk hd
 have e7 := (hk 7 rfl).trans e7
 have e9 := (hk 9 rfl).trans e9
 have e63 := (hk 63 rfl).trans rfl
 have e65 := hd 8 rfl rfl 65 rfl
 have e69 := hd 12 rfl rfl 69 rfl
 have b31 := b31.gr q217
 have b163 := b163.gr q217
 have o44 := o44.gr q217
 have o48 := o48.gr q217
 have o150 := o150.gr q217
 have o152 := o152.gr q217
 have o154 := o154.gr q217
 have o156 := o156.gr q217
 have o158 := o158.gr q217
 have fB := fB.gr q217
 refine rd_seq (m := 13) (n := 16) rfl ?_
 refine ol_gskip rfl rfl rfl rfl e63 c165 ?_
 refine ol_val (v := .bool false) (xr_pickF rfl e63 c165 rfl) rfl rfl rfl ?_
 refine ol_val (v := .bool false) (xr_move rfl rfl) rfl rfl rfl ?_
 refine ol_nilK ?_
 refine rd_drawL 16 24 [fun vz _ => vz = undef, fun vz _ => vz = undef, fun vz _ => vz = undef, fun vz _ => vz = undef, fun vz _ => vz = undef, fun vz _ => vz = undef, fun vz _ => vz = undef, fun vz _ => vz = undef] rfl ⟨fun _ _ _ h _ => h, fun _ _ _ h _ => h, fun _ _ _ h _ => h, fun _ _ _ h _ => h, fun _ _ _ h _ => h, fun _ _ _ h _ => h, fun _ _ _ h _ => h, fun _ _ _ h _ => h, trivial⟩ ?_ ?_
 ·refine ⟨?_, ?_, ?_, ?_, ?_, ?_, ?_, ?_, trivial⟩
  ·intro ρz wz hz hk hd
   exact sk_skip rfl rfl ((hk 72 rfl).trans rfl) rfl rfl
  ·intro ρz wz hz hk hd
   exact sk_skip rfl rfl ((hk 72 rfl).trans rfl) rfl rfl
  ·intro ρz wz hz hk hd
   exact sk_skip rfl rfl ((hk 72 rfl).trans rfl) rfl rfl
  ·intro ρz wz hz hk hd
   exact sk_skip rfl rfl ((hk 72 rfl).trans rfl) rfl rfl
  ·intro ρz wz hz hk hd
   exact sk_skip rfl rfl ((hk 72 rfl).trans rfl) rfl rfl
  ·intro ρz wz hz hk hd
   exact sk_skip rfl rfl ((hk 72 rfl).trans rfl) rfl rfl
  ·intro ρz wz hz hk hd
   exact sk_skip rfl rfl ((hk 72 rfl).trans rfl) rfl rfl
  intro ρz wz hz hk hd
  exact sk_skip rfl rfl ((hk 72 rfl).trans rfl) rfl rfl
 intro ρ218 w219 q220 hk hd
 have e7 := (hk 7 rfl).trans e7
 have e9 := (hk 9 rfl).trans e9
 have e72 := (hk 72 rfl).trans rfl
 have e75 := hd 18 rfl rfl 75 rfl
 have e80 := hd 23 rfl rfl 80 rfl
 have b31 := b31.gr q220
 have b163 := b163.gr q220
 have o44 := o44.gr q220
 have o48 := o48.gr q220
 have o150 := o150.gr q220
 have o152 := o152.gr q220
 have o154 := o154.gr q220
 have o156 := o156.gr q220
 have o158 := o158.gr q220
 have fB := fB.gr q220
 refine rd_seq (m := 24) (n := 27) rfl ?_
 refine ol_gskip rfl rfl rfl rfl e72 rfl ?_
 refine ol_val (v := .bool false) (xr_pickF rfl e72 rfl rfl) rfl rfl rfl ?_
 refine ol_val (v := .bool false) (xr_move rfl rfl) rfl rfl rfl ?_
 refine ol_nilK ?_
 refine rd_drawL 27 35 [fun vz _ => vz = undef, fun vz _ => vz = undef, fun vz _ => vz = undef, fun vz _ => vz = undef, fun vz _ => vz = undef, fun vz _ => vz = undef, fun vz _ => vz = undef, fun vz _ => vz = undef] rfl ⟨fun _ _ _ h _ => h, fun _ _ _ h _ => h, fun _ _ _ h _ => h, fun _ _ _ h _ => h, fun _ _ _ h _ => h, fun _ _ _ h _ => h, fun _ _ _ h _ => h, fun _ _ _ h _ => h, trivial⟩ ?_ ?_
 ·refine ⟨?_, ?_, ?_, ?_, ?_, ?_, ?_, ?_, trivial⟩
  ·intro ρz wz hz hk hd
   exact sk_skip rfl rfl ((hk 83 rfl).trans rfl) rfl rfl
  ·intro ρz wz hz hk hd
   exact sk_skip rfl rfl ((hk 83 rfl).trans rfl) rfl rfl
  ·intro ρz wz hz hk hd
   exact sk_skip rfl rfl ((hk 83 rfl).trans rfl) rfl rfl
  ·intro ρz wz hz hk hd
   exact sk_skip rfl rfl ((hk 83 rfl).trans rfl) rfl rfl
  ·intro ρz wz hz hk hd
   exact sk_skip rfl rfl ((hk 83 rfl).trans rfl) rfl rfl
  ·intro ρz wz hz hk hd
   exact sk_skip rfl rfl ((hk 83 rfl).trans rfl) rfl rfl
  ·intro ρz wz hz hk hd
   exact sk_skip rfl rfl ((hk 83 rfl).trans rfl) rfl rfl
  intro ρz wz hz hk hd
  exact sk_skip rfl rfl ((hk 83 rfl).trans rfl) rfl rfl
 intro ρ221 w222 q223 hk hd
 have e7 := (hk 7 rfl).trans e7
 have e83 := (hk 83 rfl).trans rfl
 have e86 := hd 29 rfl rfl 86 rfl
 have e91 := hd 34 rfl rfl 91 rfl
 have b31 := b31.gr q223
 have o44 := o44.gr q223
 have o48 := o48.gr q223
 have fB := fB.gr q223
 refine rd_seq (m := 35) (n := 44) rfl ?_
 refine ol_gskip rfl rfl rfl rfl e83 rfl ?_
 refine ol_val (v := .bool false) (xr_pickF rfl e83 rfl rfl) rfl rfl rfl ?_
 refine ol_val (v := .bool false) (xr_move rfl rfl) rfl rfl rfl ?_
 refine ol_gskip rfl rfl rfl rfl rfl rfl ?_
 refine ol_gskip rfl rfl rfl rfl rfl rfl ?_
 refine ol_gskip rfl rfl rfl rfl rfl rfl ?_
 refine ol_gskip rfl rfl rfl rfl rfl rfl ?_
 refine ol_val (v := .bool false) (xr_pickF rfl rfl rfl rfl) rfl rfl rfl ?_
 refine ol_val (v := .bool false) (xr_assign rfl rfl) rfl rfl rfl ?_
 refine ol_nilK ?_
 refine rd_end rfl ?_
 refine cw_ret ?_
 repeat (first | with_reducible refine thn_r ?_ | with_reducible refine blk_r ?_)
 obtain rfl := Option.some.inj h
 refine fin_ret1 Try.results20 rfl ?_
 exact ⟨_, rfl, rfl, fB⟩
end Go.Proofs.Ytklhbaghbmndeaa
namespace Go.Xw
open Go
variable {P : Program} {w : World}
def Opn {α : Type} (P : Program) (w : World) (T : TypeId) (K : Kd α) (ok : α → Prop) : Prop :=
  ∀ {H : Type} (enc : TypeId × Value → H) (base : Nat) (sp : Nat → Bool) (held : Bool) (fuel : Nat) (cs : List Value) (x : DataW H × List MemPlace), DataW.trod enc P w base sp held fuel T cs = some x → ∃ a : α, cs = K.enc a ∧ ok a
theorem opn_int {T : TypeId} {k : IntKind} (ht : P.underlying T = some (.int k)) : Opn P w T (kI k) (fun n => (Lit.int k n).wf = true) := by
  intro H enc base sp held fuel cs x h
  obtain ⟨n, rfl, _, hw⟩ := DataW.trod_int ht h
  exact ⟨n, rfl, hw⟩
theorem ms_len {α β : Type} {f : α → Option β} : ∀ {l : List α} {ys : List β}, l.mapM f = some ys → ys.length = l.length
  | [], ys, h => by simp at h; subst h; rfl
  | a :: l, ys, h => by
    rw [List.mapM_cons] at h
    obtain ⟨b, _, h⟩ := Option.bind_eq_some_iff.1 h
    obtain ⟨bs, hb, h⟩ := Option.bind_eq_some_iff.1 h
    simp at h
    subst h
    simp [ms_len hb]
theorem ms_get {α β : Type} {f : α → Option β} : ∀ {l : List α} {ys : List β}, l.mapM f = some ys → ∀ (i : Nat) (a : α), l[i]? = some a → ∃ y, ys[i]? = some y ∧ f a = some y
  | [], ys, h, i, a, ha => by simp at ha
  | b :: l, ys, h, i, a, ha => by
    rw [List.mapM_cons] at h
    obtain ⟨c, hc, h⟩ := Option.bind_eq_some_iff.1 h
    obtain ⟨bs, hb, h⟩ := Option.bind_eq_some_iff.1 h
    simp at h
    subst h
    cases i with
    | zero =>
      simp at ha
      subst ha
      exact ⟨c, rfl, hc⟩
    | succ i =>
      simp at ha
      obtain ⟨y, h1, h2⟩ := ms_get hb i a ha
      exact ⟨y, by simpa using h1, h2⟩
theorem fld_cons {cs : List Value} {o n : Nat} {c r : List Value} (h : (cs.drop o).take n = c) (hr : cs.drop (o + n) = r) : cs.drop o = c ++ r := by
  rw [← h, ← hr, ← List.drop_drop, List.take_append_drop]
theorem trod_st {H : Type} {enc : TypeId × Value → H} {base : Nat} {sp : Nat → Bool} {held : Bool} {fuel : Nat} {T : TypeId} {fs : Array Field} {cs : List Value} {x : DataW H × List MemPlace} (ht : P.underlying T = some (.struct fs)) (h : DataW.trod enc P w base sp held fuel T cs = some x) :
    cs.length = P.cellsOf T ∧ ∃ m, ∀ (i : Nat) (f : Field), fs[i]? = some f → ∃ y, DataW.trod enc P w base sp held m f.type ((cs.drop f.offset).take (P.cellsOf f.type)) = some y := by
  obtain ⟨xs, m, _, _, hl, hn, hf⟩ := DataW.trod_struct ht h
  refine ⟨hl, m, fun i f hi => ?_⟩
  have hx : i < xs.length := by rw [hn]; exact (Array.getElem?_eq_some_iff.1 hi).1
  exact ⟨xs[i], by rw [hf i f hi, List.getElem?_eq_getElem hx]⟩
def OpnS {α : Type} (P : Program) (w : World) (T : TypeId) (K : Kd α) (ok : α → Prop) : Prop :=
  ∀ {H : Type} (enc : TypeId × Value → H) (base : Nat) (sp : Nat → Bool) (held : Bool) (fuel : Nat) (cs : List Value) (x : DataW H × List MemPlace), DataW.trod enc P w base sp held fuel T cs = some x → ∃ (l : List α) (V : Value), cs = [V] ∧ Rd K w V l ∧ (∀ a ∈ l, ok a) ∧ l.length ≤ maxLen ∧ (sb V < w.heap.size ∨ l = [])
theorem cells_get {base : Nat} {a : Addr} {n : Nat} {cs : List Value} (h : w.cells? base a n = some cs) : cs.length = n ∧ ∀ j, j < n → w.cell? (a.add j) = cs[j]? := by
  unfold World.cells? at h
  split at h
  · refine ⟨by simpa using ms_len h, fun j hj => ?_⟩
    obtain ⟨y, h1, h2⟩ := ms_get h j j (by simp [hj])
    rw [h1, h2]
  · cases h
theorem opn_slice {α : Type} {K : Kd α} {ok : α → Prop} {T e : TypeId} (ht : P.underlying T = some (.slice e)) (he : P.cellsOf e = K.size) (hk : 0 < K.size) (ho : Opn P w e K ok) : OpnS P w T K ok := by
  intro H enc base sp held fuel cs x h
  rcases DataW.trod_slice ht h with ⟨rfl, _⟩ | ⟨a, len, cap, elems, rest, n, rfl, rfl, _, _, hl, hm, hlen, hel, _, _⟩
  · exact ⟨[], _, rfl, Rd.nil K w, by simp, by simp, .inr rfl⟩
  · have hex : ∀ i, i < len → ∃ b, (∀ j z, (K.enc b)[j]? = some z → w.cell? (a.add (i * K.size + j)) = some z) ∧ ok b := by
      intro i hi
      have h1 := hel i hi
      rw [List.getElem?_eq_getElem (by omega)] at h1
      obtain ⟨cs, h2, h3⟩ := Option.bind_eq_some_iff.1 h1
      obtain ⟨b, rfl, hb⟩ := ho enc base sp held n cs _ h3
      obtain ⟨h4, h5⟩ := cells_get h2
      rw [he] at h4 h5
      refine ⟨b, fun j z hz => ?_, hb⟩
      have hj : j < K.size := by rw [← h4]; exact (List.getElem?_eq_some_iff.1 hz).1
      have := h5 j hj
      rw [hz] at this
      rw [← this]
      congr 1
      unfold Addr.add
      by_cases hi0 : i * K.size = 0
      · by_cases hj0 : j = 0
        · simp [hi0, hj0]
        · simp [hi0, hj0]
      · by_cases hj0 : j = 0
        · simp [hi0, hj0]
        · have : i * K.size + j ≠ 0 := by omega
          simp [hi0, hj0, this, Nat.add_assoc]
    have hlist : ∀ m, m ≤ len → ∃ l : List α, l.length = m ∧ (∀ b ∈ l, ok b) ∧ ∀ j z, (l.flatMap K.enc)[j]? = some z → w.cell? (a.add j) = some z := by
      intro m
      induction m with
      | zero => intro _; exact ⟨[], rfl, by simp, by simp⟩
      | succ m ih =>
        intro hm
        obtain ⟨l, h1, h2, h3⟩ := ih (by omega)
        obtain ⟨b, h4, h5⟩ := hex m (by omega)
        refine ⟨l ++ [b], by simp [h1], ?_, ?_⟩
        · intro c hc
          rcases List.mem_append.1 hc with hc | hc
          · exact h2 c hc
          · obtain rfl := List.mem_singleton.1 hc
            exact h5
        · intro j z hz
          have hL : (l.flatMap K.enc).length = m * K.size := by rw [len_flat, h1]
          simp only [List.flatMap_append, List.flatMap_cons, List.flatMap_nil, List.append_nil] at hz
          by_cases hj : j < m * K.size
          · rw [List.getElem?_append_left (by omega)] at hz
            exact h3 j z hz
          · rw [List.getElem?_append_right (by omega), hL] at hz
            have := h4 (j - m * K.size) z hz
            rwa [show m * K.size + (j - m * K.size) = j from by omega] at this
    obtain ⟨l, h1, h2, h3⟩ := hlist len (Nat.le_refl _)
    have hpos : 0 < l.length → ∃ z, w.cell? a = some z := by
      intro hp
      cases l with
      | nil => simp at hp
      | cons b l =>
        have hb : (K.enc b).length = K.size := K.len b
        have : ∃ z, ((b :: l).flatMap K.enc)[0]? = some z := ⟨_, List.getElem?_eq_getElem (by simp [List.flatMap_cons, hb]; omega)⟩
        obtain ⟨z, hz⟩ := this
        have := h3 0 z hz
        exact ⟨z, by simpa [Addr.add] using this⟩
    refine ⟨l, _, rfl, ⟨some a, cap, by rw [h1], by omega, fun hp => ?_⟩, h2, by omega, ?_⟩
    · obtain ⟨z, hz⟩ := hpos hp
      obtain ⟨b, o, s⟩ := a
      have hs : s = none := by
        unfold World.cell? at hz
        split at hz
        · cases s with
          | none => rfl
          | some _ => simp at hz
        · cases hz
      subst hs
      refine ⟨b, o, rfl, fun j v hv => ?_⟩
      have := h3 j v hv
      rwa [Addr.add_lit] at this
    · rcases Nat.eq_zero_or_pos l.length with h0 | hp
      · exact .inr (List.eq_nil_of_length_eq_zero h0)
      · obtain ⟨z, hz⟩ := hpos hp
        refine .inl ?_
        unfold World.cell? at hz
        split at hz
        · rename_i hh
          exact (Array.getElem?_eq_some_iff.1 hh).1
        · cases hz
theorem agg_of {T : TypeId} {v : Value} {cs : List Value} {base : Nat} (h : aggB P T = some true) (hv : Value.okWide P w .any base T v) (hc : v.cells.toList = cs) : v = .agg cs.toArray := by
  unfold aggB at h
  obtain ⟨d, hu, hd⟩ := Option.map_eq_some_iff.1 h
  unfold Value.okWide at hv
  rw [hu] at hv
  cases d <;> simp at hd <;> (obtain ⟨c2, rfl, _⟩ := hv; subst hc; simp [Value.cells])
end Go.Xw
namespace Go.Proofs.Ytklhbaghbmndeaa
open Go Go.Xw
def ok_api_Geometry (a : S_api_Geometry) : Prop := (Lit.int .i64 a.Blocks).wf = true ∧ (Lit.int .i64 a.Slots).wf = true ∧ (Lit.int .i64 a.Gens).wf = true
theorem opn_api_Geometry {w : World} : Opn Try.prog w 106 k_api_Geometry ok_api_Geometry := by
  intro H enc base sp held fuel cs x h
  obtain ⟨hl, m, hf⟩ := trod_st Try.underlying106 h
  obtain ⟨y0, h0⟩ := hf 0 _ rfl
  have c0 : Try.prog.cellsOf 3 = 1 := by kernel_rfl
  obtain ⟨b0, e0, o0⟩ := (opn_int Try.underlying3) enc base sp held m _ y0 h0
  have e0 : (cs.drop 0).take 1 = (kI .i64).enc b0 := (congrArg (fun n => (cs.drop 0).take n) c0).symm.trans e0
  obtain ⟨y1, h1⟩ := hf 1 _ rfl
  have c1 : Try.prog.cellsOf 3 = 1 := by kernel_rfl
  obtain ⟨b1, e1, o1⟩ := (opn_int Try.underlying3) enc base sp held m _ y1 h1
  have e1 : (cs.drop 1).take 1 = (kI .i64).enc b1 := (congrArg (fun n => (cs.drop 1).take n) c1).symm.trans e1
  obtain ⟨y2, h2⟩ := hf 2 _ rfl
  have c2 : Try.prog.cellsOf 3 = 1 := by kernel_rfl
  obtain ⟨b2, e2, o2⟩ := (opn_int Try.underlying3) enc base sp held m _ y2 h2
  have e2 : (cs.drop 2).take 1 = (kI .i64).enc b2 := (congrArg (fun n => (cs.drop 2).take n) c2).symm.trans e2
  have hn : cs.drop 3 = [] := List.drop_eq_nil_of_le (by rw [hl]; exact Nat.le_of_eq (by kernel_rfl))
  have hc : cs = (kI .i64).enc b0 ++ ((kI .i64).enc b1 ++ ((kI .i64).enc b2 ++ [])) := (fld_cons (o := 0) (n := 1) e0 (fld_cons (o := 1) (n := 1) e1 (fld_cons (o := 2) (n := 1) e2 hn)))
  refine ⟨⟨b0, b1, b2⟩, ?_, o0, o1, o2⟩
  rw [hc]
  simp [kA, kI, kB, kS, kT, cellsOf, Seg.cell, Kd.seg, k_api_Geometry, k_api_Tickets, segs_api_Geometry, segs_api_Tickets]
def ok_api_Tickets (a : S_api_Tickets) : Prop := ok_api_Geometry a.Geometry ∧ (Lit.int .i64 a.Top).wf = true ∧ (Lit.int .i64 a.High).wf = true ∧ (Lit.int .i64 a.Free).wf = true
theorem opn_api_Tickets {w : World} : Opn Try.prog w 108 k_api_Tickets ok_api_Tickets := by
  intro H enc base sp held fuel cs x h
  obtain ⟨hl, m, hf⟩ := trod_st Try.underlying108 h
  obtain ⟨y0, h0⟩ := hf 0 _ rfl
  have c0 : Try.prog.cellsOf 106 = 3 := by kernel_rfl
  obtain ⟨b0, e0, o0⟩ := (opn_api_Geometry (w := w)) enc base sp held m _ y0 h0
  have e0 : (cs.drop 0).take 3 = k_api_Geometry.enc b0 := (congrArg (fun n => (cs.drop 0).take n) c0).symm.trans e0
  obtain ⟨y1, h1⟩ := hf 1 _ rfl
  have c1 : Try.prog.cellsOf 3 = 1 := by kernel_rfl
  obtain ⟨b1, e1, o1⟩ := (opn_int Try.underlying3) enc base sp held m _ y1 h1
  have e1 : (cs.drop 3).take 1 = (kI .i64).enc b1 := (congrArg (fun n => (cs.drop 3).take n) c1).symm.trans e1
  obtain ⟨y2, h2⟩ := hf 2 _ rfl
  have c2 : Try.prog.cellsOf 3 = 1 := by kernel_rfl
  obtain ⟨b2, e2, o2⟩ := (opn_int Try.underlying3) enc base sp held m _ y2 h2
  have e2 : (cs.drop 4).take 1 = (kI .i64).enc b2 := (congrArg (fun n => (cs.drop 4).take n) c2).symm.trans e2
  obtain ⟨y3, h3⟩ := hf 3 _ rfl
  have c3 : Try.prog.cellsOf 3 = 1 := by kernel_rfl
  obtain ⟨b3, e3, o3⟩ := (opn_int Try.underlying3) enc base sp held m _ y3 h3
  have e3 : (cs.drop 5).take 1 = (kI .i64).enc b3 := (congrArg (fun n => (cs.drop 5).take n) c3).symm.trans e3
  have hn : cs.drop 6 = [] := List.drop_eq_nil_of_le (by rw [hl]; exact Nat.le_of_eq (by kernel_rfl))
  have hc : cs = k_api_Geometry.enc b0 ++ ((kI .i64).enc b1 ++ ((kI .i64).enc b2 ++ ((kI .i64).enc b3 ++ []))) := (fld_cons (o := 0) (n := 3) e0 (fld_cons (o := 3) (n := 1) e1 (fld_cons (o := 4) (n := 1) e2 (fld_cons (o := 5) (n := 1) e3 hn))))
  refine ⟨⟨b0, b1, b2, b3⟩, ?_, o0, o1, o2, o3⟩
  rw [hc]
  simp [kA, kI, kB, kS, kT, cellsOf, Seg.cell, Kd.seg, k_api_Geometry, k_api_Tickets, segs_api_Geometry, segs_api_Tickets]
def ok_api_Super (a : S_api_Super) : Prop := (Lit.int .i64 a.Epoch).wf = true ∧ ok_api_Tickets a.Tickets ∧ (Lit.int .i64 a.Dir).wf = true ∧ ((∀ x ∈ a.Charts, (Lit.int .i64 x).wf = true) ∧ List.length a.Charts ≤ maxLen)
theorem opn_api_Super {w : World} {H : Type} (enc : TypeId × Value → H) (base : Nat) (sp : Nat → Bool) (held : Bool) (fuel : Nat) (cs : List Value) (x : DataW H × List MemPlace) (h : DataW.trod enc Try.prog w base sp held fuel 110 cs = some x) : ∃ a : S_api_Super, ∃ V0 : Value, ∃ R0 : Rd (kI .i64) w V0 a.Charts, cs = cellsOf [Seg.cell (.int .i64 a.Epoch), Seg.cell (.int .i64 a.Tickets.Geometry.Blocks), Seg.cell (.int .i64 a.Tickets.Geometry.Slots), Seg.cell (.int .i64 a.Tickets.Geometry.Gens), Seg.cell (.int .i64 a.Tickets.Top), Seg.cell (.int .i64 a.Tickets.High), Seg.cell (.int .i64 a.Tickets.Free), Seg.cell (.int .i64 a.Dir), Seg.cell V0 R0.one] ∧ ok_api_Super a := by
  obtain ⟨hl, m, hf⟩ := trod_st Try.underlying110 h
  obtain ⟨y0, h0⟩ := hf 0 _ rfl
  have c0 : Try.prog.cellsOf 3 = 1 := by kernel_rfl
  obtain ⟨b0, e0, o0⟩ := (opn_int Try.underlying3) enc base sp held m _ y0 h0
  have e0 : (cs.drop 0).take 1 = (kI .i64).enc b0 := (congrArg (fun n => (cs.drop 0).take n) c0).symm.trans e0
  obtain ⟨y1, h1⟩ := hf 1 _ rfl
  have c1 : Try.prog.cellsOf 108 = 6 := by kernel_rfl
  obtain ⟨b1, e1, o1⟩ := (opn_api_Tickets (w := w)) enc base sp held m _ y1 h1
  have e1 : (cs.drop 1).take 6 = k_api_Tickets.enc b1 := (congrArg (fun n => (cs.drop 1).take n) c1).symm.trans e1
  obtain ⟨y2, h2⟩ := hf 2 _ rfl
  have c2 : Try.prog.cellsOf 3 = 1 := by kernel_rfl
  obtain ⟨b2, e2, o2⟩ := (opn_int Try.underlying3) enc base sp held m _ y2 h2
  have e2 : (cs.drop 7).take 1 = (kI .i64).enc b2 := (congrArg (fun n => (cs.drop 7).take n) c2).symm.trans e2
  obtain ⟨y3, h3⟩ := hf 3 _ rfl
  have c3 : Try.prog.cellsOf 25 = 1 := by kernel_rfl
  obtain ⟨b3, W3, e3, r3, o3, l3, _⟩ := (opn_slice (K := (kI .i64)) Try.underlying25 (by kernel_rfl) (by decide) (opn_int Try.underlying3)) enc base sp held m _ y3 h3
  have e3 : (cs.drop 8).take 1 = [W3] := (congrArg (fun n => (cs.drop 8).take n) c3).symm.trans e3
  have hn : cs.drop 9 = [] := List.drop_eq_nil_of_le (by rw [hl]; exact Nat.le_of_eq (by kernel_rfl))
  have hc : cs = (kI .i64).enc b0 ++ (k_api_Tickets.enc b1 ++ ((kI .i64).enc b2 ++ ([W3] ++ []))) := (fld_cons (o := 0) (n := 1) e0 (fld_cons (o := 1) (n := 6) e1 (fld_cons (o := 7) (n := 1) e2 (fld_cons (o := 8) (n := 1) e3 hn))))
  refine ⟨⟨b0, b1, b2, b3⟩, W3, r3, ?_, o0, o1, o2, ⟨o3, l3⟩⟩
  rw [hc]
  simp [kA, kI, kB, kS, kT, cellsOf, Seg.cell, Kd.seg, k_api_Geometry, k_api_Tickets, segs_api_Geometry, segs_api_Tickets]
end Go.Proofs.Ytklhbaghbmndeaa
namespace Go.Proofs.Ytklhbaghbmndeaa.Pure
open Go Go.Xw
def upd {α : Type} (g : Nat → α → α) (lo j : Nat) (cs : List α) : List α := cs.mapIdx fun i c => if lo ≤ i ∧ i < lo + j then g i c else c
theorem upd_len {α : Type} (g : Nat → α → α) (lo j : Nat) (cs : List α) : (upd g lo j cs).length = cs.length := by simp [upd]
theorem upd_zero {α : Type} (g : Nat → α → α) (lo : Nat) (cs : List α) : upd g lo 0 cs = cs := by
  apply List.ext_getElem (by simp [upd])
  intro i h1 h2
  simp only [upd, List.getElem_mapIdx]
  rw [if_neg (by omega)]
theorem upd_get {α : Type} (g : Nat → α → α) (lo j : Nat) (cs : List α) (i : Nat) (h : i < (upd g lo j cs).length) : (upd g lo j cs)[i] = if lo ≤ i ∧ i < lo + j then g i (cs[i]'(by simpa [upd] using h)) else cs[i]'(by simpa [upd] using h) := by
  simp only [upd, List.getElem_mapIdx]
theorem upd_next {α : Type} (g : Nat → α → α) (lo j : Nat) (cs : List α) (h : lo + j < cs.length) : (upd g lo j cs)[lo + j]'(by rw [upd_len]; exact h) = cs[lo + j] := by
  rw [upd_get, if_neg (by omega)]
theorem upd_set {α : Type} (g : Nat → α → α) (lo j : Nat) (cs : List α) (h : lo + j < cs.length) : (upd g lo j cs).set (lo + j) (g (lo + j) cs[lo + j]) = upd g lo (j + 1) cs := by
  apply List.ext_getElem (by simp [upd])
  intro i h1 h2
  rw [List.getElem_set, upd_get g lo (j + 1)]
  by_cases e : lo + j = i
  · subst e
    rw [if_pos rfl, if_pos (by omega)]
  · rw [if_neg e, upd_get]
    by_cases c : lo ≤ i ∧ i < lo + j
    · rw [if_pos c, if_pos (by omega)]
    · rw [if_neg c, if_neg (by omega)]
theorem upd_same {α : Type} (g : Nat → α → α) (lo j : Nat) (cs : List α) (h : lo + j < cs.length) (e : g (lo + j) cs[lo + j] = cs[lo + j]) : upd g lo j cs = upd g lo (j + 1) cs := by
  apply List.ext_getElem (by simp [upd])
  intro i h1 h2
  rw [upd_get g lo j, upd_get g lo (j + 1)]
  by_cases e' : lo + j = i
  · subst e'
    rw [if_neg (by omega), if_pos (by omega), e]
  · by_cases c : lo ≤ i ∧ i < lo + j
    · rw [if_pos c, if_pos (by omega)]
    · rw [if_neg c, if_neg (by omega)]
theorem upd_all {α : Type} (g : Nat → α → α) (cs : List α) : upd g 0 cs.length cs = cs.mapIdx g := by
  apply List.ext_getElem (by simp [upd])
  intro i h1 h2
  rw [upd_get, if_pos ⟨by omega, by rw [upd_len] at h1; omega⟩, List.getElem_mapIdx]
theorem getD_set {α : Type} (cs : List α) (i k : Nat) (v d : α) (hi : i < cs.length) : (cs.set i v).getD k d = if i = k then v else cs.getD k d := by
  simp only [List.getD_eq_getElem?_getD, List.getElem?_set]
  by_cases h : i = k
  · subst h
    simp [hi]
  · simp [h]
def I32 (x : BitVec 32) : Int := (x.toNat : Int)
theorem I32_lt (x : BitVec 32) : 0 ≤ I32 x ∧ I32 x ≤ 4294967295 := by
  unfold I32
  have := x.isLt
  omega
theorem ofI (x : BitVec 32) : BitVec.ofInt 32 (I32 x) = x := by
  unfold I32
  rw [BitVec.ofInt_natCast, BitVec.ofNat_toNat, BitVec.setWidth_eq]
theorem I32_of {n : Int} (h0 : 0 ≤ n) (h1 : n ≤ 4294967295) : n = I32 (BitVec.ofNat 32 n.toNat) := by
  unfold I32
  rw [BitVec.toNat_ofNat, Nat.mod_eq_of_lt (by omega)]
  omega
theorem wI32 (x : BitVec 32) : IntKind.u32.wrap (I32 x) = I32 x := wu32 (I32_lt x).1 (I32_lt x).2
theorem bx32 (x y : BitVec 32) : bXor .u32 (I32 x) (I32 y) = I32 (x ^^^ y) := by
  unfold bXor
  show IntKind.u32.wrap (((BitVec.ofInt 32 (I32 x) ^^^ BitVec.ofInt 32 (I32 y)).toNat : Nat) : Int) = _
  rw [ofI, ofI]
  exact wI32 _
theorem ba32 (x y : BitVec 32) : bAnd .u32 (I32 x) (I32 y) = I32 (x &&& y) := by
  unfold bAnd
  show IntKind.u32.wrap (((BitVec.ofInt 32 (I32 x) &&& BitVec.ofInt 32 (I32 y)).toNat : Nat) : Int) = _
  rw [ofI, ofI]
  exact wI32 _
theorem sr32 (x : BitVec 32) (n : Nat) (hn : n ≤ 32) : shR .u32 (I32 x) (n : Int) = I32 (x >>> n) := by
  unfold shR I32
  rw [BitVec.toNat_ushiftRight, Nat.shiftRight_eq_div_pow]
  show Int.fdiv (x.toNat : Int) (2 ^ min ((n : Int).toNat) 32) = _
  rw [Int.toNat_natCast, Nat.min_eq_left hn, Int.fdiv_eq_ediv_of_nonneg _ (Int.le_of_lt (Int.pow_pos (by decide)))]
  simp
def poly : BitVec 32 := 2197175160#32
def stp (x : BitVec 32) : BitVec 32 := (x >>> 1) ^^^ (if x.getLsbD 0 then poly else 0#32)
theorem lsb_and (x : BitVec 32) : (I32 (x &&& 1#32) = 1) ↔ x.getLsbD 0 = true := by
  unfold I32
  rw [BitVec.toNat_and]
  show ((x.toNat &&& 1 : Nat) : Int) = 1 ↔ x.toNat.testBit 0 = true
  rw [Nat.and_one_is_mod, Nat.testBit_zero]
  simp
  omega
theorem rstep_eq (fu : Nat) (x : BitVec 32) : rickyardref02_Step.f fu (I32 x) = some (I32 (stp x)) := by
  unfold rickyardref02_Step.f stp
  have hb := I32_lt x
  have e1 : Int.tmod (I32 x) 2 = I32 (x &&& 1#32) := by
    rw [Int.tmod_eq_emod_of_nonneg hb.1]
    unfold I32
    rw [BitVec.toNat_and]
    show ((x.toNat : Int)) % 2 = ((x.toNat &&& 1 : Nat) : Int)
    rw [Nat.and_one_is_mod]
    omega
  have e2 : Int.tdiv (I32 x) 2 = I32 (x >>> 1) := by
    rw [Int.tdiv_eq_ediv_of_nonneg hb.1]
    unfold I32
    rw [BitVec.toNat_ushiftRight, Nat.shiftRight_eq_div_pow]
    omega
  have e3 : bXor .u32 (I32 (x >>> 1)) 2197175160 = I32 (x >>> 1 ^^^ poly) := bx32 (x >>> 1) poly
  rw [e1, e2, wI32, e3]
  by_cases h : x.getLsbD 0 = true
  · rw [if_pos (by simpa using (lsb_and x).2 h), if_pos h]
  · rw [if_neg (by simpa using fun e => h ((lsb_and x).1 e)), if_neg h]
    simp
theorem xor4 (a b p q : BitVec 32) : (a ^^^ b) ^^^ (p ^^^ q) = (a ^^^ p) ^^^ (b ^^^ q) := by
  rw [BitVec.xor_assoc, ← BitVec.xor_assoc b, BitVec.xor_comm b p, BitVec.xor_assoc p, ← BitVec.xor_assoc]
theorem sel_xor (a b : Bool) (p : BitVec 32) : (if (a ^^ b) = true then p else 0#32) = (if a = true then p else 0#32) ^^^ (if b = true then p else 0#32) := by
  cases a <;> cases b <;> simp
theorem stp_xor (x y : BitVec 32) : stp (x ^^^ y) = stp x ^^^ stp y := by
  unfold stp
  rw [BitVec.ushiftRight_xor_distrib, BitVec.getLsbD_xor, sel_xor, xor4]
def stps : Nat → BitVec 32 → BitVec 32
  | 0, x => x
  | n + 1, x => stps n (stp x)
theorem stps_xor : ∀ (n : Nat) (x y : BitVec 32), stps n (x ^^^ y) = stps n x ^^^ stps n y
  | 0, x, y => rfl
  | n + 1, x, y => by
    unfold stps
    rw [stp_xor, stps_xor n]
theorem stps_add (m : Nat) : ∀ (n : Nat) (x : BitVec 32), stps (n + m) x = stps m (stps n x)
  | 0, x => by simp [stps]
  | n + 1, x => by
    rw [Nat.add_right_comm]
    show stps (n + m) (stp x) = stps m (stps n (stp x))
    exact stps_add m n (stp x)
theorem stps_succ (n : Nat) (x : BitVec 32) : stps (n + 1) x = stp (stps n x) := stps_add 1 n x
theorem stp_even {x : BitVec 32} (h : x.getLsbD 0 = false) : stp x = x >>> 1 := by
  unfold stp
  rw [h]
  simp
theorem stps_high (x : BitVec 32) : ∀ n, (∀ j, j < n → x.getLsbD j = false) → stps n x = x >>> n
  | 0, _ => by simp [stps]
  | n + 1, h => by
    rw [stps_succ, stps_high x n fun j hj => h j (by omega)]
    rw [stp_even (by rw [BitVec.getLsbD_ushiftRight]; exact h (n + 0) (by omega)), ← BitVec.shiftRight_add]
theorem low_bit (n j : Nat) (hj : j < n) (hn : n ≤ 32) : (BitVec.ofNat 32 (2 ^ n - 1)).getLsbD j = true := by
  rw [BitVec.getLsbD_ofNat, Nat.testBit_two_pow_sub_one]
  simp
  omega
theorem high_bit (n j : Nat) (hj : n ≤ j) : (BitVec.ofNat 32 (2 ^ n - 1)).getLsbD j = false := by
  rw [BitVec.getLsbD_ofNat, Nat.testBit_two_pow_sub_one]
  simp
  omega
theorem stps_split (n : Nat) (hn : n ≤ 32) (x : BitVec 32) : stps n x = (x >>> n) ^^^ stps n (x &&& BitVec.ofNat 32 (2 ^ n - 1)) := by
  have e : x = (x &&& ~~~ BitVec.ofNat 32 (2 ^ n - 1)) ^^^ (x &&& BitVec.ofNat 32 (2 ^ n - 1)) := by
    apply BitVec.eq_of_getLsbD_eq
    intro i hi
    rw [BitVec.getLsbD_xor, BitVec.getLsbD_and, BitVec.getLsbD_and, BitVec.getLsbD_not]
    cases x.getLsbD i <;> cases (BitVec.ofNat 32 (2 ^ n - 1)).getLsbD i <;> simp [hi]
  conv => lhs; rw [e]
  rw [stps_xor, stps_high]
  · congr 1
    apply BitVec.eq_of_getLsbD_eq
    intro i hi
    rw [BitVec.getLsbD_ushiftRight, BitVec.getLsbD_ushiftRight, BitVec.getLsbD_and, BitVec.getLsbD_not, high_bit n (n + i) (by omega)]
    by_cases h : n + i < 32
    · simp [h]
    · have : x.getLsbD (n + i) = false := BitVec.getLsbD_of_ge _ _ (by omega)
      simp [this]
  · intro j hj
    rw [BitVec.getLsbD_and, BitVec.getLsbD_not, low_bit n j hj hn]
    simp
def Bytes (l : List Int) : Prop := ∀ x ∈ l, 0 ≤ x ∧ x ≤ 255
def b32 (c : Int) : BitVec 32 := BitVec.ofNat 32 c.toNat
theorem b32_eq {c : Int} (h : 0 ≤ c ∧ c ≤ 255) : IntKind.u32.wrap c = I32 (b32 c) := by
  rw [wu32 h.1 (by omega)]
  exact I32_of h.1 (by omega)
def take8 (x : BitVec 32) (c : Int) : BitVec 32 := stps 8 (x ^^^ b32 c)
def regs (x : BitVec 32) (l : List Int) : BitVec 32 := l.foldl take8 x
def tabL : List Int := (List.range 16).map fun i => I32 (stps 4 (BitVec.ofNat 32 i))
def tabA : Arr 16 Int := ⟨tabL, rfl⟩
theorem table_at (n : Nat) : crc_Table.f (n + 20) = some tabA := by kernel_rfl
theorem table_eq {fu : Nat} (h : 20 ≤ fu) : crc_Table.f fu = some tabA := by
  obtain ⟨n, rfl⟩ : ∃ n, fu = n + 20 := ⟨fu - 20, by omega⟩
  exact table_at n
theorem tab_get : ∀ i : Fin 16, Arr.get tabA ((i : Nat) : Int) = I32 (stps 4 (BitVec.ofNat 32 (i : Nat))) := by decide +kernel
theorem nib (x : BitVec 32) : bXor .u32 (shR .u32 (I32 x) 4) (Arr.get tabA (bAnd .u32 (I32 x) 15)) = I32 (stps 4 x) := by
  have e1 : bAnd .u32 (I32 x) 15 = I32 (x &&& 15#32) := ba32 x 15#32
  have e2 : shR .u32 (I32 x) 4 = I32 (x >>> 4) := sr32 x 4 (by decide)
  have hlt : (x &&& 15#32).toNat < 16 := by
    rw [BitVec.toNat_and]
    exact Nat.lt_of_le_of_lt Nat.and_le_right (by decide)
  have e3 : Arr.get tabA (I32 (x &&& 15#32)) = I32 (stps 4 (x &&& 15#32)) := by
    have := tab_get ⟨(x &&& 15#32).toNat, hlt⟩
    simp only [BitVec.ofNat_toNat, BitVec.setWidth_eq] at this
    exact this
  rw [e1, e2, e3, bx32]
  exact congrArg I32 (stps_split 4 (by decide) x).symm
theorem nib_in (x : BitVec 32) : 0 ≤ bAnd .u32 (I32 x) 15 ∧ bAnd .u32 (I32 x) 15 < 16 := by
  have e1 : bAnd .u32 (I32 x) 15 = I32 (x &&& 15#32) := ba32 x 15#32
  have hlt : (x &&& 15#32).toNat < 16 := by
    rw [BitVec.toNat_and]
    exact Nat.lt_of_le_of_lt Nat.and_le_right (by decide)
  rw [e1]
  unfold I32
  omega
theorem ix_nat {α : Type} [Inhabited α] {l : List α} {j : Nat} (h : j < l.length) : ix l (j : Int) = l[j] := by
  simp [ix, List.getD_eq_getElem?_getD, List.getElem?_eq_getElem h]
theorem take_next {α : Type} {l : List α} {j : Nat} (h : j < l.length) : l.take (j + 1) = l.take j ++ [l[j]] := by
  rw [List.take_add_one, List.getElem?_eq_getElem h]
  rfl
theorem reg_eq {fu : Nat} {x : BitVec 32} {l : List Int} (hb : Bytes l) (hl : l.length ≤ 9000000000000000000) (hf : l.length < fu) : crc_register.f fu tabA (I32 x) l = some (I32 (regs x l)) := by
  unfold crc_register.f
  have : loopM (crc_register.s0 fu tabA l) fu (I32 x, 0) = some (I32 (regs x l)) := by
    refine loopM_run (S := fun j => (I32 (regs x (l.take j)), (j : Int))) l.length (by simp [regs]) ?_ ?_ hf
    · intro j hj
      unfold crc_register.s0
      have h1 : (j : Int) < (l.length : Int) := by omega
      have w3 : IntKind.i64.wrap ((j : Int) + 1) = ((j + 1 : Nat) : Int) := by rw [w64 (by omega) (by omega)]; omega
      have hc := hb _ (List.getElem_mem hj)
      have e1 : bXor .u32 (I32 (regs x (l.take j))) (IntKind.u32.wrap (ix l (j : Int))) = I32 (regs x (l.take j) ^^^ b32 l[j]) := by
        rw [ix_nat hj, b32_eq hc, bx32]
      have e2 : regs x (l.take (j + 1)) = stps 4 (stps 4 (regs x (l.take j) ^^^ b32 l[j])) := by
        rw [take_next hj]
        unfold regs
        rw [List.foldl_append]
        exact stps_add 4 4 _
      simp only [h1, decide_true, if_true, e1, nib, w3, e2]
      rw [if_pos ⟨by omega, trivial⟩, if_pos (nib_in _), if_pos (nib_in _)]
    · unfold crc_register.s0
      simp
  rw [this]
  rfl
def ones : BitVec 32 := 4294967295#32
def crc (l : List Int) : BitVec 32 := regs ones l ^^^ ones
theorem sum_eq {fu : Nat} {l : List Int} (hb : Bytes l) (hl : l.length ≤ 9000000000000000000) (hf : l.length + 20 < fu) : crc_Sum.f fu [l] = some (I32 (crc l)) := by
  unfold crc_Sum.f
  rw [table_eq (by omega)]
  have : loopM (crc_Sum.s0 fu [l] tabA) fu (4294967295, 0) = some (I32 (regs ones l)) := by
    refine loopM_run (S := fun j => (if j = 0 then I32 ones else I32 (regs ones l), (j : Int))) 1 rfl ?_ ?_ (by omega)
    · intro j hj
      obtain rfl : j = 0 := by omega
      unfold crc_Sum.s0
      have e0 : ix [l] ((0 : Nat) : Int) = l := rfl
      have w3 : IntKind.i64.wrap (((0 : Nat) : Int) + 1) = ((0 + 1 : Nat) : Int) := by decide
      simp only [e0, w3, if_true, reg_eq hb hl (by omega : l.length < fu)]
      simp
    · unfold crc_Sum.s0
      simp
  simp only [Option.bind_some]
  rw [this]
  simp only [Option.bind_some]
  exact congrArg some (bx32 _ ones)
theorem rsteps_eq {fu : Nat} {x : BitVec 32} (hf : 8 < fu) : rickyardref02_Steps.f fu (I32 x) 8 = some (I32 (stps 8 x)) := by
  unfold rickyardref02_Steps.f
  have : loopM (rickyardref02_Steps.s0 fu 8) fu (I32 x, 0) = some (I32 (stps 8 x)) := by
    refine loopM_run (S := fun j => (I32 (stps j x), (j : Int))) 8 rfl ?_ ?_ hf
    · intro j hj
      unfold rickyardref02_Steps.s0
      have h1 : (j : Int) < 8 := by omega
      have w3 : IntKind.i64.wrap ((j : Int) + 1) = ((j + 1 : Nat) : Int) := by rw [w64 (by omega) (by omega)]; omega
      simp only [h1, decide_true, if_true, rstep_eq, w3, stps_succ]
      rfl
    · unfold rickyardref02_Steps.s0
      simp
  rw [this]
  rfl
theorem rsum_eq {fu : Nat} {l : List Int} (hb : Bytes l) (hl : l.length ≤ 9000000000000000000) (hf : l.length + 20 < fu) : rickyardref02_Sum.f fu l = some (I32 (crc l)) := by
  unfold rickyardref02_Sum.f
  have : loopM (rickyardref02_Sum.s0 fu l) fu (4294967295, 0) = some (I32 (regs ones l)) := by
    refine loopM_run (S := fun j => (I32 (regs ones (l.take j)), (j : Int))) l.length (by simp [regs]; rfl) ?_ ?_ (by omega)
    · intro j hj
      unfold rickyardref02_Sum.s0
      have h1 : (j : Int) < (l.length : Int) := by omega
      have w3 : IntKind.i64.wrap ((j : Int) + 1) = ((j + 1 : Nat) : Int) := by rw [w64 (by omega) (by omega)]; omega
      have hc := hb _ (List.getElem_mem hj)
      have e1 : bXor .u32 (I32 (regs ones (l.take j))) (IntKind.u32.wrap (ix l (j : Int))) = I32 (regs ones (l.take j) ^^^ b32 l[j]) := by
        rw [ix_nat hj, b32_eq hc, bx32]
      have e2 : regs ones (l.take (j + 1)) = stps 8 (regs ones (l.take j) ^^^ b32 l[j]) := by
        rw [take_next hj]
        unfold regs
        rw [List.foldl_append]
        rfl
      simp only [h1, decide_true, if_true, e1, w3, e2, rsteps_eq (by omega : 8 < fu)]
      rw [if_pos ⟨by omega, trivial⟩]
      rfl
    · unfold rickyardref02_Sum.s0
      simp
  rw [this]
  have e : IntKind.u32.wrap (4294967295 - I32 (regs ones l)) = I32 (crc l) := by
    have hlt := (regs ones l).isLt
    have h2 : (crc l).toNat = 4294967295 - (regs ones l).toNat := by
      unfold crc
      have : regs ones l ^^^ ones = ~~~ (regs ones l) := by
        apply BitVec.eq_of_getLsbD_eq
        intro i hi
        have ho : ones.getLsbD i = true := by
          have := low_bit 32 i hi (by decide)
          exact this
        rw [BitVec.getLsbD_xor, BitVec.getLsbD_not, ho]
        simp [hi]
      rw [this, BitVec.toNat_not]
    unfold I32
    rw [h2, wu32 (by omega) (by omega)]
    omega
  simp only [Option.bind_some, e]
def lay (v n : Nat) : List Int := (List.range n).map fun i => ((v / 256 ^ i % 256 : Nat) : Int)
theorem lay_len (v n : Nat) : (lay v n).length = n := by simp [lay]
theorem lay_succ (v n : Nat) : lay v (n + 1) = lay v n ++ [((v / 256 ^ n % 256 : Nat) : Int)] := by
  simp [lay, List.range_succ]
theorem lay_bytes (v n : Nat) : Bytes (lay v n) := by
  intro x hx
  simp only [lay, List.mem_map] at hx
  obtain ⟨i, _, rfl⟩ := hx
  omega
theorem wu8_mod {n : Nat} : IntKind.u8.wrap (n : Int) = ((n % 256 : Nat) : Int) := by
  unfold IntKind.wrap
  simp only [IntKind.signed, IntKind.bits]
  simp
theorem shr64 (n : Nat) : shR .u64 (n : Int) 8 = ((n / 256 : Nat) : Int) := by
  unfold shR
  show Int.fdiv (n : Int) (2 ^ min ((8 : Int).toNat) 64) = _
  rw [show (2 : Int) ^ min ((8 : Int).toNat) 64 = 256 from by decide, Int.fdiv_eq_ediv_of_nonneg _ (by decide)]
  omega
theorem wn64 (q : Nat) (h : q < 18446744073709551616) : IntKind.u64.wrap (q : Int) = (q : Int) := wu64 (by omega) (by omega)
theorem tdn (q : Nat) : Int.tdiv (q : Int) 256 = ((q / 256 : Nat) : Int) := by
  rw [Int.tdiv_eq_ediv_of_nonneg (by omega)]
  omega
theorem tmn (q : Nat) : Int.tmod (q : Int) 256 = ((q % 256 : Nat) : Int) := by
  rw [Int.tmod_eq_emod_of_nonneg (by omega)]
  omega
theorem wn8 (q : Nat) : IntKind.u8.wrap ((q % 256 : Nat) : Int) = ((q % 256 : Nat) : Int) := wu8 (by omega) (by omega)
theorem olay_eq {fu v n : Nat} (hn : n ≤ 8) (hf : n < fu) : octet_Lay.f fu (v : Int) (n : Int) = some (lay v n) := by
  unfold octet_Lay.f
  have h0 : ¬ ((n : Int) < 0) := by omega
  have h8 : ¬ ((n : Int) > 8) := by omega
  have hL : Int.toNat (n : Int) ≤ LIM := by
    have : (8 : Nat) ≤ LIM := by decide
    omega
  simp only [h0, h8, decide_false, Bool.false_eq_true, if_false]
  rw [if_pos ⟨by omega, hL⟩]
  have : loopM (octet_Lay.s0 fu (n : Int)) fu ((v : Int), 0, List.replicate (Int.toNat (n : Int)) (0 : Int)) = some (lay v n) := by
    refine loopM_run (S := fun j => (((v / 256 ^ j : Nat) : Int), (j : Int), lay v j ++ List.replicate (n - j) (0 : Int))) n (by simp [lay]) ?_ ?_ hf
    · intro j hj
      unfold octet_Lay.s0
      have w3 : IntKind.i64.wrap ((j : Int) + 1) = ((j + 1 : Nat) : Int) := by rw [w64 (by omega) (by omega)]; omega
      have e1 : (List.replicate (Int.toNat (n : Int)) (0 : Int)).length = n := by simp
      have e2 : (lay v j ++ List.replicate (n - j) (0 : Int)).length = n := by rw [List.length_append, lay_len, List.length_replicate]; omega
      have e3 : List.set (lay v j ++ List.replicate (n - j) (0 : Int)) (Int.toNat (j : Int)) (IntKind.u8.wrap ((v / 256 ^ j : Nat) : Int)) = lay v (j + 1) ++ List.replicate (n - (j + 1)) (0 : Int) := by
        rw [Int.toNat_natCast, List.set_append, if_neg (by rw [lay_len]; omega), lay_len, Nat.sub_self, wu8_mod, lay_succ, show n - j = n - (j + 1) + 1 from by omega, List.replicate_succ]
        simp
      have e4 : shR .u64 ((v / 256 ^ j : Nat) : Int) 8 = ((v / 256 ^ (j + 1) : Nat) : Int) := by
        rw [shr64, Nat.div_div_eq_div_mul, Nat.pow_succ]
      have h1 : (j : Int) < (n : Int) := by omega
      simp only [e1, e2, e3, e4, w3, h1, decide_true, if_true]
      rw [if_pos ⟨by omega, trivial⟩]
    · unfold octet_Lay.s0
      simp
  rw [this]
  rfl
theorem roctet_eq {fu v i : Nat} (hv : v < 18446744073709551616) (hi : i ≤ 1000) (hf : i < fu) : rickyardref01_Octet.f fu (v : Int) (i : Int) = some ((v / 256 ^ i % 256 : Nat) : Int) := by
  unfold rickyardref01_Octet.f
  have : loopM (rickyardref01_Octet.s0 fu (i : Int)) fu ((v : Int), 0) = some ((v / 256 ^ i : Nat) : Int) := by
    refine loopM_run (S := fun j => (((v / 256 ^ j : Nat) : Int), (j : Int))) i (by simp) ?_ ?_ hf
    · intro j hj
      unfold rickyardref01_Octet.s0
      have w3 : IntKind.i64.wrap ((j : Int) + 1) = ((j + 1 : Nat) : Int) := by rw [w64 (by omega) (by omega)]; omega
      have h1 : (j : Int) < (i : Int) := by omega
      have hle : v / 256 ^ j ≤ v := Nat.div_le_self _ _
      have e1 : Int.tdiv ((v / 256 ^ j : Nat) : Int) 256 = ((v / 256 ^ (j + 1) : Nat) : Int) := by
        rw [tdn, Nat.pow_succ, ← Nat.div_div_eq_div_mul]
      have hle2 : v / 256 ^ (j + 1) ≤ v := Nat.div_le_self _ _
      have e2 : IntKind.u64.wrap ((v / 256 ^ (j + 1) : Nat) : Int) = ((v / 256 ^ (j + 1) : Nat) : Int) := wn64 _ (Nat.lt_of_le_of_lt hle2 hv)
      simp only [h1, decide_true, if_true, e1, e2, w3]
    · unfold rickyardref01_Octet.s0
      simp
  rw [this]
  simp only [Option.bind_some, tmn, wn8]
theorem rlay_eq {fu v n : Nat} (hv : v < 18446744073709551616) (hn : n ≤ 8) (hf : n < fu) : rickyardref01_Lay.f fu (v : Int) (n : Int) = some ((lay v n).map toB) := by
  unfold rickyardref01_Lay.f
  have : loopM (rickyardref01_Lay.s0 fu (v : Int) (n : Int)) fu ([], 0) = some ((lay v n).map toB) := by
    refine loopM_run (S := fun j => ((lay v j).map toB, (j : Int))) n (by simp [lay]) ?_ ?_ hf
    · intro j hj
      unfold rickyardref01_Lay.s0
      have w3 : IntKind.i64.wrap ((j : Int) + 1) = ((j + 1 : Nat) : Int) := by rw [w64 (by omega) (by omega)]; omega
      have h1 : (j : Int) < (n : Int) := by omega
      have hlim : ((lay v j).map toB).length + ([((v / 256 ^ j % 256 : Nat) : Int)].map toB).length ≤ LIM := by
        have : (9 : Nat) ≤ LIM := by decide
        simp only [List.length_map, lay_len, List.length_cons, List.length_nil]
        omega
      simp only [h1, decide_true, if_true, roctet_eq (fu := fu) hv (by omega : j ≤ 1000) (by omega), Option.bind_some, w3]
      rw [if_pos hlim, lay_succ, List.map_append]
    · unfold rickyardref01_Lay.s0
      simp
  rw [this]
  rfl
def num : List Int → Nat
  | [] => 0
  | c :: l => c.toNat + 256 * num l
theorem num_append : ∀ (a b : List Int), num (a ++ b) = num a + 256 ^ a.length * num b
  | [], b => by simp [num]
  | c :: a, b => by
    simp only [List.cons_append, num, num_append a b, List.length_cons, Nat.pow_succ]
    rw [Nat.mul_add, Nat.add_assoc, ← Nat.mul_assoc, Nat.mul_comm 256 (256 ^ a.length)]
theorem num_lt : ∀ {l : List Int}, Bytes l → num l < 256 ^ l.length
  | [], _ => by simp [num]
  | c :: l, h => by
    have h1 := h c (by simp)
    have h2 := num_lt (l := l) fun x hx => h x (by simp [hx])
    simp only [num, List.length_cons, Nat.pow_succ]
    omega
theorem or_add (a c j : Nat) (ha : a < 256 ^ j) : a ||| c * 256 ^ j = a + 256 ^ j * c := by
  have e : 256 ^ j = 2 ^ (8 * j) := by rw [Nat.pow_mul]
  rw [e] at ha ⊢
  rw [Nat.mul_comm c, Nat.or_comm, ← Nat.two_pow_add_eq_or_of_lt ha, Nat.add_comm]
theorem read_eq {fu : Nat} {l : List Int} (hb : Bytes l) (hl : l.length ≤ 8) (hf : l.length < fu) : octet_Read.f fu l = some ((num l : Nat) : Int) := by
  unfold octet_Read.f
  have hm : mnI (l.length : Int) 8 = (l.length : Int) := by
    unfold mnI
    split <;> omega
  have hc : cut l 0 (l.length : Int) = l := by
    unfold cut
    simp
  rw [hm, if_pos ⟨by omega, Int.le_refl _⟩]
  have : loopM (octet_Read.s0 fu l) fu (0, 0) = some ((num l : Nat) : Int) := by
    refine loopM_run (S := fun j => (((num (l.take j) : Nat) : Int), (j : Int))) l.length (by simp [num]) ?_ ?_ hf
    · intro j hj
      unfold octet_Read.s0
      rw [hm, hc]
      have h1 : (j : Int) < (l.length : Int) := by omega
      have w3 : IntKind.i64.wrap ((j : Int) + 1) = ((j + 1 : Nat) : Int) := by rw [w64 (by omega) (by omega)]; omega
      have w4 : IntKind.i64.wrap (8 * (j : Int)) = ((8 * j : Nat) : Int) := by rw [w64 (by omega) (by omega)]; omega
      have hcb := hb _ (List.getElem_mem hj)
      obtain ⟨c, hc'⟩ : ∃ c : Nat, l[j] = (c : Int) := ⟨l[j].toNat, by omega⟩
      have hlt : num (l.take j) < 256 ^ j := by
        have := num_lt (l := l.take j) fun x hx => hb x (List.mem_of_mem_take hx)
        rwa [List.length_take, Nat.min_eq_left (by omega)] at this
      have e256 : (256 : Nat) ^ j * 256 ≤ 256 ^ 8 := by
        rw [← Nat.pow_succ]
        exact Nat.pow_le_pow_right (by decide) (by omega)
      have e8 : (256 : Nat) ^ 8 = 18446744073709551616 := by decide
      have hcj : c * 256 ^ j < 18446744073709551616 := by
        have : c * 256 ^ j ≤ 255 * 256 ^ j := Nat.mul_le_mul_right _ (by omega)
        have : 0 < 256 ^ j := Nat.pow_pos (by decide)
        omega
      have e1 : shL .u64 (IntKind.u64.wrap (ix l (j : Int))) ((8 * j : Nat) : Int) = ((c * 256 ^ j : Nat) : Int) := by
        rw [ix_nat hj, hc', wu64 (by omega) (by omega)]
        unfold shL
        rw [Int.toNat_natCast, Nat.min_eq_left (by show 8 * j ≤ 64; omega)]
        have : (c : Int) * 2 ^ (8 * j) = ((c * 256 ^ j : Nat) : Int) := by
          have h256 : ((256 ^ j : Nat) : Int) = 2 ^ (8 * j) := by
            rw [Int.natCast_pow, Int.pow_mul]
            exact congrArg (fun z : Int => z ^ j) (by decide : ((256 : Nat) : Int) = 2 ^ 8)
          rw [Int.natCast_mul, h256]
        rw [this, wu64 (by omega) (by omega)]
      have e2 : bOr .u64 ((num (l.take j) : Nat) : Int) ((c * 256 ^ j : Nat) : Int) = ((num (l.take (j + 1)) : Nat) : Int) := by
        unfold bOr
        show IntKind.u64.wrap (((BitVec.ofInt 64 ((num (l.take j) : Nat) : Int) ||| BitVec.ofInt 64 ((c * 256 ^ j : Nat) : Int)).toNat : Nat) : Int) = _
        rw [BitVec.ofInt_natCast, BitVec.ofInt_natCast, BitVec.toNat_or, BitVec.toNat_ofNat, BitVec.toNat_ofNat, Nat.mod_eq_of_lt (by omega), Nat.mod_eq_of_lt (by omega), or_add _ _ _ hlt, take_next hj, num_append]
        have hs : num (l.take j) + 256 ^ j * c < 18446744073709551616 := by
          rw [Nat.mul_comm]
          have : c * 256 ^ j ≤ 255 * 256 ^ j := Nat.mul_le_mul_right _ (by omega)
          omega
        rw [wu64 (by omega) (by omega)]
        simp only [num, hc', Int.toNat_natCast, List.length_take, Nat.min_eq_left (by omega : j ≤ l.length), Nat.mul_zero, Nat.add_zero]
      simp only [h1, decide_true, if_true, w4, e1, e2, w3]
      rw [if_pos ⟨by omega, trivial⟩, if_pos (by omega)]
    · unfold octet_Read.s0
      rw [hm, hc]
      simp
  rw [this]
  rfl
end Go.Proofs.Ytklhbaghbmndeaa.Pure
namespace Go.Proofs.Ytklhbaghbmndeaa
open Go Go.Xw
end Go.Proofs.Ytklhbaghbmndeaa
namespace Go.Proofs.Ytklhbaghbmndeaa.Pure
open Go Go.Xw
abbrev Cell := S_pmem_cell
abbrev Dev := S_pmem_Device
def keepC (c : Cell) (w : Int) : Cell := ⟨w, c.stored, 0, false⟩
def openC (c : Cell) : Bool := c.flushed || !decide (c.stored = c.lasts)
def evict (p : Int) (cs : List Cell) : List Cell := cs.mapIdx fun i c => if 0 ≤ p ∧ (i : Int) = p % (cs.length : Int) then keepC c c.stored else c
def pick (p : S_pmem_plan) : Int := if p.list.length = 0 then -1 else ix p.list p.at_
def nextP (p : S_pmem_plan) : S_pmem_plan := if p.list.length = 0 then p else ⟨p.list, (p.at_ + 1) % (p.list.length : Int)⟩
def tick (d : Dev) : Dev := ⟨evict (pick d.plan) d.cells, nextP d.plan, if d.armed then decide (d.left - 1 = 0) else d.off, d.armed, if d.armed then d.left - 1 else d.left, d.steps + 1⟩
def mayI (off : Bool) (k n : Int) : Int := if off = true then 3 else if k < 0 ∨ k ≥ n then 2 else 0
def putC (k w : Int) (cs : List Cell) : List Cell := cs.mapIdx fun i c => if (i : Int) = k then ⟨c.lasts, w, c.sent, c.flushed⟩ else c
def sendC (c : Cell) : Cell := ⟨c.lasts, c.stored, c.stored, true⟩
def sendL (k : Int) (cs : List Cell) : List Cell := cs.mapIdx fun i c => if 8 * k ≤ (i : Int) ∧ (i : Int) < 8 * k + 8 then sendC c else c
def fenceC (c : Cell) : Cell := if c.flushed = true then keepC c c.sent else c
def withC (d : Dev) (cs : List Cell) : Dev := ⟨cs, d.plan, d.off, d.armed, d.left, d.steps⟩
def storeD (d : Dev) (k w : Int) : Int × Dev := if mayI d.off k (d.cells.length : Int) = 0 then (0, tick (withC d (putC k w d.cells))) else (mayI d.off k (d.cells.length : Int), d)
def flushD (d : Dev) (k : Int) : Int × Dev := if mayI d.off k ((d.cells.length / 8 : Nat) : Int) = 0 then (0, tick (withC d (sendL k d.cells))) else (mayI d.off k ((d.cells.length / 8 : Nat) : Int), d)
def fenceD (d : Dev) : Int × Dev := if d.off = true then (3, d) else (0, tick (withC d (d.cells.map fenceC)))
def U64 (x : Int) : Prop := 0 ≤ x ∧ x ≤ 18446744073709551615
def okC (c : Cell) : Prop := U64 c.lasts ∧ U64 c.stored ∧ U64 c.sent
structure DevOk (n : Nat) (B : Int) (d : Dev) : Prop where
  len : d.cells.length = n
  val : ∀ c ∈ d.cells, okC c
  at0 : d.plan.list.length ≠ 0 → 0 ≤ d.plan.at_ ∧ d.plan.at_ < (d.plan.list.length : Int)
  pl : d.plan.list.length ≤ 1000
  arm : d.armed = true → 0 ≤ d.left ∧ d.left ≤ 9223372036854775807 ∧ d.off = decide (d.left = 0)
  una : d.armed = false → d.off = false
  st : 0 ≤ d.steps ∧ d.steps ≤ B
theorem pnext_eq {fu : Nat} {p : S_pmem_plan} (h0 : p.list.length ≠ 0 → 0 ≤ p.at_ ∧ p.at_ < (p.list.length : Int)) (hl : p.list.length ≤ 1000) : pmem_plan_next__i0.f fu p = some (pick p, nextP p) := by
  unfold pmem_plan_next__i0.f pick nextP
  by_cases e : p.list.length = 0
  · have e' : (p.list.length : Int) = 0 := by omega
    rw [decide_eq_true e', if_pos rfl, if_pos e, if_pos e]
  · have e' : ¬ (p.list.length : Int) = 0 := by omega
    have h := h0 e
    rw [decide_eq_false e', if_neg (by decide), if_pos h, if_pos e', if_neg e, if_neg e, w64 (by omega) (by omega), Int.tmod_eq_emod_of_nonneg (by omega)]
theorem set_upd {cs : List Cell} {k : Nat} (g : Cell → Cell) (hk : k < cs.length) : cs.set k (g (ix cs (k : Int))) = cs.mapIdx fun i c => if i = k then g c else c := by
  rw [ix_nat hk]
  apply List.ext_getElem (by simp)
  intro i h1 h2
  rw [List.getElem_set, List.getElem_mapIdx]
  by_cases e : k = i
  · subst e
    simp
  · rw [if_neg e, if_neg (fun q => e q.symm)]
theorem evict_no {p : Int} (cs : List Cell) (h : ¬ 0 ≤ p) : evict p cs = cs := by
  apply List.ext_getElem (by simp [evict])
  intro i h1 h2
  simp only [evict, List.getElem_mapIdx]
  rw [if_neg fun q => h q.1]
theorem evict_nil {p : Int} : evict p [] = [] := by simp [evict]
theorem dstep_eq {fu n : Nat} {B : Int} {d : Dev} (h : DevOk n B d) (hB : B < 9223372036854775807) (ho : d.off = false) : pmem_Device_step.f fu d = some (tick d) := by
  unfold pmem_Device_step.f
  rw [pnext_eq h.at0 h.pl]
  have hs := h.st
  have w1 : IntKind.i64.wrap (d.steps + 1) = d.steps + 1 := w64 (by omega) (by omega)
  have hc : ∀ q, q = pick d.plan → ((if (if (decide (q ≥ 0)) = true then (decide ((List.length d.cells : Int) > 0)) else false) = true then (if (List.length d.cells : Int) ≠ 0 then (if 0 ≤ (Int.tmod q (List.length d.cells : Int)) ∧ (Int.tmod q (List.length d.cells : Int)) < (List.length d.cells : Int) then ((pmem_cell_keep__i0.f fu (ix d.cells (Int.tmod q (List.length d.cells : Int))) ((ix d.cells (Int.tmod q (List.length d.cells : Int))).stored) : Option S_pmem_cell).bind fun t35 => some ((List.set d.cells (Int.toNat (Int.tmod q (List.length d.cells : Int))) t35))) else none) else none) else some (d.cells)) : Option (List S_pmem_cell)) = some (evict q d.cells) := by
    intro q _
    by_cases hq : q ≥ 0
    · rw [decide_eq_true hq]
      by_cases hl : (List.length d.cells : Int) > 0
      · rw [decide_eq_true hl, Int.tmod_eq_emod_of_nonneg hq]
        have hm0 := Int.emod_nonneg q (show (List.length d.cells : Int) ≠ 0 by omega)
        have hm1 := Int.emod_lt_of_pos q hl
        have e1 : (List.length d.cells : Int) ≠ 0 := by omega
        simp only [if_true, e1, ne_eq, not_false_eq_true, hm0, hm1, and_self, pmem_cell_keep__i0.f, Option.bind_some]
        obtain ⟨k, hk⟩ : ∃ k : Nat, q % (List.length d.cells : Int) = (k : Int) := ⟨(q % (List.length d.cells : Int)).toNat, by omega⟩
        have hkl : k < d.cells.length := by omega
        rw [hk, Int.toNat_natCast]
        refine congrArg some ((set_upd (fun c => keepC c c.stored) hkl).trans ?_)
        apply List.ext_getElem (by simp [evict])
        intro i h1 h2
        simp only [evict, List.getElem_mapIdx, hk]
        by_cases e : i = k
        · rw [if_pos e, if_pos ⟨hq, by omega⟩]
        · rw [if_neg e, if_neg fun z => e (by omega)]
      · have : d.cells = [] := List.length_eq_zero_iff.1 (by omega)
        rw [this]
        simp [evict]
    · rw [evict_no _ hq, decide_eq_false hq]
      simp
  have hd : ∀ (r : List Cell), ((((if d.armed = true then some ((decide ((IntKind.i64.wrap (d.left - 1)) = 0)), (IntKind.i64.wrap (d.left - 1))) else some (d.off, d.left)) : Option (Bool × Int)).bind fun x45 => some ((⟨r, (⟨d.plan.list, (nextP d.plan).at_⟩ : S_pmem_plan), x45.1, d.armed, x45.2, (IntKind.i64.wrap (d.steps + 1))⟩ : S_pmem_Device))) : Option Dev) = some ⟨r, nextP d.plan, if d.armed then decide (d.left - 1 = 0) else d.off, d.armed, if d.armed then d.left - 1 else d.left, d.steps + 1⟩ := by
    intro r
    have hp : (⟨d.plan.list, (nextP d.plan).at_⟩ : S_pmem_plan) = nextP d.plan := by
      unfold nextP
      split <;> rfl
    rw [w1, hp]
    cases ha : d.armed
    · simp
    · have := h.arm ha
      rw [ho] at this
      have : d.left ≠ 0 := by
        intro e
        rw [e] at this
        exact absurd this.2.2 (by decide)
      rw [w64 (by omega) (by omega)]
      simp
  simp only [Option.bind_some]
  rw [hc _ rfl]
  exact hd _
theorem evict_len (p : Int) (cs : List Cell) : (evict p cs).length = cs.length := by simp [evict]
theorem keep_ok {c : Cell} {w : Int} (h : okC c) (hw : U64 w) : okC (keepC c w) := ⟨hw, h.2.1, by unfold U64; simp [keepC]⟩
theorem mapIdx_ok {cs : List Cell} {g : Nat → Cell → Cell} (h : ∀ c ∈ cs, okC c) (hg : ∀ i c, okC c → okC (g i c)) : ∀ c ∈ cs.mapIdx g, okC c := by
  intro c hc
  obtain ⟨i, hi, rfl⟩ := List.getElem_of_mem hc
  rw [List.getElem_mapIdx]
  exact hg _ _ (h _ (List.getElem_mem _))
theorem evict_ok {p : Int} {cs : List Cell} (h : ∀ c ∈ cs, okC c) : ∀ c ∈ evict p cs, okC c := by
  refine mapIdx_ok h fun i c hc => ?_
  split
  · exact keep_ok hc hc.2.1
  · exact hc
theorem tick_ok {n : Nat} {B : Int} {d : Dev} (h : DevOk n B d) (ho : d.off = false) : DevOk n (B + 1) (tick d) := by
  refine ⟨?_, ?_, ?_, ?_, ?_, ?_, ?_⟩
  · exact (evict_len _ _).trans h.len
  · exact evict_ok h.val
  · intro e
    by_cases z : d.plan.list.length = 0
    · exact absurd (by simp [tick, nextP, z]) e
    · have : (tick d).plan = ⟨d.plan.list, (d.plan.at_ + 1) % (d.plan.list.length : Int)⟩ := by simp [tick, nextP, z]
      rw [this]
      exact ⟨Int.emod_nonneg _ (by omega), Int.emod_lt_of_pos _ (by omega)⟩
  · by_cases z : d.plan.list.length = 0
    · simp [tick, nextP, z]
    · simp only [tick, nextP, z, if_false]
      exact h.pl
  · intro ha
    have ha' : d.armed = true := ha
    have := h.arm ha'
    have hl : d.left ≠ 0 := by
      intro e
      rw [e, ho] at this
      exact absurd this.2.2 (by decide)
    simp only [tick, ha', if_true]
    exact ⟨by omega, by omega, trivial⟩
  · intro ha
    have ha' : d.armed = false := ha
    simp only [tick, ha', Bool.false_eq_true, if_false]
    exact h.una ha'
  · have := h.st
    simp only [tick]
    omega
theorem DevOk.up {n : Nat} {B C : Int} {d : Dev} (h : DevOk n B d) (hc : B ≤ C) : DevOk n C d := ⟨h.len, h.val, h.at0, h.pl, h.arm, h.una, ⟨h.st.1, by have := h.st; omega⟩⟩
theorem with_ok {n : Nat} {B : Int} {d : Dev} (h : DevOk n B d) {cs : List Cell} (hl : cs.length = n) (hv : ∀ c ∈ cs, okC c) : DevOk n B (withC d cs) := ⟨hl, hv, h.at0, h.pl, h.arm, h.una, h.st⟩
theorem may_eq {fu : Nat} {d : Dev} {k m : Int} : pmem_Device_may.f fu d k m = some (mayI d.off k m) := by
  unfold pmem_Device_may.f mayI
  cases d.off
  · simp only [Bool.false_eq_true, if_false]
    by_cases h1 : k < 0
    · simp [h1]
    · by_cases h2 : k ≥ m <;> simp [h1, h2]
  · simp
theorem may_zero {b : Bool} {k m : Int} : mayI b k m = 0 ↔ b = false ∧ 0 ≤ k ∧ k < m := by
  unfold mayI
  cases b
  · simp only [Bool.false_eq_true, if_false]
    split <;> simp <;> omega
  · simp
theorem ix_set {α : Type} [Inhabited α] {l : List α} {k : Nat} {v : α} (h : k < l.length) : ix (l.set k v) (k : Int) = v := by
  rw [ix_nat (by simpa using h)]
  simp
theorem store_eq {fu n : Nat} {B k w : Int} {d : Dev} (h : DevOk n B d) (hB : B < 9223372036854775807) (hw : U64 w) : pmem_Device_Store.f fu d k w = some (storeD d k w) := by
  unfold pmem_Device_Store.f storeD
  rw [may_eq]
  simp only [Option.bind_some]
  by_cases e : mayI d.off k (d.cells.length : Int) = 0
  · obtain ⟨ho, h0, h1⟩ := may_zero.1 e
    rw [decide_eq_true e, if_pos e, if_neg (by decide), if_pos ⟨h0, h1⟩]
    obtain ⟨j, rfl⟩ : ∃ j : Nat, k = (j : Int) := ⟨k.toNat, by omega⟩
    have e1 : List.set d.cells (Int.toNat (j : Int)) (⟨(ix d.cells (j : Int)).lasts, w, (ix d.cells (j : Int)).sent, (ix d.cells (j : Int)).flushed⟩ : S_pmem_cell) = putC (j : Int) w d.cells := by
      rw [Int.toNat_natCast]
      refine (set_upd (fun c => ⟨c.lasts, w, c.sent, c.flushed⟩) (by omega)).trans ?_
      apply List.ext_getElem (by simp [putC])
      intro i h1 h2
      simp only [putC, List.getElem_mapIdx, Int.natCast_inj]
    have e2 : pmem_Device_step.f fu (⟨putC (j : Int) w d.cells, d.plan, d.off, d.armed, d.left, d.steps⟩ : S_pmem_Device) = some (tick (withC d (putC (j : Int) w d.cells))) := by
      refine dstep_eq (with_ok h (by simp [putC, h.len]) (mapIdx_ok h.val fun i c hc => ?_)) hB ho
      split
      · exact ⟨hc.1, hw, hc.2.2⟩
      · exact hc
    rw [e1, e2]
    rfl
  · rw [decide_eq_false e, if_neg e, if_pos (by decide)]
theorem lines_eq {fu : Nat} {d : Dev} (h : d.cells.length ≤ 1000000) : pmem_Device_Lines.f fu d = some ((d.cells.length / 8 : Nat) : Int) := by
  unfold pmem_Device_Lines.f
  rw [Int.tdiv_eq_ediv_of_nonneg (by omega), w64 (by omega) (by omega)]
  congr 1
theorem send_loop {fu : Nat} {cs : List Cell} {k : Nat} (h : 8 * k + 8 ≤ cs.length) (hl : cs.length ≤ 1000000) (hf : 8 < fu) : loopM (pmem_Device_Flush.s0 fu (k : Int)) fu (0, cs) = some (sendL (k : Int) cs) := by
  refine loopM_run (S := fun j => ((j : Int), upd (fun _ c => sendC c) (8 * k) j cs)) 8 (by rw [upd_zero]; rfl) ?_ ?_ hf
  · intro j hj
    unfold pmem_Device_Flush.s0
    have w1 : IntKind.i64.wrap ((k : Int) * 8) = ((8 * k : Nat) : Int) := by rw [w64 (by omega) (by omega)]; omega
    have w2 : IntKind.i64.wrap (((8 * k : Nat) : Int) + (j : Int)) = ((8 * k + j : Nat) : Int) := by rw [w64 (by omega) (by omega)]; omega
    have w3 : IntKind.i64.wrap ((j : Int) + 1) = ((j + 1 : Nat) : Int) := by rw [w64 (by omega) (by omega)]; omega
    have hlt : 8 * k + j < (upd (fun _ c => sendC c) (8 * k) j cs).length := by rw [upd_len]; omega
    have c1 : 0 ≤ ((8 * k + j : Nat) : Int) ∧ ((8 * k + j : Nat) : Int) < ((upd (fun _ c => sendC c) (8 * k) j cs).length : Int) := by omega
    have c2 : (j : Int) < 8 := by omega
    simp only [w1, w2, w3]
    rw [decide_eq_true c2, if_pos rfl, if_pos c1, Int.toNat_natCast, ix_set hlt, List.set_set, ix_nat hlt, upd_next _ _ _ _ (by omega)]
    refine congrArg (fun z => some (Sum.inr (((j + 1 : Nat) : Int), z))) ?_
    exact upd_set (fun _ c => sendC c) (8 * k) j cs (by omega)
  · unfold pmem_Device_Flush.s0
    rw [decide_eq_false (show ¬ (((8 : Nat) : Int) < 8) by decide), if_neg (by decide)]
    refine congrArg (fun z => some (Sum.inl z)) ?_
    apply List.ext_getElem (by simp [upd, sendL])
    intro i h1 h2
    simp only [upd, sendL, List.getElem_mapIdx]
    by_cases c : 8 * k ≤ i ∧ i < 8 * k + 8
    · rw [if_pos c, if_pos (by omega)]
    · rw [if_neg c, if_neg (by omega)]
theorem sendL_ok {cs : List Cell} {k : Int} (h : ∀ c ∈ cs, okC c) : ∀ c ∈ sendL k cs, okC c := by
  refine mapIdx_ok h fun i c hc => ?_
  split
  · exact ⟨hc.1, hc.2.1, hc.2.1⟩
  · exact hc
theorem flush_eq {fu n : Nat} {B k : Int} {d : Dev} (h : DevOk n B d) (hB : B < 9223372036854775807) (hn : n ≤ 1000000) (hf : 8 < fu) : pmem_Device_Flush.f fu d k = some (flushD d k) := by
  unfold pmem_Device_Flush.f flushD
  have hl : d.cells.length ≤ 1000000 := by rw [h.len]; exact hn
  rw [lines_eq hl]
  simp only [Option.bind_some]
  rw [may_eq]
  simp only [Option.bind_some]
  by_cases e : mayI d.off k ((d.cells.length / 8 : Nat) : Int) = 0
  · obtain ⟨ho, h0, h1⟩ := may_zero.1 e
    rw [decide_eq_true e, if_pos e, if_neg (by decide)]
    obtain ⟨j, rfl⟩ : ∃ j : Nat, k = (j : Int) := ⟨k.toNat, by omega⟩
    rw [send_loop (by omega) hl hf]
    have e2 : pmem_Device_step.f fu (⟨sendL (j : Int) d.cells, d.plan, d.off, d.armed, d.left, d.steps⟩ : S_pmem_Device) = some (tick (withC d (sendL (j : Int) d.cells))) :=
      dstep_eq (with_ok h (by simp [sendL, h.len]) (sendL_ok h.val)) hB ho
    simp only [Option.bind_some]
    rw [e2]
    rfl
  · rw [decide_eq_false e, if_neg e, if_pos (by decide)]
theorem fence_loop {fu : Nat} {d : Dev} (hl : d.cells.length ≤ 1000000) (hf : d.cells.length < fu) : loopM (pmem_Device_Fence.s0 fu d) fu (0, d.cells) = some (d.cells.map fenceC) := by
  refine loopM_run (S := fun j => ((j : Int), upd (fun _ c => fenceC c) 0 j d.cells)) d.cells.length (by rw [upd_zero]; rfl) ?_ ?_ hf
  · intro j hj
    unfold pmem_Device_Fence.s0
    have w3 : IntKind.i64.wrap ((j : Int) + 1) = ((j + 1 : Nat) : Int) := by rw [w64 (by omega) (by omega)]; omega
    have hlt : j < (upd (fun _ c => fenceC c) 0 j d.cells).length := by rw [upd_len]; omega
    have hnx : (upd (fun _ c => fenceC c) 0 j d.cells)[j] = d.cells[j] := by
      rw [upd_get, if_neg (by omega)]
    have c1 : 0 ≤ (j : Int) ∧ (j : Int) < ((upd (fun _ c => fenceC c) 0 j d.cells).length : Int) := by omega
    have c2 : (j : Int) < (d.cells.length : Int) := by omega
    simp only [w3]
    rw [decide_eq_true c2, if_pos rfl, if_pos c1, Int.toNat_natCast, ix_nat hlt, hnx]
    have hs := upd_set (fun _ c => fenceC c) 0 j d.cells (by omega)
    simp only [Nat.zero_add] at hs
    cases hfl : d.cells[j].flushed
    · have : fenceC d.cells[j] = d.cells[j] := by simp [fenceC, hfl]
      have := upd_same (fun _ c => fenceC c) 0 j d.cells (by omega) (by simpa using this)
      simp only [Bool.false_eq_true, if_false, Option.bind_some]
      rw [this]
    · have : fenceC d.cells[j] = keepC d.cells[j] d.cells[j].sent := by simp [fenceC, hfl]
      rw [this] at hs
      simp only [if_true, pmem_cell_keep__i0.f, Option.bind_some]
      refine congrArg (fun z => some (Sum.inr (((j + 1 : Nat) : Int), z))) hs
  · unfold pmem_Device_Fence.s0
    rw [decide_eq_false (by omega), if_neg (by decide)]
    refine congrArg (fun z => some (Sum.inl z)) ?_
    show upd (fun _ c => fenceC c) 0 d.cells.length d.cells = _
    rw [upd_all]
    apply List.ext_getElem (by simp)
    intro i h1 h2
    simp
theorem fence_okC {c : Cell} (h : okC c) : okC (fenceC c) := by
  unfold fenceC
  split
  · exact keep_ok h h.2.2
  · exact h
theorem fence_eq {fu n : Nat} {B : Int} {d : Dev} (h : DevOk n B d) (hB : B < 9223372036854775807) (hn : n ≤ 1000000) (hf : n < fu) : pmem_Device_Fence.f fu d = some (fenceD d) := by
  unfold pmem_Device_Fence.f fenceD
  rw [may_eq]
  simp only [Option.bind_some]
  cases ho : d.off
  · have e : mayI false 0 1 = 0 := by decide
    rw [e, if_neg (by decide), if_neg (by decide), fence_loop (by rw [h.len]; exact hn) (by rw [h.len]; exact hf)]
    have e2 : pmem_Device_step.f fu (⟨d.cells.map fenceC, d.plan, d.off, d.armed, d.left, d.steps⟩ : S_pmem_Device) = some (tick (withC d (d.cells.map fenceC))) :=
      dstep_eq (with_ok h (by simp [h.len]) (fun c hc => by
        obtain ⟨x, hx, rfl⟩ := List.mem_map.1 hc
        exact fence_okC (h.val x hx))) hB ho
    rw [ho] at e2
    simp only [Option.bind_some]
    rw [e2]
    rfl
  · have e : mayI true 0 1 = 3 := by decide
    rw [e]
    rfl
theorem openr_eq {fu : Nat} {c : Cell} : pmem_cell_open__r0.f fu c = some (openC c) := by
  unfold pmem_cell_open__r0.f openC
  cases c.flushed <;> rfl
end Go.Proofs.Ytklhbaghbmndeaa.Pure
namespace Go.Proofs.Ytklhbaghbmndeaa
open Go Go.Xw
end Go.Proofs.Ytklhbaghbmndeaa
namespace Go.Proofs.Ytklhbaghbmndeaa.Pure
open Go Go.Xw
def octs (ws : List Int) : List Int := ws.flatMap fun w => lay w.toNat 8
theorem octs_len : ∀ ws : List Int, (octs ws).length = 8 * ws.length
  | [] => rfl
  | w :: ws => by
    have := octs_len ws
    simp only [octs, List.flatMap_cons, List.length_append, lay_len, List.length_cons] at *
    omega
theorem octs_append (a b : List Int) : octs (a ++ b) = octs a ++ octs b := by simp [octs]
theorem octs_one (w : Int) : octs [w] = lay w.toNat 8 := by simp [octs]
theorem octets_eq {fu : Nat} {ws : List Int} (hv : ∀ w ∈ ws, U64 w) (hl : ws.length ≤ 100000) (hf : ws.length + 8 < fu) : octet_Octets.f fu ws = some (octs ws) := by
  unfold octet_Octets.f
  have : loopM (octet_Octets.s0 fu ws) fu ([], 0) = some (octs ws) := by
    refine loopM_run (S := fun j => (octs (ws.take j), (j : Int))) ws.length (by simp [octs]) ?_ ?_ (by omega)
    · intro j hj
      unfold octet_Octets.s0
      have w3 : IntKind.i64.wrap ((j : Int) + 1) = ((j + 1 : Nat) : Int) := by rw [w64 (by omega) (by omega)]; omega
      have c1 : 0 ≤ (j : Int) ∧ (j : Int) < (ws.length : Int) := by omega
      have hu := hv _ (List.getElem_mem hj)
      obtain ⟨v, hv'⟩ : ∃ v : Nat, ws[j] = (v : Int) := ⟨ws[j].toNat, by unfold U64 at hu; omega⟩
      simp only [w3]
      rw [decide_eq_true c1.2, if_pos rfl, if_pos c1, ix_nat hj, hv', show octet_Lay.f fu (v : Int) 8 = some (lay v 8) from olay_eq (n := 8) (by omega) (by omega)]
      simp only [Option.bind_some]
      rw [if_pos (by rw [octs_len, lay_len, List.length_take]; exact Nat.le_trans (by omega : _ ≤ 1000008) (by decide)), take_next hj, octs_append, octs_one, hv', Int.toNat_natCast]
    · unfold octet_Octets.s0
      rw [decide_eq_false (show ¬ ((ws.length : Int) < (ws.length : Int)) by omega), if_neg (by decide), List.take_length]
  rw [this]
  rfl
theorem set_next {l : List Int} {n j : Nat} {v : Int} (h : j < n) (hl : l.length = j) : (l ++ List.replicate (n - j) (0 : Int)).set j v = (l ++ [v]) ++ List.replicate (n - (j + 1)) (0 : Int) := by
  rw [List.set_append, if_neg (by omega), hl, Nat.sub_self, show n - j = n - (j + 1) + 1 from by omega, List.replicate_succ]
  simp
def lastsD (d : Dev) : List Int := d.cells.map fun c => c.lasts
def storedD (d : Dev) : List Int := d.cells.map fun c => c.stored
theorem image_eq {fu n : Nat} {B : Int} {d : Dev} (h : DevOk n B d) (hn : n ≤ 100000) (hf : n + 8 < fu) : pmem_Device_Image.f fu d = some (octs (lastsD d)) := by
  unfold pmem_Device_Image.f pmem_Device_octets__pmem_Device_Image_1.f
  have hl := h.len
  rw [if_pos ⟨by omega, Nat.le_trans (by omega : _ ≤ 100000) (by decide)⟩]
  have : loopM (pmem_Device_octets__pmem_Device_Image_1.s0 fu d) fu (0, (List.replicate (Int.toNat (List.length d.cells : Int)) (0 : Int))) = some (lastsD d) := by
    refine loopM_run (S := fun j => ((j : Int), (lastsD d).take j ++ List.replicate (d.cells.length - j) (0 : Int))) d.cells.length (by simp) ?_ ?_ (by omega)
    · intro j hj
      unfold pmem_Device_octets__pmem_Device_Image_1.s0
      have w3 : IntKind.i64.wrap ((j : Int) + 1) = ((j + 1 : Nat) : Int) := by rw [w64 (by omega) (by omega)]; omega
      have hjl : j < (lastsD d).length := by simpa [lastsD] using hj
      have ht : ((lastsD d).take j).length = j := by rw [List.length_take]; omega
      have c1 : 0 ≤ (j : Int) ∧ (j : Int) < (d.cells.length : Int) := by omega
      have c2 : 0 ≤ (j : Int) ∧ (j : Int) < (((lastsD d).take j ++ List.replicate (d.cells.length - j) (0 : Int)).length : Int) := by
        rw [List.length_append, ht, List.length_replicate]
        omega
      simp only [w3]
      rw [decide_eq_true c1.2, if_pos rfl, if_pos c1, ix_nat hj]
      simp only [pmem_Device_Image_1__r0.f, Option.bind_some]
      rw [if_pos c2, Int.toNat_natCast, set_next hj ht, take_next hjl]
      simp [lastsD]
    · unfold pmem_Device_octets__pmem_Device_Image_1.s0
      rw [decide_eq_false (show ¬ ((d.cells.length : Int) < (d.cells.length : Int)) by omega), if_neg (by decide), Nat.sub_self, List.take_of_length_le (by simp [lastsD])]
      simp
  rw [this]
  simp only [Option.bind_some]
  rw [octets_eq (fun w hw => by
    obtain ⟨c, hc, rfl⟩ := List.mem_map.1 hw
    exact (h.val c hc).1) (by simp [lastsD, hl, hn]) (by simp only [lastsD, List.length_map]; omega)]
  rfl
theorem view_eq {fu n : Nat} {B : Int} {d : Dev} (h : DevOk n B d) (hn : n ≤ 100000) (hf : n + 8 < fu) : pmem_Device_View.f fu d = some (octs (storedD d)) := by
  unfold pmem_Device_View.f pmem_Device_octets__pmem_Device_View_1.f
  have hl := h.len
  rw [if_pos ⟨by omega, Nat.le_trans (by omega : _ ≤ 100000) (by decide)⟩]
  have : loopM (pmem_Device_octets__pmem_Device_View_1.s0 fu d) fu (0, (List.replicate (Int.toNat (List.length d.cells : Int)) (0 : Int))) = some (storedD d) := by
    refine loopM_run (S := fun j => ((j : Int), (storedD d).take j ++ List.replicate (d.cells.length - j) (0 : Int))) d.cells.length (by simp) ?_ ?_ (by omega)
    · intro j hj
      unfold pmem_Device_octets__pmem_Device_View_1.s0
      have w3 : IntKind.i64.wrap ((j : Int) + 1) = ((j + 1 : Nat) : Int) := by rw [w64 (by omega) (by omega)]; omega
      have hjl : j < (storedD d).length := by simpa [storedD] using hj
      have ht : ((storedD d).take j).length = j := by rw [List.length_take]; omega
      have c1 : 0 ≤ (j : Int) ∧ (j : Int) < (d.cells.length : Int) := by omega
      have c2 : 0 ≤ (j : Int) ∧ (j : Int) < (((storedD d).take j ++ List.replicate (d.cells.length - j) (0 : Int)).length : Int) := by
        rw [List.length_append, ht, List.length_replicate]
        omega
      simp only [w3]
      rw [decide_eq_true c1.2, if_pos rfl, if_pos c1, ix_nat hj]
      simp only [pmem_Device_View_1__r0.f, Option.bind_some]
      rw [if_pos c2, Int.toNat_natCast, set_next hj ht, take_next hjl]
      simp [storedD]
    · unfold pmem_Device_octets__pmem_Device_View_1.s0
      rw [decide_eq_false (show ¬ ((d.cells.length : Int) < (d.cells.length : Int)) by omega), if_neg (by decide), Nat.sub_self, List.take_of_length_le (by simp [storedD])]
      simp
  rw [this]
  simp only [Option.bind_some]
  rw [octets_eq (fun w hw => by
    obtain ⟨c, hc, rfl⟩ := List.mem_map.1 hw
    exact (h.val c hc).2.1) (by simp [storedD, hl, hn]) (by simp only [storedD, List.length_map]; omega)]
  rfl
def fateD (d : Dev) (i : Nat) : S_api_Fate := ⟨(i : Int), (ix d.cells (i : Int)).lasts, (ix d.cells (i : Int)).flushed, (ix d.cells (i : Int)).sent, (ix d.cells (i : Int)).stored⟩
def fatesU (d : Dev) (j : Nat) : List S_api_Fate := ((List.range j).filter fun (i : Nat) => openC (ix d.cells (i : Int))).map (fateD d)
def fatesD (d : Dev) : List S_api_Fate := fatesU d d.cells.length
theorem fatesU_succ (d : Dev) (j : Nat) : fatesU d (j + 1) = fatesU d j ++ (if openC (ix d.cells (j : Int)) = true then [fateD d j] else []) := by
  unfold fatesU
  rw [List.range_succ, List.filter_append, List.map_append]
  cases h : openC (ix d.cells (j : Int)) <;> simp [h]
theorem fatesU_le (d : Dev) (j : Nat) : (fatesU d j).length ≤ j := by
  unfold fatesU
  rw [List.length_map]
  exact Nat.le_trans (List.length_filter_le _ _) (by simp)
theorem fates_eq {fu n : Nat} {B : Int} {d : Dev} (h : DevOk n B d) (hn : n ≤ 100000) (hf : n < fu) : pmem_Device_Fates.f fu d = some (fatesD d) := by
  unfold pmem_Device_Fates.f
  have hl := h.len
  have : loopM (pmem_Device_Fates.s0 fu d) fu ([], 0) = some (fatesD d) := by
    refine loopM_run (S := fun j => (fatesU d j, (j : Int))) d.cells.length (by simp [fatesU]) ?_ ?_ (by omega)
    · intro j hj
      unfold pmem_Device_Fates.s0
      have w3 : IntKind.i64.wrap ((j : Int) + 1) = ((j + 1 : Nat) : Int) := by rw [w64 (by omega) (by omega)]; omega
      have c1 : 0 ≤ (j : Int) ∧ (j : Int) < (d.cells.length : Int) := by omega
      have hle := fatesU_le d j
      simp only [w3]
      rw [decide_eq_true c1.2, if_pos rfl, if_pos c1, openr_eq, fatesU_succ]
      simp only [Option.bind_some]
      cases ho : openC (ix d.cells (j : Int))
      · simp
      · have hlim : (fatesU d j).length + List.length [(⟨(j : Int), (ix d.cells (j : Int)).lasts, (ix d.cells (j : Int)).flushed, (ix d.cells (j : Int)).sent, (ix d.cells (j : Int)).stored⟩ : S_api_Fate)] ≤ LIM := by
          simp only [List.length_cons, List.length_nil]
          exact Nat.le_trans (by omega : _ ≤ 100001) (by decide)
        rw [if_pos rfl, if_pos hlim]
        rfl
    · unfold pmem_Device_Fates.s0
      rw [decide_eq_false (show ¬ ((d.cells.length : Int) < (d.cells.length : Int)) by omega), if_neg (by decide)]
      rfl
  rw [this]
  rfl
def newD (n : Nat) : Dev := ⟨List.replicate n ⟨0, 0, 0, false⟩, ⟨[], 0⟩, false, false, 0, 0⟩
theorem store_ok {n : Nat} {B k w : Int} {d : Dev} (h : DevOk n B d) (hw : U64 w) : DevOk n (B + 1) (storeD d k w).2 := by
  unfold storeD
  split
  · rename_i e
    refine tick_ok (with_ok h (by simp [putC, h.len]) (mapIdx_ok h.val fun i c hc => ?_)) (may_zero.1 e).1
    split
    · exact ⟨hc.1, hw, hc.2.2⟩
    · exact hc
  · exact h.up (by omega)
theorem flush_ok {n : Nat} {B k : Int} {d : Dev} (h : DevOk n B d) : DevOk n (B + 1) (flushD d k).2 := by
  unfold flushD
  split
  · rename_i e
    exact tick_ok (with_ok h (by simp [sendL, h.len]) (sendL_ok h.val)) (may_zero.1 e).1
  · exact h.up (by omega)
theorem fence_ok {n : Nat} {B : Int} {d : Dev} (h : DevOk n B d) : DevOk n (B + 1) (fenceD d).2 := by
  unfold fenceD
  cases ho : d.off
  · rw [if_neg (by decide)]
    exact tick_ok (with_ok h (by simp [h.len]) (fun c hc => by
        obtain ⟨x, hx, rfl⟩ := List.mem_map.1 hc
        exact fence_okC (h.val x hx))) ho
  · rw [if_pos rfl]
    exact h.up (by omega)
end Go.Proofs.Ytklhbaghbmndeaa.Pure
namespace Go.Proofs.Ytklhbaghbmndeaa
open Go Go.Xw
end Go.Proofs.Ytklhbaghbmndeaa
namespace Go.Proofs.Ytklhbaghbmndeaa.Pure
open Go Go.Xw
def Small (acts : List S_rickyardlaw05_Act) (m : Nat) : Prop := acts.length ≤ m ∧ ∀ a ∈ acts, a.L.length ≤ 40
instance (acts : List S_rickyardlaw05_Act) (m : Nat) : Decidable (Small acts m) := inferInstanceAs (Decidable (_ ∧ _))
abbrev FU : Nat := 200000
theorem steps_eq {fu : Nat} {d : Dev} : pmem_Device_Steps.f fu d = some d.steps := rfl
theorem eta {d : Dev} : (⟨d.cells, ⟨d.plan.list, d.plan.at_⟩, d.off, d.armed, d.left, d.steps⟩ : S_pmem_Device) = d := rfl
def tup (i : Int) (d : Dev) : Int × (List S_pmem_cell) × (List Int) × Int × Bool × Bool × Int × Int := (i, d.cells, d.plan.list, d.plan.at_, d.off, d.armed, d.left, d.steps)
theorem next64 {j n : Nat} (h : j < n) (hn : n ≤ 100000) : IntKind.i64.wrap ((j : Int) + 1) = ((j + 1 : Nat) : Int) := by rw [w64 (by omega) (by omega)]; omega
theorem shr_pow (n j : Nat) (hj : j < 8) : shR .u64 (n : Int) ((8 * j : Nat) : Int) = ((n / 256 ^ j : Nat) : Int) := by
  unfold shR
  rw [Int.toNat_natCast]
  have e : min (8 * j) IntKind.u64.bits = 8 * j := Nat.min_eq_left (by show 8 * j ≤ 64; omega)
  rw [e, show (256 : Nat) = 2 ^ 8 from rfl, ← Nat.pow_mul]
  have : ((2 : Int) ^ (8 * j)) = ((2 ^ (8 * j) : Nat) : Int) := by simp
  rw [this, Int.fdiv_eq_ediv_of_nonneg _ (Int.natCast_nonneg _)]
  simp
theorem text_eq {fu : Nat} {ws : List Int} (hv : ∀ w ∈ ws, U64 w) (hl : ws.length ≤ 100000) (hf : ws.length + 8 < fu) : rickyardref05_Text.f fu ws = some ((octs ws).map toB) := by
  unfold rickyardref05_Text.f
  have : loopM (rickyardref05_Text.s1 fu ws) fu ([], 0) = some (octs ws) := by
    refine loopM_run (S := fun j => (octs (ws.take j), (j : Int))) ws.length (by simp [octs]) ?_ ?_ (by omega)
    · intro j hj
      unfold rickyardref05_Text.s1
      have w3 : IntKind.i64.wrap ((j : Int) + 1) = ((j + 1 : Nat) : Int) := next64 hj hl
      have c1 : 0 ≤ (j : Int) ∧ (j : Int) < (ws.length : Int) := by omega
      have hu := hv _ (List.getElem_mem hj)
      obtain ⟨v, hv'⟩ : ∃ v : Nat, ws[j] = (v : Int) := ⟨ws[j].toNat, by unfold U64 at hu; omega⟩
      have inner : loopM (rickyardref05_Text.s2 fu ws (octs (ws.take j), (j : Int))) fu (octs (ws.take j), 0) = some (octs (ws.take j) ++ lay v 8) := by
        refine loopM_run (S := fun i => (octs (ws.take j) ++ lay v i, (i : Int))) 8 (by simp [lay]) ?_ ?_ (by omega)
        · intro i hi
          unfold rickyardref05_Text.s2
          have c2 : (i : Int) < 8 := by omega
          have w4 : IntKind.i64.wrap (8 * (i : Int)) = ((8 * i : Nat) : Int) := by rw [w64 (by omega) (by omega)]; omega
          have w5 : IntKind.i64.wrap ((i : Int) + 1) = ((i + 1 : Nat) : Int) := by rw [w64 (by omega) (by omega)]; omega
          simp only [w4, w5]
          have hlim : List.length (octs (ws.take j) ++ lay v i) + List.length [((v / 256 ^ i % 256 : Nat) : Int)] ≤ LIM := by
            rw [List.length_append, octs_len, lay_len, List.length_take]
            exact Nat.le_trans (by simp only [List.length_cons, List.length_nil]; omega : _ ≤ 1000000) (by decide)
          rw [decide_eq_true c2, if_pos rfl, if_pos c1, if_pos (by omega), ix_nat hj, hv', shr_pow _ _ hi, wu8_mod, if_pos hlim, lay_succ, List.append_assoc]
        · unfold rickyardref05_Text.s2
          rw [decide_eq_false (show ¬ (((8 : Nat) : Int) < 8) by decide), if_neg (by decide)]
      simp only [w3]
      rw [decide_eq_true c1.2, if_pos rfl, inner, take_next hj, octs_append, octs_one, hv', Int.toNat_natCast]
      rfl
    · unfold rickyardref05_Text.s1
      rw [decide_eq_false (show ¬ ((ws.length : Int) < (ws.length : Int)) by omega), if_neg (by decide), List.take_length]
  rw [this]
  rfl
theorem ix_mapIdx {α : Type} [Inhabited α] {cs : List α} {g : Nat → α → α} {i : Nat} (hi : i < cs.length) : ix (cs.mapIdx g) (i : Int) = g i (ix cs (i : Int)) := by
  rw [ix_nat (by simpa using hi), ix_nat hi, List.getElem_mapIdx]
theorem ix_mapC {α : Type} [Inhabited α] {cs : List α} {g : α → α} {i : Nat} (hi : i < cs.length) : ix (cs.map g) (i : Int) = g (ix cs (i : Int)) := by
  rw [ix_nat (by simpa using hi), ix_nat hi, List.getElem_map]
theorem cut_map {α β : Type} (f : α → β) (l : List α) (i j : Int) : cut (l.map f) i j = (cut l i j).map f := by
  unfold cut
  rw [← List.map_take, ← List.map_drop]
theorem of_toB {l : List Int} (h : Bytes l) : (l.map toB).map ofB = l := by
  rw [List.map_map]
  conv => rhs; rw [← List.map_id l]
  apply List.map_congr_left
  intro x hx
  have := h x hx
  simp only [Function.comp, ofB, toB, UInt8.toNat_ofNat', id]
  omega
theorem Bytes.drop {l : List Int} (h : Bytes l) (n : Nat) : Bytes (l.drop n) := fun x hx => h x (List.mem_of_mem_drop hx)
theorem Bytes.take {l : List Int} (h : Bytes l) (n : Nat) : Bytes (l.take n) := fun x hx => h x (List.mem_of_mem_take hx)
theorem getD_toB {l : List Int} (hb : Bytes l) {i : Nat} (h : i < l.length) : ofB (List.getD (l.map toB) (Int.toNat (i : Int)) 0) = ix l (i : Int) := by
  rw [Int.toNat_natCast, List.getD_eq_getElem?_getD, List.getElem?_map, List.getElem?_eq_getElem h, ix_nat h]
  have := of_toB (l := [l[i]]) (by intro x hx; obtain rfl := List.mem_singleton.1 hx; exact hb _ (List.getElem_mem h))
  simpa using this
theorem num_lt8 {l : List Int} (hb : Bytes l) (hl : l.length ≤ 8) : num l < 18446744073709551616 := by
  have h1 := num_lt hb
  have h2 : (256 : Nat) ^ l.length ≤ 256 ^ 8 := Nat.pow_le_pow_right (by decide) hl
  have h3 : (256 : Nat) ^ 8 = 18446744073709551616 := by decide
  omega
theorem rnumber_eq {fu : Nat} {l : List Int} (hb : Bytes l) (hl : l.length ≤ 8) (hf : l.length < fu) : rickyardref01_Number.f fu (l.map toB) = some ((num l : Nat) : Int) := by
  unfold rickyardref01_Number.f
  have w0 : IntKind.i64.wrap (((l.map toB).length : Int) - 1) = (l.length : Int) - 1 := by rw [List.length_map, w64 (by omega) (by omega)]
  rw [w0]
  have : loopM (rickyardref01_Number.s0 fu (l.map toB)) fu (0, (l.length : Int) - 1) = some ((num l : Nat) : Int) := by
    refine loopM_run (S := fun j => (((num (l.drop (l.length - j)) : Nat) : Int), (l.length : Int) - 1 - (j : Int))) l.length (by simp [num]) ?_ ?_ hf
    · intro j hj
      unfold rickyardref01_Number.s0
      obtain ⟨i, hi⟩ : ∃ i : Nat, l.length - j = i + 1 := ⟨l.length - j - 1, by omega⟩
      have e1 : (l.length : Int) - 1 - (j : Int) = (i : Int) := by omega
      have hil : i < l.length := by omega
      have e2 : l.length - (j + 1) = i := by omega
      have c1 : (i : Int) ≥ 0 := by omega
      have c2 : (i : Int) < 8 := by omega
      have c3 : True ∧ (i : Int) < ((l.map toB).length : Int) := ⟨trivial, by rw [List.length_map]; omega⟩
      have w1 : IntKind.i64.wrap ((i : Int) - 1) = (l.length : Int) - 1 - ((j + 1 : Nat) : Int) := by rw [w64 (by omega) (by omega)]; omega
      have hcb := hb _ (List.getElem_mem hil)
      obtain ⟨c, hc⟩ : ∃ c : Nat, l[i] = (c : Int) := ⟨l[i].toNat, by omega⟩
      have hd : l.drop i = l[i] :: l.drop (i + 1) := List.drop_eq_getElem_cons hil
      have hn : num (l.drop i) = c + 256 * num (l.drop (i + 1)) := by rw [hd, num, hc, Int.toNat_natCast]
      have hlt := num_lt8 (hb.drop i) (by rw [List.length_drop]; omega)
      rw [hn] at hlt
      have w2 : IntKind.u64.wrap (((num (l.drop (i + 1)) : Nat) : Int) * 256) = ((num (l.drop (i + 1)) : Nat) : Int) * 256 := wu64 (by omega) (by omega)
      have w3 : IntKind.u64.wrap (ix l (i : Int)) = (c : Int) := by rw [ix_nat hil, hc, wu64 (by omega) (by omega)]
      have w4 : IntKind.u64.wrap (((num (l.drop (i + 1)) : Nat) : Int) * 256 + (c : Int)) = ((num (l.drop i) : Nat) : Int) := by rw [wu64 (by omega) (by omega), hn]; omega
      simp only [e1, hi, e2, getD_toB hb hil, w1, w2, w3, w4, c1, c2, decide_true, if_true]
      rw [if_pos c3]
      rfl
    · unfold rickyardref01_Number.s0
      have : ¬ (l.length : Int) - 1 - (l.length : Int) ≥ 0 := by omega
      simp only [this]
      simp
  rw [this]
  rfl
theorem read_long {fu : Nat} {l : List Int} (h : 8 ≤ l.length) : octet_Read.f fu l = octet_Read.f fu (l.take 8) := by
  have h8 : (l.take 8).length = 8 := by rw [List.length_take]; omega
  have e1 : mnI (l.length : Int) 8 = 8 := by unfold mnI; split <;> omega
  have e2 : mnI ((l.take 8).length : Int) 8 = 8 := by rw [h8]; rfl
  have e3 : cut l 0 8 = l.take 8 := rfl
  have e4 : cut (l.take 8) 0 8 = l.take 8 := by
    unfold cut
    rw [List.take_of_length_le (by rw [h8]; decide)]
    rfl
  have es : octet_Read.s0 fu l = octet_Read.s0 fu (l.take 8) := by
    unfold octet_Read.s0
    rw [e1, e2, e3, e4]
  unfold octet_Read.f
  rw [e1, e2, es, if_pos (by omega), if_pos (by rw [h8]; decide)]
def wordsU (l : List Int) (j : Nat) : List Int := (List.range j).map fun i => ((num ((l.drop (8 * i)).take 8) : Nat) : Int)
theorem wordsU_succ (l : List Int) (j : Nat) : wordsU l (j + 1) = wordsU l j ++ [((num ((l.drop (8 * j)).take 8) : Nat) : Int)] := by
  simp [wordsU, List.range_succ]
theorem wordsU_len (l : List Int) (j : Nat) : (wordsU l j).length = j := by simp [wordsU]
theorem chunk_len {l : List Int} {j : Nat} (h : 8 * j + 8 ≤ l.length) : ((l.drop (8 * j)).take 8).length = 8 := by
  rw [List.length_take, List.length_drop]
  omega
theorem words_U64 {l : List Int} (hb : Bytes l) {n : Nat} : ∀ w ∈ wordsU l n, U64 w := by
  intro w hw
  obtain ⟨i, _, rfl⟩ := List.mem_map.1 hw
  have := num_lt8 ((hb.drop (8 * i)).take 8) (by rw [List.length_take]; omega)
  unfold U64
  omega
theorem words_eq {fu n : Nat} {l : List Int} (hb : Bytes l) (hl : l.length = 8 * n) (hn : n ≤ 100000) (hf : n + 8 < fu) : octet_Words.f fu l = some (wordsU l n) := by
  unfold octet_Words.f
  have : loopM (octet_Words.s0 fu) fu (l, []) = some (wordsU l n) := by
    refine loopM_run (S := fun j => (l.drop (8 * j), wordsU l j)) n (by simp [wordsU]) ?_ ?_ (by omega)
    · intro j hj
      unfold octet_Words.s0
      have hdl : (l.drop (8 * j)).length = 8 * n - 8 * j := by rw [List.length_drop, hl]
      have c1 : ((l.drop (8 * j)).length : Int) ≥ 8 := by omega
      have hc : ((l.drop (8 * j)).take 8).length = 8 := chunk_len (by omega)
      have hr : octet_Read.f fu (l.drop (8 * j)) = some ((num ((l.drop (8 * j)).take 8) : Nat) : Int) := by
        rw [read_long (by omega)]
        exact read_eq ((hb.drop _).take _) (by omega) (by omega)
      have e1 : cut (l.drop (8 * j)) 8 ((l.drop (8 * j)).length : Int) = l.drop (8 * (j + 1)) := by
        unfold cut
        rw [Int.toNat_natCast, List.take_length, show Int.toNat 8 = 8 from rfl, List.drop_drop]
        congr 1
      simp only [e1]
      rw [decide_eq_true c1, if_pos rfl, hr]
      simp only [Option.bind_some]
      rw [if_pos (by rw [wordsU_len]; exact Nat.le_trans (by simp only [List.length_cons, List.length_nil]; omega : _ ≤ 100001) (by decide)), if_pos c1, wordsU_succ]
    · unfold octet_Words.s0
      have : ¬ (((l.drop (8 * n)).length : Int) ≥ 8) := by rw [List.length_drop]; omega
      simp only [this, decide_false, Bool.false_eq_true, if_false]
  rw [this]
  rfl
def wordC (w : Int) : Cell := ⟨w, w, 0, false⟩
def fromD (l : List Int) : Dev := ⟨(wordsU l (8 * (l.length / 64))).map wordC, ⟨[], 0⟩, false, false, 0, 0⟩
theorem wordsU_take {l : List Int} {n : Nat} : ∀ j, 8 * j ≤ n → wordsU (l.take n) j = wordsU l j
  | 0, _ => rfl
  | j + 1, h => by
    rw [wordsU_succ, wordsU_succ, wordsU_take j (by omega)]
    congr 4
    rw [List.drop_take, List.take_take, Nat.min_eq_left (by omega)]
theorem from_eq {fu : Nat} {l : List Int} (hb : Bytes l) (hl : l.length ≤ 100000) (hf : l.length + 8 < fu) : pmem_From.f fu l = some (fromD l) := by
  unfold pmem_From.f
  have hd : l.length / 64 ≤ 1562 := by omega
  have e0 : Int.tdiv (l.length : Int) 64 = ((l.length / 64 : Nat) : Int) := by
    rw [Int.tdiv_eq_ediv_of_nonneg (by omega)]
    omega
  have e1 : mnI (IntKind.i64.wrap (Int.tdiv (l.length : Int) 64)) 4096 = ((l.length / 64 : Nat) : Int) := by
    rw [e0, w64 (by omega) (by omega)]
    unfold mnI
    split <;> omega
  have e2 : IntKind.i64.wrap (((l.length / 64 : Nat) : Int) * 64) = ((64 * (l.length / 64) : Nat) : Int) := by rw [w64 (by omega) (by omega)]; omega
  rw [e1, e2, if_pos (by omega)]
  have e3 : cut l 0 ((64 * (l.length / 64) : Nat) : Int) = l.take (64 * (l.length / 64)) := by
    unfold cut
    rw [Int.toNat_natCast]
    rfl
  have hwo : octet_Words.f fu (l.take (64 * (l.length / 64))) = some (wordsU l (8 * (l.length / 64))) := by
    rw [words_eq (n := 8 * (l.length / 64)) (hb.take _) (by rw [List.length_take]; omega) (by omega) (by omega), wordsU_take _ (by omega)]
  rw [e3, hwo]
  simp only [Option.bind_some]
  generalize hW : wordsU l (8 * (l.length / 64)) = ws
  have hwl : ws.length = 8 * (l.length / 64) := by rw [← hW, wordsU_len]
  have : loopM (pmem_From.s0 fu ws) fu (0, []) = some (ws.map wordC) := by
    refine loopM_run (S := fun j => ((j : Int), (ws.take j).map wordC)) ws.length (by simp) ?_ ?_ (by omega)
    · intro j hj
      unfold pmem_From.s0
      have c1 : 0 ≤ (j : Int) ∧ (j : Int) < (ws.length : Int) := by omega
      have hlim : List.length ((ws.take j).map wordC) + List.length [(⟨(ix ws (j : Int)), (ix ws (j : Int)), (0 : Int), false⟩ : S_pmem_cell)] ≤ LIM := by
        rw [List.length_map, List.length_take]
        exact Nat.le_trans (by simp only [List.length_cons, List.length_nil]; omega : _ ≤ 100001) (by decide)
      simp only []
      rw [decide_eq_true c1.2, if_pos rfl, if_pos c1, if_pos hlim, next64 hj (by omega), ix_nat hj, take_next hj, List.map_append]
      rfl
    · unfold pmem_From.s0
      rw [decide_eq_false (show ¬ ((ws.length : Int) < (ws.length : Int)) by omega), if_neg (by decide), List.take_length]
  rw [this]
  unfold fromD
  rw [hW]
  rfl
theorem from_ok {l : List Int} (hb : Bytes l) : DevOk (8 * (l.length / 64)) 0 (fromD l) := by
  refine ⟨by simp [fromD, wordsU], fun c hc => ?_, fun h => absurd rfl h, by simp [fromD], fun h => (by cases h), fun _ => rfl, by simp [fromD]⟩
  obtain ⟨w, hw, rfl⟩ := List.mem_map.1 hc
  have := words_U64 hb w hw
  exact ⟨this, this, by unfold U64; simp [wordC]⟩
theorem from_lasts (l : List Int) : lastsD (fromD l) = wordsU l (8 * (l.length / 64)) := by
  simp [lastsD, fromD, wordC, Function.comp_def]
theorem from_stored (l : List Int) : storedD (fromD l) = wordsU l (8 * (l.length / 64)) := by
  simp [storedD, fromD, wordC, Function.comp_def]
end Go.Proofs.Ytklhbaghbmndeaa.Pure
namespace Go.Proofs.Ytklhbaghbmndeaa
open Go Go.Xw
end Go.Proofs.Ytklhbaghbmndeaa
namespace Go.Proofs.Ytklhbaghbmndeaa.Pure
open Go Go.Xw
def putAll : Dev → Int → List Int → Int × Dev
  | d, _, [] => (0, d)
  | d, k, w :: ws => if (storeD d k w).1 = 0 then putAll (storeD d k w).2 (k + 1) ws else storeD d k w
def sendD (d : Dev) (line first : Int) (ws : List Int) : Int × Dev := if (putAll d (8 * line + first) ws).1 = 0 then flushD (putAll d (8 * line + first) ws).2 line else putAll d (8 * line + first) ws
def inL (d : Dev) (line : Int) : Prop := 0 ≤ line ∧ line < ((d.cells.length / 8 : Nat) : Int)
instance (d : Dev) (line : Int) : Decidable (inL d line) := inferInstanceAs (Decidable (_ ∧ _))
def wordD (d : Dev) (line i w : Int) : Int × Dev := if inL d line ∧ 0 ≤ i ∧ i < 8 then sendD d line i [w] else (2, d)
theorem put_ok {n : Nat} : ∀ {ws : List Int} {B k : Int} {d : Dev} (h : DevOk n B d) (hw : ∀ w ∈ ws, U64 w), DevOk n (B + (ws.length : Int)) (putAll d k ws).2
  | [], B, k, d, h, _ => h.up (by simp)
  | w :: ws, B, k, d, h, hw => by
    have h1 := store_ok (k := k) h (hw w (by simp))
    unfold putAll
    split
    · exact (put_ok h1 fun x hx => hw x (by simp [hx])).up (by simp only [List.length_cons]; omega)
    · exact h1.up (by simp only [List.length_cons]; omega)
theorem send_ok {n : Nat} {ws : List Int} {B k i : Int} {d : Dev} (h : DevOk n B d) (hw : ∀ w ∈ ws, U64 w) : DevOk n (B + (ws.length : Int) + 1) (sendD d k i ws).2 := by
  have h1 := put_ok (k := 8 * k + i) h hw
  unfold sendD
  split
  · exact flush_ok h1
  · exact h1.up (by omega)
theorem store_loop {fu n : Nat} {line first : Int} {ws : List Int} (hn : n ≤ 100000) (hw : ∀ w ∈ ws, U64 w) (hl : ws.length ≤ 1000) (hline : 0 ≤ line ∧ line ≤ 100000) (hfirst : 0 ≤ first ∧ first ≤ 1000) : ∀ (r j : Nat) (B : Int) (d : Dev) (k : Nat), j + r = ws.length → DevOk n B d → B + (r : Int) < 9223372036854775807 → r < k →
    loopM (press_store.s0 fu line first ws) k (tup (j : Int) d) = some (if (putAll d (8 * line + first + (j : Int)) (ws.drop j)).1 = 0 then .inr ((putAll d (8 * line + first + (j : Int)) (ws.drop j)).2.cells, (putAll d (8 * line + first + (j : Int)) (ws.drop j)).2.plan.list, (putAll d (8 * line + first + (j : Int)) (ws.drop j)).2.plan.at_, (putAll d (8 * line + first + (j : Int)) (ws.drop j)).2.off, (putAll d (8 * line + first + (j : Int)) (ws.drop j)).2.armed, (putAll d (8 * line + first + (j : Int)) (ws.drop j)).2.left, (putAll d (8 * line + first + (j : Int)) (ws.drop j)).2.steps) else .inl (putAll d (8 * line + first + (j : Int)) (ws.drop j)))
  | r, j, B, d, 0, hj, h, hB, hk => by omega
  | 0, j, B, d, k + 1, hj, h, hB, hk => by
    unfold loopM
    have : j = ws.length := by omega
    subst this
    unfold press_store.s0 tup
    rw [decide_eq_false (show ¬ ((ws.length : Int) < (ws.length : Int)) by omega), if_neg (by decide), List.drop_of_length_le (Nat.le_refl _)]
    rfl
  | r + 1, j, B, d, k + 1, hj, h, hB, hk => by
    have hjl : j < ws.length := by omega
    have hu := hw _ (List.getElem_mem hjl)
    have hst : pmem_Device_Store.f fu d (8 * line + first + (j : Int)) ws[j] = some (storeD d (8 * line + first + (j : Int)) ws[j]) := store_eq h (by omega) hu
    have w1 : IntKind.i64.wrap (line * 8) = 8 * line := by rw [w64 (by omega) (by omega)]; omega
    have w2 : IntKind.i64.wrap (8 * line + first) = 8 * line + first := w64 (by omega) (by omega)
    have w3 : IntKind.i64.wrap (8 * line + first + (j : Int)) = 8 * line + first + (j : Int) := w64 (by omega) (by omega)
    have hd : ws.drop j = ws[j] :: ws.drop (j + 1) := List.drop_eq_getElem_cons hjl
    unfold loopM
    have hs : press_store.s0 fu line first ws (tup (j : Int) d) = some (if (storeD d (8 * line + first + (j : Int)) ws[j]).1 = 0 then .inr (tup ((j + 1 : Nat) : Int) (storeD d (8 * line + first + (j : Int)) ws[j]).2) else .inl (.inl (storeD d (8 * line + first + (j : Int)) ws[j]))) := by
      unfold press_store.s0 tup
      simp only [eta, w1, w2, w3]
      rw [decide_eq_true (show (j : Int) < (ws.length : Int) by omega), if_pos rfl, if_pos (by omega), ix_nat hjl, hst, next64 hjl (by omega)]
      simp only [Option.bind_some]
      by_cases e : (storeD d (8 * line + first + (j : Int)) ws[j]).1 = 0
      · rw [decide_eq_true e, if_neg (by decide), if_pos e]
      · rw [decide_eq_false e, if_pos (by decide), if_neg e]
    rw [hs, hd]
    unfold putAll
    by_cases e : (storeD d (8 * line + first + (j : Int)) ws[j]).1 = 0
    · have ih := store_loop (fu := fu) (n := n) (line := line) (first := first) hn hw hl hline hfirst r (j + 1) (B + 1) (storeD d (8 * line + first + (j : Int)) ws[j]).2 k (by omega) (store_ok h hu) (by omega) (by omega)
      rw [show 8 * line + first + ((j + 1 : Nat) : Int) = 8 * line + first + (j : Int) + 1 from by omega] at ih
      rw [if_pos e, if_pos e]
      exact ih
    · rw [if_neg e, if_neg e]
      simp only [e, if_false]
theorem send_eq {fu n : Nat} {B line first : Int} {ws : List Int} {d : Dev} (h : DevOk n B d) (hB : B + (ws.length : Int) + 1 < 9223372036854775807) (hn : n ≤ 100000) (hw : ∀ w ∈ ws, U64 w) (hl : ws.length ≤ 1000) (hline : 0 ≤ line ∧ line ≤ 100000) (hfirst : 0 ≤ first ∧ first ≤ 1000) (hf : 2000 < fu) : press_store.f fu d line first ws = some (sendD d line first ws) := by
  unfold press_store.f sendD
  have h1 := store_loop (fu := fu) hn hw hl hline hfirst ws.length 0 B d fu (by omega) h (by omega) (by omega)
  unfold tup at h1
  simp only [List.drop_zero, Int.natCast_zero, Int.add_zero] at h1
  have h2 := put_ok (k := 8 * line + first) h hw
  rw [h1]
  by_cases e : (putAll d (8 * line + first) ws).1 = 0
  · rw [if_pos e, if_pos e]
    simp only [Option.bind_some, eta]
    rw [flush_eq h2 (by omega) (by omega) (by omega)]
    rfl
  · rw [if_neg e, if_neg e]
    rfl
theorem pmay_eq {fu : Nat} {d : Dev} {k : Int} (hl : d.cells.length ≤ 1000000) : press_may.f fu d k = some (if inL d k then 0 else 2) := by
  unfold press_may.f
  rw [lines_eq hl]
  by_cases h1 : k < 0
  · rw [decide_eq_true h1, if_neg (show ¬ inL d k from fun q => by have := q.1; omega)]
    rfl
  · rw [decide_eq_false h1, if_neg (by decide)]
    simp only [Option.bind_some]
    by_cases h2 : k ≥ ((d.cells.length / 8 : Nat) : Int)
    · rw [decide_eq_true h2, if_neg (show ¬ inL d k from fun q => by have := q.2; omega)]
      rfl
    · rw [decide_eq_false h2, if_pos (show inL d k from ⟨by omega, by omega⟩)]
      rfl
theorem word_eq {fu n : Nat} {B line i w : Int} {d : Dev} (h : DevOk n B d) (hB : B + 9 < 9223372036854775807) (hn : n ≤ 100000) (hw : U64 w) (hf : 2000 < fu) : press_Word.f fu d line i w = some (wordD d line i w) := by
  unfold press_Word.f wordD
  have hlen := h.len
  rw [pmay_eq (by omega)]
  simp only [Option.bind_some]
  by_cases hi : inL d line
  · rw [if_pos hi, if_neg (by decide)]
    by_cases hl : 0 ≤ i ∧ i < 8
    · have hw1 : ∀ x ∈ [w], U64 x := fun x hx => by rw [List.mem_singleton.1 hx]; exact hw
      rw [decide_eq_false (show ¬ i < 0 by omega), decide_eq_false (show ¬ i ≥ 8 by omega), if_neg (by decide), if_pos ⟨hi, hl⟩]
      unfold inL at hi
      rw [send_eq h (by simp only [List.length_cons, List.length_nil]; omega) hn hw1 (by simp) (by omega) (by omega) hf]
      rfl
    · have : (if (decide (i < 0)) = true then true else (decide (i ≥ 8))) = true := by
        by_cases h1 : i < 0
        · rw [decide_eq_true h1, if_pos rfl]
        · rw [decide_eq_false h1, if_neg (by decide), decide_eq_true (by omega)]
      rw [if_pos this, if_neg (fun q => hl q.2)]
  · rw [if_neg hi, if_pos (by decide), if_neg (fun q => hi q.1)]
theorem sure_eq {fu n : Nat} {B : Int} {d : Dev} (h : DevOk n B d) (hB : B < 9223372036854775807) (hn : n ≤ 100000) (hf : n < fu) : press_Sure.f fu d = some (fenceD d) := by
  unfold press_Sure.f
  rw [fence_eq h hB (by omega) hf]
  rfl
end Go.Proofs.Ytklhbaghbmndeaa.Pure
namespace Go.Proofs.Ytklhbaghbmndeaa
open Go Go.Xw
end Go.Proofs.Ytklhbaghbmndeaa
