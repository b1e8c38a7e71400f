/- SuperOctets: texts merged, part 4 of 7. The last part proves that the law SuperOctets holds for every input. -/
import Derived.Test.YtjhajfkfhdnciaaPkSuperOctets3
/- (*rickyard/super.reader).next: its model, and that the Go function computes it: written by gen.py. -/
set_option linter.unusedVariables false
namespace Go.Proofs.Ytjhajfkfhdnciaa
open Go Go.Xw
def super_reader_next.f (fu : Nat) (a0 : S_super_reader) (a1 : Int) : Option (Int × S_super_reader) := (if 0 ≤ a1 ∧ a1 ≤ (List.length a0.rest : Int) then ((octet_Read.f fu (cut a0.rest 0 a1) : Option Int).bind fun t7 => (if 0 ≤ a1 ∧ a1 ≤ (List.length a0.rest : Int) then some ((IntKind.i64.wrap t7), (⟨(cut a0.rest a1 (List.length a0.rest : Int))⟩ : S_super_reader)) else none)) else none)
set_option maxRecDepth 100000 in
set_option maxHeartbeats 400000 in
theorem super_reader_next.ok (fu : Nat) (w : World) (a0 : S_super_reader) (G_0 : Nat) (V0_0 : Value) (R0_0 : Rd (kI .u8) w V0_0 a0.rest) (N0_0 : OffR V0_0 a0.rest G_0) (b_0 : Blk w G_0 149 [Seg.cell V0_0 R0_0.one]) (a1 : Int) (r : Int × S_super_reader) (h : super_reader_next.f fu a0 a1 = some r) :
    Calls Try.prog 123 (([.pointer (some ⟨G_0, 0, none⟩), .int .i64 a1] : List Value).toArray) w (fun e w' => ∃ v, e = .returned v ∧ ∃ u1 : Value, ∃ r2 : Rd (kI .u8) w' u1 r.2.rest, ∃ n3 : ∀ g, OffR V0_0 a0.rest g → OffR u1 r.2.rest g, ∃ n4 : ∀ g, OffRV V0_0 a0.rest g → OffRV u1 r.2.rest g, v = .int .i64 r.1 ∧ Blk w' G_0 149 [Seg.cell u1 r2.one] ∧ Fr (fun j => j = G_0) w w') := by
  unfold super_reader_next.f at h
  have fB : Fr (fun j => j = G_0) w w := Fr.refl _ _
  refine calls_cw Try.func123 rfl Try.ntmps123 rfl ?_
  refine cw_seq ?_
  refine cw_region ?_
  refine ol_val (v := .int .i64 0) (by exact xr_assign rfl rfl) rfl rfl rfl ?_
  refine ol_nil ?_
  refine cw_seq ?_
  refine cw_region ?_
  refine ol_val (v := .pointer (some ⟨G_0, 0, none⟩)) (by exact xr_move rfl rfl) rfl rfl rfl ?_
  refine ol_val (v := .pointer (some ⟨G_0, 0, none⟩)) (by exact xr_nilCheck rfl rfl) rfl rfl rfl ?_
  refine ol_val (v := .pointer (some ⟨G_0, 0, none⟩)) (by exact xr_fieldAddr (p := 0) (q := 0) rfl fl149_0 rfl) rfl rfl rfl ?_
  refine ol_val (v := V0_0) (by exact xr_load1 (v := V0_0) rfl ag22 rfl (b_0.seg 0 rfl rfl)) rfl rfl rfl ?_
  refine ol_val (v := .int .i64 a1) (by exact xr_move rfl rfl) rfl rfl rfl ?_
  obtain ⟨g6, h⟩ := gs h
  refine ol_val (v := subv 1 V0_0 0 (Int.toNat a1)) (by exact xr_slice_h (K := (kI .u8)) (v := V0_0) rfl Try.underlying22 sz5 rfl R0_0 rfl g6.1 g6.2) rfl rfl rfl ?_
  have r5 : Rd (kI .u8) w (subv 1 V0_0 0 (Int.toNat a1)) (cut a0.rest 0 a1) := R0_0.cut (lo := 0) (hi := a1) (by decide) g6.1 g6.2
  obtain ⟨t7, k8, h⟩ := bs h
  refine ol_op (by exact opv_call rfl cal112 (ac rfl an) (octet_Read.ok fu _ (cut a0.rest 0 a1) (subv 1 V0_0 0 (Int.toNat a1)) (r5) _ k8)) rfl rfl rfl ?_
  rintro _ w10 ⟨rfl, q9⟩
  have b_0 := b_0.gr q9
  have R0_0 := R0_0.gr q9
  have fB := fB.gr q9
  refine ol_val (v := .int .u64 t7) (by exact xr_assign rfl rfl) rfl rfl rfl ?_
  refine ol_nil ?_
  refine cw_seq ?_
  refine cw_region ?_
  refine ol_val (v := .pointer (some ⟨G_0, 0, none⟩)) (by exact xr_move rfl rfl) rfl rfl rfl ?_
  refine ol_val (v := .pointer (some ⟨G_0, 0, none⟩)) (by exact xr_move rfl rfl) rfl rfl rfl ?_
  refine ol_val (v := .pointer (some ⟨G_0, 0, none⟩)) (by exact xr_nilCheck rfl rfl) rfl rfl rfl ?_
  refine ol_val (v := .pointer (some ⟨G_0, 0, none⟩)) (by exact xr_fieldAddr (p := 0) (q := 0) rfl fl149_0 rfl) rfl rfl rfl ?_
  refine ol_val (v := V0_0) (by exact xr_load1 (v := V0_0) rfl ag22 rfl (b_0.seg 0 rfl rfl)) rfl rfl rfl ?_
  refine ol_val (v := .int .i64 a1) (by exact xr_move rfl rfl) rfl rfl rfl ?_
  obtain ⟨g12, h⟩ := gs h
  refine ol_val (v := subv 1 V0_0 (Int.toNat a1) (List.length a0.rest)) (by exact xr_slice_l (K := (kI .u8)) (v := V0_0) rfl Try.underlying22 sz5 rfl R0_0 rfl g12.1 g12.2) rfl rfl rfl ?_
  have r11 : Rd (kI .u8) w10 (subv 1 V0_0 (Int.toNat a1) (List.length a0.rest)) (cut a0.rest a1 (List.length a0.rest : Int)) := R0_0.cut (lo := a1) (hi := (List.length a0.rest : Int)) g12.1 g12.2 (Int.le_refl _)
  refine ol_val (v := .pointer (some ⟨G_0, 0, none⟩)) (by exact xr_nilCheck rfl rfl) rfl rfl rfl ?_
  refine ol_val (v := .pointer (some ⟨G_0, 0, none⟩)) (by exact xr_fieldAddr (p := 0) (q := 0) rfl fl149_0 rfl) rfl rfl rfl ?_
  refine ol_op0 (by exact opv_store (ss' := [Seg.cell (subv 1 V0_0 (Int.toNat a1) (List.length a0.rest)) r11.one]) (xs := cellsOf [Seg.cell (subv 1 V0_0 (Int.toNat a1) (List.length a0.rest)) r11.one]) rfl sz22 rfl rfl (cells_one r11.one) (len_cellsOf _) (one_cellsOf _) b_0 (Spl.segs _ 0 1 [Seg.cell (subv 1 V0_0 (Int.toNat a1) (List.length a0.rest)) r11.one] rfl rfl)) rfl rfl ?_
  rintro _ w14 ⟨b_0, q13⟩
  have r11 := r11.wr q13 (OffR.cut N0_0)
  have fB := fB.wrS q13 rfl
  refine ol_nil ?_
  refine cw_seq ?_
  refine cw_region ?_
  refine ol_val (v := .int .u64 t7) (by exact xr_move rfl rfl) rfl rfl rfl ?_
  refine ol_val (v := .int .i64 (IntKind.i64.wrap t7)) (by exact xr_conv rfl Try.underlying129 Try.underlying3 rfl) rfl rfl rfl ?_
  refine ol_val (v := .int .i64 (IntKind.i64.wrap t7)) (by exact xr_assign rfl rfl) rfl rfl rfl ?_
  refine ol_nil ?_
  refine cw_ret ?_
  repeat (first | with_reducible refine thn_r ?_ | with_reducible refine blk_r ?_)
  obtain rfl := Option.some.inj h
  refine fin_ret1 Try.results123 rfl ?_
  exact ⟨_, rfl, (subv 1 V0_0 (Int.toNat a1) (List.length a0.rest)), r11, (fun _ hN => (OffR.cut hN)), (fun _ hN => (OffRV.cut hN)), rfl, b_0, fB⟩
end Go.Proofs.Ytjhajfkfhdnciaa

/- rickyard/super.Get: its model, and that the Go function computes it: written by gen.py. -/
set_option linter.unusedVariables false
namespace Go.Proofs.Ytjhajfkfhdnciaa
open Go Go.Xw
def super_Get.s0 (fu : Nat) (t10 : Int × Int × (List Int) × Bool) : (Int × (List Int) × (List Int)) → Option (Sum ((List Int) × (List Int)) (Int × (List Int) × (List Int))) := fun s145 => (if (decide (s145.1 < t10.2.1)) = true then ((super_reader_next.f fu (⟨s145.2.2⟩ : S_super_reader) 2 : Option (Int × S_super_reader)).bind fun t171 => (if List.length s145.2.1 + List.length [t171.1] ≤ LIM then some (Sum.inr ((IntKind.i64.wrap (s145.1 + 1)), (s145.2.1 ++ [t171.1]), t171.2.rest)) else none)) else some (Sum.inl (s145.2.1, s145.2.2)))
def super_Get.f (fu : Nat) (a0 : List Int) : Option (S_api_Super × Bool) := ((block_Open.f fu a0 : Option (Int × Int × (List Int) × Bool)).bind fun t10 => (if (if (!t10.2.2.2) = true then true else (if (!decide (t10.1 = 7)) = true then true else (decide (t10.2.1 > 8)))) = true then some ((⟨(0 : Int), (⟨(⟨(0 : Int), (0 : Int), (0 : Int)⟩ : S_api_Geometry), (0 : Int), (0 : Int), (0 : Int)⟩ : S_api_Tickets), (0 : Int), []⟩ : S_api_Super), false) else ((super_reader_next.f fu (⟨t10.2.2.1⟩ : S_super_reader) 8 : Option (Int × S_super_reader)).bind fun t41 => ((super_reader_next.f fu t41.2 4 : Option (Int × S_super_reader)).bind fun t54 => ((super_reader_next.f fu t54.2 4 : Option (Int × S_super_reader)).bind fun t67 => ((super_reader_next.f fu t67.2 4 : Option (Int × S_super_reader)).bind fun t80 => ((super_reader_next.f fu t80.2 4 : Option (Int × S_super_reader)).bind fun t93 => ((super_reader_next.f fu t93.2 4 : Option (Int × S_super_reader)).bind fun t106 => ((super_reader_next.f fu t106.2 2 : Option (Int × S_super_reader)).bind fun t119 => ((super_reader_next.f fu t119.2 2 : Option (Int × S_super_reader)).bind fun t130 => ((loopM (super_Get.s0 fu t10) fu (0, [], t130.2.rest)).bind fun e146 => ((((super_Right.f fu (⟨t41.1, (⟨(⟨t54.1, t67.1, t80.1⟩ : S_api_Geometry), t119.1, t93.1, t106.1⟩ : S_api_Tickets), t130.1, e146.1⟩ : S_api_Super) : Option Bool).bind fun t215 => (if (!t215) = true then some (true) else ((octet_Noughts.f fu e146.2 0 (List.length e146.2 : Int) : Option Bool).bind fun t220 => some ((!t220))))) : Option Bool).bind fun x213 => (if x213 = true then some ((⟨(0 : Int), (⟨(⟨(0 : Int), (0 : Int), (0 : Int)⟩ : S_api_Geometry), (0 : Int), (0 : Int), (0 : Int)⟩ : S_api_Tickets), (0 : Int), []⟩ : S_api_Super), false) else some ((⟨t41.1, (⟨(⟨t54.1, t67.1, t80.1⟩ : S_api_Geometry), t119.1, t93.1, t106.1⟩ : S_api_Tickets), t130.1, e146.1⟩ : S_api_Super), true))))))))))))))
set_option maxRecDepth 100000 in
set_option maxHeartbeats 400000 in
theorem super_Get.ok (fu : Nat) (w : World) (a0 : List Int) (V0_0 : Value) (R0_0 : Rd (kI .u8) w V0_0 a0) (r : S_api_Super × Bool) (h : super_Get.f fu a0 = some r) :
    Calls Try.prog 87 (([V0_0] : List Value).toArray) w (fun e w' => ∃ v, e = .returned v ∧ ∃ u1 : Value, ∃ o2 : Own (kI .i64) 3 w' w.heap.size u1 r.1.Charts, v = .tuple #[aggV [Seg.cell (.int .i64 r.1.Epoch), Seg.cell (.int .i64 r.1.Tickets.Geometry.Blocks), Seg.cell (.int .i64 r.1.Tickets.Geometry.Slots), Seg.cell (.int .i64 r.1.Tickets.Geometry.Gens), Seg.cell (.int .i64 r.1.Tickets.Top), Seg.cell (.int .i64 r.1.Tickets.High), Seg.cell (.int .i64 r.1.Tickets.Free), Seg.cell (.int .i64 r.1.Dir), Seg.cell u1 o2.one], .bool r.2] ∧ Gr w w') := by
  unfold super_Get.f at h
  have fB : Gr w w := Fr.refl _ _
  refine calls_cw Try.func87 rfl Try.ntmps87 rfl ?_
  refine cw_seq ?_
  refine cw_region ?_
  refine ol_op (by exact opv_alloc (ss := [Seg.cell (.int .i64 (0 : Int)), Seg.cell (.int .i64 (0 : Int)), Seg.cell (.int .i64 (0 : Int)), Seg.cell (.int .i64 (0 : Int)), Seg.cell (.int .i64 (0 : Int)), Seg.cell (.int .i64 (0 : Int)), Seg.cell (.int .i64 (0 : Int)), Seg.cell (.int .i64 (0 : Int)), Seg.cell (.slice none 0 0) (by rfl)]) rfl ze120 rfl) rfl rfl rfl ?_
  rintro _ w9 ⟨G4, rfl, b5, q6, z7⟩
  have z7 := Nat.le_trans fB.size z7
  have fB := fB.gr q6
  refine ol_val (v := .bool false) (by exact xr_assign rfl rfl) rfl rfl rfl ?_
  refine ol_nil ?_
  refine cw_seq ?_
  refine cw_region ?_
  refine ol_val (v := V0_0) (by exact xr_move rfl rfl) rfl rfl rfl ?_
  obtain ⟨t10, k11, h⟩ := bs h
  refine ol_op (by exact opv_call rfl cal29 (ac rfl an) (block_Open.ok fu _ a0 V0_0 (R0_0.gr fB) _ k11)) rfl rfl rfl ?_
  rintro _ w16 ⟨u12, o13, rfl, q15⟩
  have o13 := Own.base o13 fB.size
  have b5 := b5.gr q15
  have fB := fB.gr q15
  refine ol_val (v := .tuple #[.int .i64 t10.1, .int .i64 t10.2.1, u12, .bool t10.2.2.2]) (by exact xr_move rfl rfl) rfl rfl rfl ?_
  refine ol_val (v := .int .i64 t10.1) (by exact xr_extract rfl rfl rfl) rfl rfl rfl ?_
  refine ol_val (v := .int .i64 t10.2.1) (by exact xr_extract rfl rfl rfl) rfl rfl rfl ?_
  refine ol_val (v := u12) (by exact xr_extract rfl rfl rfl) rfl rfl rfl ?_
  refine ol_val (v := .bool t10.2.2.2) (by exact xr_extract rfl rfl rfl) rfl rfl rfl ?_
  refine ol_val (v := .int .i64 t10.1) (by exact xr_assign rfl rfl) rfl rfl rfl ?_
  refine ol_val (v := .int .i64 t10.2.1) (by exact xr_assign rfl rfl) rfl rfl rfl ?_
  refine ol_val (v := u12) (by exact xr_assign rfl rfl) rfl rfl rfl ?_
  refine ol_val (v := .bool t10.2.2.2) (by exact xr_assign rfl rfl) rfl rfl rfl ?_
  refine ol_nil ?_
  refine cw_seq ?_
  refine cw_seq ?_
  refine cw_mid (fun ρ' w' => ρ' 2 = .pointer (some ⟨G4, 0, none⟩) ∧ ρ' 5 = .int .i64 t10.2.1 ∧ ρ' 6 = u12 ∧ ρ' 28 = .bool (if (!t10.2.2.2) = true then true else (if (!decide (t10.1 = 7)) = true then true else (decide (t10.2.1 > 8)))) ∧ w16 = w') ?_ ?_
  · skip
    refine cw_region ?_
    refine ol_val (v := .bool t10.2.2.2) (by exact xr_move rfl rfl) rfl rfl rfl ?_
    refine ol_val (v := .bool (!t10.2.2.2)) (by exact xr_not rfl rfl) rfl rfl rfl ?_
    refine ol_val (v := .bool (!t10.2.2.2)) (by exact xr_move rfl rfl) rfl rfl rfl ?_
    rcases bt (!t10.2.2.2) with c17 | c17
    · skip
      refine ol_gskip rfl rfl rfl rfl rfl c17 ?_
      refine ol_gskip rfl rfl rfl rfl rfl c17 ?_
      refine ol_val (v := .bool true) (by exact xr_pickT rfl rfl c17 rfl) rfl rfl rfl ?_
      refine ol_val (v := .bool true) (by exact xr_move rfl rfl) rfl rfl rfl ?_
      refine ol_gskip rfl rfl rfl rfl rfl rfl ?_
      refine ol_gskip rfl rfl rfl rfl rfl rfl ?_
      refine ol_val (v := .bool true) (by exact xr_pickT rfl rfl rfl rfl) rfl rfl rfl ?_
      refine ol_nil ?_
      refine thn_i ?_
      exact ⟨rfl, rfl, rfl, (rfl).trans (congrArg (fun z => (.bool z : Value)) (show true = (if (!t10.2.2.2) = true then true else (if (!decide (t10.1 = 7)) = true then true else (decide (t10.2.1 > 8)))) from by rw [ite_t c17])), rfl⟩
    · skip
      refine ol_gval (v := .int .i64 t10.1) (by exact xr_move rfl rfl) rfl rfl rfl rfl rfl c17 ?_
      refine ol_gval (v := .bool (!decide (t10.1 = 7))) (by exact xr_neI rfl Try.underlying3 rfl rfl rfl) rfl rfl rfl rfl rfl c17 ?_
      refine ol_val (v := .bool (!decide (t10.1 = 7))) (by exact xr_pickF rfl rfl c17 rfl) rfl rfl rfl ?_
      refine ol_val (v := .bool (!decide (t10.1 = 7))) (by exact xr_move rfl rfl) rfl rfl rfl ?_
      rcases bt (!decide (t10.1 = 7)) with c18 | c18
      · skip
        refine ol_gskip rfl rfl rfl rfl rfl c18 ?_
        refine ol_gskip rfl rfl rfl rfl rfl c18 ?_
        refine ol_val (v := .bool true) (by exact xr_pickT rfl rfl c18 rfl) rfl rfl rfl ?_
        refine ol_nil ?_
        refine thn_i ?_
        exact ⟨rfl, rfl, rfl, (rfl).trans (congrArg (fun z => (.bool z : Value)) (show true = (if (!t10.2.2.2) = true then true else (if (!decide (t10.1 = 7)) = true then true else (decide (t10.2.1 > 8)))) from by rw [ite_f c17, ite_t c18])), rfl⟩
      · skip
        refine ol_gval (v := .int .i64 t10.2.1) (by exact xr_move rfl rfl) rfl rfl rfl rfl rfl c18 ?_
        refine ol_gval (v := .bool (decide (t10.2.1 > 8))) (by exact xr_gtr rfl rfl rfl) rfl rfl rfl rfl rfl c18 ?_
        refine ol_val (v := .bool (decide (t10.2.1 > 8))) (by exact xr_pickF rfl rfl c18 rfl) rfl rfl rfl ?_
        refine ol_nil ?_
        refine thn_i ?_
        exact ⟨rfl, rfl, rfl, (rfl).trans (congrArg (fun z => (.bool z : Value)) (show (decide (t10.2.1 > 8)) = (if (!t10.2.2.2) = true then true else (if (!decide (t10.1 = 7)) = true then true else (decide (t10.2.1 > 8)))) from by rw [ite_f c17, ite_f c18])), rfl⟩
  · skip
    rintro ρ19 _ ⟨e2, e5, e6, e28, rfl⟩
    rcases is h with ⟨c20, h⟩ | ⟨c20, h⟩
    · refine cw_condT e28 c20 ?_
      refine cw_seq ?_
      refine cw_region ?_
      refine ol_val (v := aggV [Seg.cell (.int .i64 (0 : Int)), Seg.cell (.int .i64 (0 : Int)), Seg.cell (.int .i64 (0 : Int)), Seg.cell (.int .i64 (0 : Int)), Seg.cell (.int .i64 (0 : Int)), Seg.cell (.int .i64 (0 : Int)), Seg.cell (.int .i64 (0 : Int)), Seg.cell (.int .i64 (0 : Int)), Seg.cell (.slice none 0 0) (by rfl)]) (by exact xr_build (vals := []) rfl trivial (bl120_ _)) rfl rfl rfl ?_
      refine ol_op0 (by exact opv_store (ss' := [Seg.cell (.int .i64 (0 : Int)), Seg.cell (.int .i64 (0 : Int)), Seg.cell (.int .i64 (0 : Int)), Seg.cell (.int .i64 (0 : Int)), Seg.cell (.int .i64 (0 : Int)), Seg.cell (.int .i64 (0 : Int)), Seg.cell (.int .i64 (0 : Int)), Seg.cell (.int .i64 (0 : Int)), Seg.cell (.slice none 0 0) (by rfl)]) (xs := cellsOf [Seg.cell (.int .i64 (0 : Int)), Seg.cell (.int .i64 (0 : Int)), Seg.cell (.int .i64 (0 : Int)), Seg.cell (.int .i64 (0 : Int)), Seg.cell (.int .i64 (0 : Int)), Seg.cell (.int .i64 (0 : Int)), Seg.cell (.int .i64 (0 : Int)), Seg.cell (.int .i64 (0 : Int)), Seg.cell (.slice none 0 0) (by rfl)]) rfl sz120 e2 rfl rfl (len_cellsOf _) (one_cellsOf _) b5 (Spl.segs _ 0 9 [Seg.cell (.int .i64 (0 : Int)), Seg.cell (.int .i64 (0 : Int)), Seg.cell (.int .i64 (0 : Int)), Seg.cell (.int .i64 (0 : Int)), Seg.cell (.int .i64 (0 : Int)), Seg.cell (.int .i64 (0 : Int)), Seg.cell (.int .i64 (0 : Int)), Seg.cell (.int .i64 (0 : Int)), Seg.cell (.slice none 0 0) (by rfl)] rfl rfl)) rfl rfl ?_
      rintro _ w22 ⟨b5, q21⟩
      have fB := fB.wr q21 z7
      refine ol_val (v := .bool false) (by exact xr_assign rfl rfl) rfl rfl rfl ?_
      refine ol_nil ?_
      refine cw_ret ?_
      repeat (first | with_reducible refine thn_r ?_ | with_reducible refine blk_r ?_)
      obtain rfl := Option.some.inj h
      refine fin_cell_tmp Try.results87 e2 ag120 sz120 b5 (by rfl) rfl ?_
      exact ⟨_, rfl, (.slice none 0 0), Own.nil _ _ _ _, rfl, fB⟩
    · refine cw_condF e28 c20 ?_
      refine cw_skip ?_
      refine cw_seq ?_
      refine cw_region ?_
      refine ol_op (by exact opv_alloc (ss := [Seg.cell (.int .i64 (0 : Int)), Seg.cell (.int .i64 (0 : Int)), Seg.cell (.int .i64 (0 : Int)), Seg.cell (.int .i64 (0 : Int)), Seg.cell (.int .i64 (0 : Int)), Seg.cell (.int .i64 (0 : Int)), Seg.cell (.int .i64 (0 : Int)), Seg.cell (.int .i64 (0 : Int)), Seg.cell (.slice none 0 0) (by rfl)]) rfl ze120 rfl) rfl rfl rfl ?_
      rintro _ w28 ⟨G23, rfl, b24, q25, z26⟩
      have n29 := b5.ne z26
      have z26 := Nat.le_trans fB.size z26
      have b5 := b5.gr q25
      have o13 := o13.gr q25
      have fB := fB.gr q25
      refine ol_nil ?_
      refine cw_seq ?_
      refine cw_region ?_
      refine ol_val (v := u12) (by exact xr_move rfl e6) rfl rfl rfl ?_
      refine ol_val (v := aggV [Seg.cell u12 o13.one]) (by exact xr_buildS (vals := [(0, u12)]) (res := [Seg.cell u12 o13.one]) rfl ⟨rfl, rfl, trivial⟩ Try.underlying149 ze149 pl149 (fl_cons (xs := cellsOf [Seg.cell u12 o13.one]) (cs' := cellsOf [Seg.cell u12 o13.one]) rfl (cells_one o13.one) (len_cellsOf _) (Spl.segs [Seg.cell (.slice none 0 0) (by rfl)] 0 1 [Seg.cell u12 o13.one] rfl rfl) fl_nil)) rfl rfl rfl ?_
      refine ol_op (by exact opv_alloc (ss := [Seg.cell (.slice none 0 0) (by rfl)]) rfl ze149 rfl) rfl rfl rfl ?_
      rintro _ w35 ⟨G30, rfl, b31, q32, z33⟩
      have n36 := b5.ne z33
      have n37 := b24.ne z33
      have z33 := Nat.le_trans fB.size z33
      have b5 := b5.gr q32
      have b24 := b24.gr q32
      have o13 := o13.gr q32
      have fB := fB.gr q32
      have f39 := off_ty b31 o13 (by decide)
      refine ol_op0 (by exact opv_store (ss' := [Seg.cell u12 o13.one]) (xs := cellsOf [Seg.cell u12 o13.one]) rfl sz149 rfl rfl rfl (len_cellsOf _) (one_cellsOf _) b31 (Spl.segs _ 0 1 [Seg.cell u12 o13.one] rfl rfl)) rfl rfl ?_
      rintro _ w40 ⟨b31, q38⟩
      have b5 := b5.wr q38 n36
      have b24 := b24.wr q38 n37
      have o13 := o13.wr q38 f39
      have fB := fB.wr q38 z33
      refine ol_nil ?_
      refine cw_seq ?_
      refine cw_region ?_
      obtain ⟨t41, k42, h⟩ := bs h
      have a48 := (OffR.own o13 (off_ty b5 o13 (by decide)))
      have a49 := (OffR.own o13 (off_ty b24 o13 (by decide)))
      have a50 := (OffR.own o13 (off_ty b31 o13 (by decide)))
      refine ol_op (by exact opv_call rfl cal123 (ac rfl (ac rfl an)) (super_reader_next.ok fu _ (⟨t10.2.2.1⟩ : S_super_reader) G30 u12 o13.rd (OffR.own o13 (off_ty b31 o13 (by decide))) b31 8 _ k42)) rfl rfl rfl ?_
      rintro _ w51 ⟨u44, r45, n46, n47, rfl, b31, q43⟩
      have b5 := b5.wr q43 n36
      have b24 := b24.wr q43 n37
      have fB := fB.wr q43 z33
      refine ol_val (v := .pointer (some ⟨G23, 0, none⟩)) (by exact xr_fieldAddr (p := 0) (q := 0) rfl fl120_0 rfl) rfl rfl rfl ?_
      refine ol_op0 (by exact opv_store (ss' := [Seg.cell (.int .i64 t41.1), Seg.cell (.int .i64 (0 : Int)), Seg.cell (.int .i64 (0 : Int)), Seg.cell (.int .i64 (0 : Int)), Seg.cell (.int .i64 (0 : Int)), Seg.cell (.int .i64 (0 : Int)), Seg.cell (.int .i64 (0 : Int)), Seg.cell (.int .i64 (0 : Int)), Seg.cell (.slice none 0 0) (by rfl)]) (xs := cellsOf [Seg.cell (.int .i64 t41.1)]) rfl sz3 rfl rfl rfl (len_cellsOf _) (one_cellsOf _) b24 (Spl.segs _ 0 1 [Seg.cell (.int .i64 t41.1)] rfl rfl)) rfl rfl ?_
      rintro _ w53 ⟨b24, q52⟩
      have b5 := b5.wr q52 n29
      have b31 := b31.wr q52 n37.symm
      have r45 := r45.wr q52 (n46 _ a49)
      have fB := fB.wr q52 z26
      refine ol_nil ?_
      refine cw_seq ?_
      refine cw_seq ?_
      refine cw_region ?_
      refine ol_val (v := .pointer (some ⟨G23, 1, none⟩)) (by exact xr_fieldAddr (p := 0) (q := 1) rfl fl120_1 rfl) rfl rfl rfl ?_
      refine ol_val (v := .pointer (some ⟨G23, 1, none⟩)) (by exact xr_fieldAddr (p := 1) (q := 0) rfl fl118_0 rfl) rfl rfl rfl ?_
      refine ol_val (v := .pointer (some ⟨G23, 1, none⟩)) (by exact xr_fieldAddr (p := 1) (q := 0) rfl fl116_0 rfl) rfl rfl rfl ?_
      refine ol_val (v := .pointer (some ⟨G23, 1, none⟩)) (by exact xr_fieldAddr (p := 0) (q := 1) rfl fl120_1 rfl) rfl rfl rfl ?_
      refine ol_val (v := .pointer (some ⟨G23, 1, none⟩)) (by exact xr_fieldAddr (p := 1) (q := 0) rfl fl118_0 rfl) rfl rfl rfl ?_
      refine ol_val (v := .pointer (some ⟨G23, 2, none⟩)) (by exact xr_fieldAddr (p := 1) (q := 1) rfl fl116_1 rfl) rfl rfl rfl ?_
      refine ol_val (v := .pointer (some ⟨G23, 1, none⟩)) (by exact xr_fieldAddr (p := 0) (q := 1) rfl fl120_1 rfl) rfl rfl rfl ?_
      refine ol_val (v := .pointer (some ⟨G23, 1, none⟩)) (by exact xr_fieldAddr (p := 1) (q := 0) rfl fl118_0 rfl) rfl rfl rfl ?_
      refine ol_val (v := .pointer (some ⟨G23, 3, none⟩)) (by exact xr_fieldAddr (p := 1) (q := 2) rfl fl116_2 rfl) rfl rfl rfl ?_
      refine ol_val (v := .pointer (some ⟨G23, 1, none⟩)) (by exact xr_fieldAddr (p := 0) (q := 1) rfl fl120_1 rfl) rfl rfl rfl ?_
      refine ol_val (v := .pointer (some ⟨G23, 5, none⟩)) (by exact xr_fieldAddr (p := 1) (q := 4) rfl fl118_2 rfl) rfl rfl rfl ?_
      refine ol_val (v := .pointer (some ⟨G23, 1, none⟩)) (by exact xr_fieldAddr (p := 0) (q := 1) rfl fl120_1 rfl) rfl rfl rfl ?_
      refine ol_val (v := .pointer (some ⟨G23, 6, none⟩)) (by exact xr_fieldAddr (p := 1) (q := 5) rfl fl118_3 rfl) rfl rfl rfl ?_
      refine ol_val (v := aggV [Seg.cell (.pointer (some ⟨G23, 1, none⟩)), Seg.cell (.pointer (some ⟨G23, 2, none⟩)), Seg.cell (.pointer (some ⟨G23, 3, none⟩)), Seg.cell (.pointer (some ⟨G23, 5, none⟩)), Seg.cell (.pointer (some ⟨G23, 6, none⟩))]) (by exact xr_buildA (vals := [(0, .pointer (some ⟨G23, 1, none⟩)), (1, .pointer (some ⟨G23, 2, none⟩)), (2, .pointer (some ⟨G23, 3, none⟩)), (3, .pointer (some ⟨G23, 5, none⟩)), (4, .pointer (some ⟨G23, 6, none⟩))]) (res := [Seg.cell (.pointer (some ⟨G23, 1, none⟩)), Seg.cell (.pointer (some ⟨G23, 2, none⟩)), Seg.cell (.pointer (some ⟨G23, 3, none⟩)), Seg.cell (.pointer (some ⟨G23, 5, none⟩)), Seg.cell (.pointer (some ⟨G23, 6, none⟩))]) rfl ⟨rfl, rfl, ⟨rfl, rfl, ⟨rfl, rfl, ⟨rfl, rfl, ⟨rfl, rfl, trivial⟩⟩⟩⟩⟩ Try.underlying152 ze152 sz151 (fl_cons (xs := cellsOf [Seg.cell (.pointer (some ⟨G23, 1, none⟩))]) (cs' := cellsOf [Seg.cell (.pointer (some ⟨G23, 1, none⟩)), Seg.cell (.pointer none), Seg.cell (.pointer none), Seg.cell (.pointer none), Seg.cell (.pointer none)]) rfl rfl (len_cellsOf _) (Spl.segs [Seg.cell (.pointer none), Seg.cell (.pointer none), Seg.cell (.pointer none), Seg.cell (.pointer none), Seg.cell (.pointer none)] 0 1 [Seg.cell (.pointer (some ⟨G23, 1, none⟩))] rfl rfl) (fl_cons (xs := cellsOf [Seg.cell (.pointer (some ⟨G23, 2, none⟩))]) (cs' := cellsOf [Seg.cell (.pointer (some ⟨G23, 1, none⟩)), Seg.cell (.pointer (some ⟨G23, 2, none⟩)), Seg.cell (.pointer none), Seg.cell (.pointer none), Seg.cell (.pointer none)]) rfl rfl (len_cellsOf _) (Spl.segs [Seg.cell (.pointer (some ⟨G23, 1, none⟩)), Seg.cell (.pointer none), Seg.cell (.pointer none), Seg.cell (.pointer none), Seg.cell (.pointer none)] 1 1 [Seg.cell (.pointer (some ⟨G23, 2, none⟩))] rfl rfl) (fl_cons (xs := cellsOf [Seg.cell (.pointer (some ⟨G23, 3, none⟩))]) (cs' := cellsOf [Seg.cell (.pointer (some ⟨G23, 1, none⟩)), Seg.cell (.pointer (some ⟨G23, 2, none⟩)), Seg.cell (.pointer (some ⟨G23, 3, none⟩)), Seg.cell (.pointer none), Seg.cell (.pointer none)]) rfl rfl (len_cellsOf _) (Spl.segs [Seg.cell (.pointer (some ⟨G23, 1, none⟩)), Seg.cell (.pointer (some ⟨G23, 2, none⟩)), Seg.cell (.pointer none), Seg.cell (.pointer none), Seg.cell (.pointer none)] 2 1 [Seg.cell (.pointer (some ⟨G23, 3, none⟩))] rfl rfl) (fl_cons (xs := cellsOf [Seg.cell (.pointer (some ⟨G23, 5, none⟩))]) (cs' := cellsOf [Seg.cell (.pointer (some ⟨G23, 1, none⟩)), Seg.cell (.pointer (some ⟨G23, 2, none⟩)), Seg.cell (.pointer (some ⟨G23, 3, none⟩)), Seg.cell (.pointer (some ⟨G23, 5, none⟩)), Seg.cell (.pointer none)]) rfl rfl (len_cellsOf _) (Spl.segs [Seg.cell (.pointer (some ⟨G23, 1, none⟩)), Seg.cell (.pointer (some ⟨G23, 2, none⟩)), Seg.cell (.pointer (some ⟨G23, 3, none⟩)), Seg.cell (.pointer none), Seg.cell (.pointer none)] 3 1 [Seg.cell (.pointer (some ⟨G23, 5, none⟩))] rfl rfl) (fl_cons (xs := cellsOf [Seg.cell (.pointer (some ⟨G23, 6, none⟩))]) (cs' := cellsOf [Seg.cell (.pointer (some ⟨G23, 1, none⟩)), Seg.cell (.pointer (some ⟨G23, 2, none⟩)), Seg.cell (.pointer (some ⟨G23, 3, none⟩)), Seg.cell (.pointer (some ⟨G23, 5, none⟩)), Seg.cell (.pointer (some ⟨G23, 6, none⟩))]) rfl rfl (len_cellsOf _) (Spl.segs [Seg.cell (.pointer (some ⟨G23, 1, none⟩)), Seg.cell (.pointer (some ⟨G23, 2, none⟩)), Seg.cell (.pointer (some ⟨G23, 3, none⟩)), Seg.cell (.pointer (some ⟨G23, 5, none⟩)), Seg.cell (.pointer none)] 4 1 [Seg.cell (.pointer (some ⟨G23, 6, none⟩))] rfl rfl) fl_nil)))))) rfl rfl rfl ?_
      refine ol_val (v := .int .i64 0) (by exact xr_move rfl rfl) rfl rfl rfl ?_
      refine ol_nil ?_
      refine cw_block ?_
      refine cw_rounds ?_
      refine lp_round ?_
      refine cw_seq ?_
      refine cw_region ?_
      refine ol_val (v := .bool true) (by exact xr_lss (k := .i64) (a := 0) (b := 5) rfl rfl rfl) rfl rfl rfl ?_
      refine ol_nil ?_
      refine cw_seq ?_
      refine cw_condT rfl rfl ?_
      refine cw_skip ?_
      refine cw_seq ?_
      refine cw_block ?_
      refine cw_seq ?_
      refine cw_region ?_
      refine ol_val (v := .pointer (some ⟨G23, 1, none⟩)) (by exact xr_indexSeg (i := 0) (ss := [Seg.cell (.pointer (some ⟨G23, 1, none⟩)), Seg.cell (.pointer (some ⟨G23, 2, none⟩)), Seg.cell (.pointer (some ⟨G23, 3, none⟩)), Seg.cell (.pointer (some ⟨G23, 5, none⟩)), Seg.cell (.pointer (some ⟨G23, 6, none⟩))]) (v := .pointer (some ⟨G23, 1, none⟩)) rfl Try.underlying152 ag151 sz151 rfl rfl rfl rfl) rfl rfl rfl ?_
      refine ol_val (v := .pointer (some ⟨G23, 1, none⟩)) (by exact xr_assign rfl rfl) rfl rfl rfl ?_
      refine ol_nil ?_
      refine cw_region ?_
      refine ol_val (v := .pointer (some ⟨G23, 1, none⟩)) (by exact xr_move rfl rfl) rfl rfl rfl ?_
      obtain ⟨t54, k55, h⟩ := bs h
      have a61 := (n46 _ a48)
      have a62 := (n46 _ a49)
      have a63 := (n46 _ a50)
      refine ol_op (by exact opv_call rfl cal123 (ac rfl (ac rfl an)) (super_reader_next.ok fu _ t41.2 G30 u44 r45 (n46 _ a50) b31 4 _ k55)) rfl rfl rfl ?_
      rintro _ w64 ⟨u57, r58, n59, n60, rfl, b31, q56⟩
      have b5 := b5.wr q56 n36
      have b24 := b24.wr q56 n37
      have fB := fB.wr q56 z33
      refine ol_val (v := .pointer (some ⟨G23, 1, none⟩)) (by exact xr_nilCheck rfl rfl) rfl rfl rfl ?_
      refine ol_op0 (by exact opv_store (ss' := [Seg.cell (.int .i64 t41.1), Seg.cell (.int .i64 t54.1), Seg.cell (.int .i64 (0 : Int)), Seg.cell (.int .i64 (0 : Int)), Seg.cell (.int .i64 (0 : Int)), Seg.cell (.int .i64 (0 : Int)), Seg.cell (.int .i64 (0 : Int)), Seg.cell (.int .i64 (0 : Int)), Seg.cell (.slice none 0 0) (by rfl)]) (xs := cellsOf [Seg.cell (.int .i64 t54.1)]) rfl sz3 rfl rfl rfl (len_cellsOf _) (one_cellsOf _) b24 (Spl.segs _ 1 1 [Seg.cell (.int .i64 t54.1)] rfl rfl)) rfl rfl ?_
      rintro _ w66 ⟨b24, q65⟩
      have b5 := b5.wr q65 n29
      have b31 := b31.wr q65 n37.symm
      have r58 := r58.wr q65 (n59 _ a62)
      have fB := fB.wr q65 z26
      refine ol_nil ?_
      refine blk_i ?_
      refine cw_region ?_
      refine ol_val (v := .int .i64 1) (by exact xr_add (k := .i64) (a := 0) (b := 1) rfl rfl rfl) rfl rfl rfl ?_
      refine ol_val (v := .int .i64 1) (by exact xr_move rfl rfl) rfl rfl rfl ?_
      refine ol_nil ?_
      refine thn_i ?_
      refine lp_round ?_
      refine cw_seq ?_
      refine cw_region ?_
      refine ol_val (v := .bool true) (by exact xr_lss (k := .i64) (a := 1) (b := 5) rfl rfl rfl) rfl rfl rfl ?_
      refine ol_nil ?_
      refine cw_seq ?_
      refine cw_condT rfl rfl ?_
      refine cw_skip ?_
      refine cw_seq ?_
      refine cw_block ?_
      refine cw_seq ?_
      refine cw_region ?_
      refine ol_val (v := .pointer (some ⟨G23, 2, none⟩)) (by exact xr_indexSeg (i := 1) (ss := [Seg.cell (.pointer (some ⟨G23, 1, none⟩)), Seg.cell (.pointer (some ⟨G23, 2, none⟩)), Seg.cell (.pointer (some ⟨G23, 3, none⟩)), Seg.cell (.pointer (some ⟨G23, 5, none⟩)), Seg.cell (.pointer (some ⟨G23, 6, none⟩))]) (v := .pointer (some ⟨G23, 2, none⟩)) rfl Try.underlying152 ag151 sz151 rfl rfl rfl rfl) rfl rfl rfl ?_
      refine ol_val (v := .pointer (some ⟨G23, 2, none⟩)) (by exact xr_assign rfl rfl) rfl rfl rfl ?_
      refine ol_nil ?_
      refine cw_region ?_
      refine ol_val (v := .pointer (some ⟨G23, 2, none⟩)) (by exact xr_move rfl rfl) rfl rfl rfl ?_
      obtain ⟨t67, k68, h⟩ := bs h
      have a74 := (n59 _ a61)
      have a75 := (n59 _ a62)
      have a76 := (n59 _ a63)
      refine ol_op (by exact opv_call rfl cal123 (ac rfl (ac rfl an)) (super_reader_next.ok fu _ t54.2 G30 u57 r58 (n59 _ a63) b31 4 _ k68)) rfl rfl rfl ?_
      rintro _ w77 ⟨u70, r71, n72, n73, rfl, b31, q69⟩
      have b5 := b5.wr q69 n36
      have b24 := b24.wr q69 n37
      have fB := fB.wr q69 z33
      refine ol_val (v := .pointer (some ⟨G23, 2, none⟩)) (by exact xr_nilCheck rfl rfl) rfl rfl rfl ?_
      refine ol_op0 (by exact opv_store (ss' := [Seg.cell (.int .i64 t41.1), Seg.cell (.int .i64 t54.1), Seg.cell (.int .i64 t67.1), Seg.cell (.int .i64 (0 : Int)), Seg.cell (.int .i64 (0 : Int)), Seg.cell (.int .i64 (0 : Int)), Seg.cell (.int .i64 (0 : Int)), Seg.cell (.int .i64 (0 : Int)), Seg.cell (.slice none 0 0) (by rfl)]) (xs := cellsOf [Seg.cell (.int .i64 t67.1)]) rfl sz3 rfl rfl rfl (len_cellsOf _) (one_cellsOf _) b24 (Spl.segs _ 2 1 [Seg.cell (.int .i64 t67.1)] rfl rfl)) rfl rfl ?_
      rintro _ w79 ⟨b24, q78⟩
      have b5 := b5.wr q78 n29
      have b31 := b31.wr q78 n37.symm
      have r71 := r71.wr q78 (n72 _ a75)
      have fB := fB.wr q78 z26
      refine ol_nil ?_
      refine blk_i ?_
      refine cw_region ?_
      refine ol_val (v := .int .i64 2) (by exact xr_add (k := .i64) (a := 1) (b := 1) rfl rfl rfl) rfl rfl rfl ?_
      refine ol_val (v := .int .i64 2) (by exact xr_move rfl rfl) rfl rfl rfl ?_
      refine ol_nil ?_
      refine thn_i ?_
      refine lp_round ?_
      refine cw_seq ?_
      refine cw_region ?_
      refine ol_val (v := .bool true) (by exact xr_lss (k := .i64) (a := 2) (b := 5) rfl rfl rfl) rfl rfl rfl ?_
      refine ol_nil ?_
      refine cw_seq ?_
      refine cw_condT rfl rfl ?_
      refine cw_skip ?_
      refine cw_seq ?_
      refine cw_block ?_
      refine cw_seq ?_
      refine cw_region ?_
      refine ol_val (v := .pointer (some ⟨G23, 3, none⟩)) (by exact xr_indexSeg (i := 2) (ss := [Seg.cell (.pointer (some ⟨G23, 1, none⟩)), Seg.cell (.pointer (some ⟨G23, 2, none⟩)), Seg.cell (.pointer (some ⟨G23, 3, none⟩)), Seg.cell (.pointer (some ⟨G23, 5, none⟩)), Seg.cell (.pointer (some ⟨G23, 6, none⟩))]) (v := .pointer (some ⟨G23, 3, none⟩)) rfl Try.underlying152 ag151 sz151 rfl rfl rfl rfl) rfl rfl rfl ?_
      refine ol_val (v := .pointer (some ⟨G23, 3, none⟩)) (by exact xr_assign rfl rfl) rfl rfl rfl ?_
      refine ol_nil ?_
      refine cw_region ?_
      refine ol_val (v := .pointer (some ⟨G23, 3, none⟩)) (by exact xr_move rfl rfl) rfl rfl rfl ?_
      obtain ⟨t80, k81, h⟩ := bs h
      have a87 := (n72 _ a74)
      have a88 := (n72 _ a75)
      have a89 := (n72 _ a76)
      refine ol_op (by exact opv_call rfl cal123 (ac rfl (ac rfl an)) (super_reader_next.ok fu _ t67.2 G30 u70 r71 (n72 _ a76) b31 4 _ k81)) rfl rfl rfl ?_
      rintro _ w90 ⟨u83, r84, n85, n86, rfl, b31, q82⟩
      have b5 := b5.wr q82 n36
      have b24 := b24.wr q82 n37
      have fB := fB.wr q82 z33
      refine ol_val (v := .pointer (some ⟨G23, 3, none⟩)) (by exact xr_nilCheck rfl rfl) rfl rfl rfl ?_
      refine ol_op0 (by exact opv_store (ss' := [Seg.cell (.int .i64 t41.1), Seg.cell (.int .i64 t54.1), Seg.cell (.int .i64 t67.1), Seg.cell (.int .i64 t80.1), Seg.cell (.int .i64 (0 : Int)), Seg.cell (.int .i64 (0 : Int)), Seg.cell (.int .i64 (0 : Int)), Seg.cell (.int .i64 (0 : Int)), Seg.cell (.slice none 0 0) (by rfl)]) (xs := cellsOf [Seg.cell (.int .i64 t80.1)]) rfl sz3 rfl rfl rfl (len_cellsOf _) (one_cellsOf _) b24 (Spl.segs _ 3 1 [Seg.cell (.int .i64 t80.1)] rfl rfl)) rfl rfl ?_
      rintro _ w92 ⟨b24, q91⟩
      have b5 := b5.wr q91 n29
      have b31 := b31.wr q91 n37.symm
      have r84 := r84.wr q91 (n85 _ a88)
      have fB := fB.wr q91 z26
      refine ol_nil ?_
      refine blk_i ?_
      refine cw_region ?_
      refine ol_val (v := .int .i64 3) (by exact xr_add (k := .i64) (a := 2) (b := 1) rfl rfl rfl) rfl rfl rfl ?_
      refine ol_val (v := .int .i64 3) (by exact xr_move rfl rfl) rfl rfl rfl ?_
      refine ol_nil ?_
      refine thn_i ?_
      refine lp_round ?_
      refine cw_seq ?_
      refine cw_region ?_
      refine ol_val (v := .bool true) (by exact xr_lss (k := .i64) (a := 3) (b := 5) rfl rfl rfl) rfl rfl rfl ?_
      refine ol_nil ?_
      refine cw_seq ?_
      refine cw_condT rfl rfl ?_
      refine cw_skip ?_
      refine cw_seq ?_
      refine cw_block ?_
      refine cw_seq ?_
      refine cw_region ?_
      refine ol_val (v := .pointer (some ⟨G23, 5, none⟩)) (by exact xr_indexSeg (i := 3) (ss := [Seg.cell (.pointer (some ⟨G23, 1, none⟩)), Seg.cell (.pointer (some ⟨G23, 2, none⟩)), Seg.cell (.pointer (some ⟨G23, 3, none⟩)), Seg.cell (.pointer (some ⟨G23, 5, none⟩)), Seg.cell (.pointer (some ⟨G23, 6, none⟩))]) (v := .pointer (some ⟨G23, 5, none⟩)) rfl Try.underlying152 ag151 sz151 rfl rfl rfl rfl) rfl rfl rfl ?_
      refine ol_val (v := .pointer (some ⟨G23, 5, none⟩)) (by exact xr_assign rfl rfl) rfl rfl rfl ?_
      refine ol_nil ?_
      refine cw_region ?_
      refine ol_val (v := .pointer (some ⟨G23, 5, none⟩)) (by exact xr_move rfl rfl) rfl rfl rfl ?_
      obtain ⟨t93, k94, h⟩ := bs h
      have a100 := (n85 _ a87)
      have a101 := (n85 _ a88)
      have a102 := (n85 _ a89)
      refine ol_op (by exact opv_call rfl cal123 (ac rfl (ac rfl an)) (super_reader_next.ok fu _ t80.2 G30 u83 r84 (n85 _ a89) b31 4 _ k94)) rfl rfl rfl ?_
      rintro _ w103 ⟨u96, r97, n98, n99, rfl, b31, q95⟩
      have b5 := b5.wr q95 n36
      have b24 := b24.wr q95 n37
      have fB := fB.wr q95 z33
      refine ol_val (v := .pointer (some ⟨G23, 5, none⟩)) (by exact xr_nilCheck rfl rfl) rfl rfl rfl ?_
      refine ol_op0 (by exact opv_store (ss' := [Seg.cell (.int .i64 t41.1), Seg.cell (.int .i64 t54.1), Seg.cell (.int .i64 t67.1), Seg.cell (.int .i64 t80.1), Seg.cell (.int .i64 (0 : Int)), Seg.cell (.int .i64 t93.1), Seg.cell (.int .i64 (0 : Int)), Seg.cell (.int .i64 (0 : Int)), Seg.cell (.slice none 0 0) (by rfl)]) (xs := cellsOf [Seg.cell (.int .i64 t93.1)]) rfl sz3 rfl rfl rfl (len_cellsOf _) (one_cellsOf _) b24 (Spl.segs _ 5 1 [Seg.cell (.int .i64 t93.1)] rfl rfl)) rfl rfl ?_
      rintro _ w105 ⟨b24, q104⟩
      have b5 := b5.wr q104 n29
      have b31 := b31.wr q104 n37.symm
      have r97 := r97.wr q104 (n98 _ a101)
      have fB := fB.wr q104 z26
      refine ol_nil ?_
      refine blk_i ?_
      refine cw_region ?_
      refine ol_val (v := .int .i64 4) (by exact xr_add (k := .i64) (a := 3) (b := 1) rfl rfl rfl) rfl rfl rfl ?_
      refine ol_val (v := .int .i64 4) (by exact xr_move rfl rfl) rfl rfl rfl ?_
      refine ol_nil ?_
      refine thn_i ?_
      refine lp_round ?_
      refine cw_seq ?_
      refine cw_region ?_
      refine ol_val (v := .bool true) (by exact xr_lss (k := .i64) (a := 4) (b := 5) rfl rfl rfl) rfl rfl rfl ?_
      refine ol_nil ?_
      refine cw_seq ?_
      refine cw_condT rfl rfl ?_
      refine cw_skip ?_
      refine cw_seq ?_
      refine cw_block ?_
      refine cw_seq ?_
      refine cw_region ?_
      refine ol_val (v := .pointer (some ⟨G23, 6, none⟩)) (by exact xr_indexSeg (i := 4) (ss := [Seg.cell (.pointer (some ⟨G23, 1, none⟩)), Seg.cell (.pointer (some ⟨G23, 2, none⟩)), Seg.cell (.pointer (some ⟨G23, 3, none⟩)), Seg.cell (.pointer (some ⟨G23, 5, none⟩)), Seg.cell (.pointer (some ⟨G23, 6, none⟩))]) (v := .pointer (some ⟨G23, 6, none⟩)) rfl Try.underlying152 ag151 sz151 rfl rfl rfl rfl) rfl rfl rfl ?_
      refine ol_val (v := .pointer (some ⟨G23, 6, none⟩)) (by exact xr_assign rfl rfl) rfl rfl rfl ?_
      refine ol_nil ?_
      refine cw_region ?_
      refine ol_val (v := .pointer (some ⟨G23, 6, none⟩)) (by exact xr_move rfl rfl) rfl rfl rfl ?_
      obtain ⟨t106, k107, h⟩ := bs h
      have a113 := (n98 _ a100)
      have a114 := (n98 _ a101)
      have a115 := (n98 _ a102)
      refine ol_op (by exact opv_call rfl cal123 (ac rfl (ac rfl an)) (super_reader_next.ok fu _ t93.2 G30 u96 r97 (n98 _ a102) b31 4 _ k107)) rfl rfl rfl ?_
      rintro _ w116 ⟨u109, r110, n111, n112, rfl, b31, q108⟩
      have b5 := b5.wr q108 n36
      have b24 := b24.wr q108 n37
      have fB := fB.wr q108 z33
      refine ol_val (v := .pointer (some ⟨G23, 6, none⟩)) (by exact xr_nilCheck rfl rfl) rfl rfl rfl ?_
      refine ol_op0 (by exact opv_store (ss' := [Seg.cell (.int .i64 t41.1), Seg.cell (.int .i64 t54.1), Seg.cell (.int .i64 t67.1), Seg.cell (.int .i64 t80.1), Seg.cell (.int .i64 (0 : Int)), Seg.cell (.int .i64 t93.1), Seg.cell (.int .i64 t106.1), Seg.cell (.int .i64 (0 : Int)), Seg.cell (.slice none 0 0) (by rfl)]) (xs := cellsOf [Seg.cell (.int .i64 t106.1)]) rfl sz3 rfl rfl rfl (len_cellsOf _) (one_cellsOf _) b24 (Spl.segs _ 6 1 [Seg.cell (.int .i64 t106.1)] rfl rfl)) rfl rfl ?_
      rintro _ w118 ⟨b24, q117⟩
      have b5 := b5.wr q117 n29
      have b31 := b31.wr q117 n37.symm
      have r110 := r110.wr q117 (n111 _ a114)
      have fB := fB.wr q117 z26
      refine ol_nil ?_
      refine blk_i ?_
      refine cw_region ?_
      refine ol_val (v := .int .i64 5) (by exact xr_add (k := .i64) (a := 4) (b := 1) rfl rfl rfl) rfl rfl rfl ?_
      refine ol_val (v := .int .i64 5) (by exact xr_move rfl rfl) rfl rfl rfl ?_
      refine ol_nil ?_
      refine thn_i ?_
      refine lp_round ?_
      refine cw_seq ?_
      refine cw_region ?_
      refine ol_val (v := .bool false) (by exact xr_lss (k := .i64) (a := 5) (b := 5) rfl rfl rfl) rfl rfl rfl ?_
      refine ol_nil ?_
      refine cw_seq ?_
      refine cw_condF rfl rfl ?_
      refine cw_exit ?_
      repeat (first | with_reducible refine thn_e ?_ | with_reducible refine blk_e rfl ?_)
      refine blk_h ?_
      refine cw_seq ?_
      refine cw_region ?_
      obtain ⟨t119, k120, h⟩ := bs h
      have a126 := (n111 _ a113)
      have a127 := (n111 _ a114)
      have a128 := (n111 _ a115)
      refine ol_op (by exact opv_call rfl cal123 (ac rfl (ac rfl an)) (super_reader_next.ok fu _ t106.2 G30 u109 r110 (n111 _ a115) b31 2 _ k120)) rfl rfl rfl ?_
      rintro _ w129 ⟨u122, r123, n124, n125, rfl, b31, q121⟩
      have b5 := b5.wr q121 n36
      have b24 := b24.wr q121 n37
      have fB := fB.wr q121 z33
      obtain ⟨t130, k131, h⟩ := bs h
      have a137 := (n124 _ a126)
      have a138 := (n124 _ a127)
      have a139 := (n124 _ a128)
      refine ol_op (by exact opv_call rfl cal123 (ac rfl (ac rfl an)) (super_reader_next.ok fu _ t119.2 G30 u122 r123 (n124 _ a128) b31 2 _ k131)) rfl rfl rfl ?_
      rintro _ w140 ⟨u133, r134, n135, n136, rfl, b31, q132⟩
      have b5 := b5.wr q132 n36
      have b24 := b24.wr q132 n37
      have fB := fB.wr q132 z33
      refine ol_val (v := .pointer (some ⟨G23, 1, none⟩)) (by exact xr_fieldAddr (p := 0) (q := 1) rfl fl120_1 rfl) rfl rfl rfl ?_
      refine ol_val (v := .pointer (some ⟨G23, 4, none⟩)) (by exact xr_fieldAddr (p := 1) (q := 3) rfl fl118_1 rfl) rfl rfl rfl ?_
      refine ol_op0 (by exact opv_store (ss' := [Seg.cell (.int .i64 t41.1), Seg.cell (.int .i64 t54.1), Seg.cell (.int .i64 t67.1), Seg.cell (.int .i64 t80.1), Seg.cell (.int .i64 t119.1), Seg.cell (.int .i64 t93.1), Seg.cell (.int .i64 t106.1), Seg.cell (.int .i64 (0 : Int)), Seg.cell (.slice none 0 0) (by rfl)]) (xs := cellsOf [Seg.cell (.int .i64 t119.1)]) rfl sz3 rfl rfl rfl (len_cellsOf _) (one_cellsOf _) b24 (Spl.segs _ 4 1 [Seg.cell (.int .i64 t119.1)] rfl rfl)) rfl rfl ?_
      rintro _ w142 ⟨b24, q141⟩
      have b5 := b5.wr q141 n29
      have b31 := b31.wr q141 n37.symm
      have r134 := r134.wr q141 (n135 _ a138)
      have fB := fB.wr q141 z26
      refine ol_val (v := .pointer (some ⟨G23, 7, none⟩)) (by exact xr_fieldAddr (p := 0) (q := 7) rfl fl120_2 rfl) rfl rfl rfl ?_
      refine ol_op0 (by exact opv_store (ss' := [Seg.cell (.int .i64 t41.1), Seg.cell (.int .i64 t54.1), Seg.cell (.int .i64 t67.1), Seg.cell (.int .i64 t80.1), Seg.cell (.int .i64 t119.1), Seg.cell (.int .i64 t93.1), Seg.cell (.int .i64 t106.1), Seg.cell (.int .i64 t130.1), Seg.cell (.slice none 0 0) (by rfl)]) (xs := cellsOf [Seg.cell (.int .i64 t130.1)]) rfl sz3 rfl rfl rfl (len_cellsOf _) (one_cellsOf _) b24 (Spl.segs _ 7 1 [Seg.cell (.int .i64 t130.1)] rfl rfl)) rfl rfl ?_
      rintro _ w144 ⟨b24, q143⟩
      have b5 := b5.wr q143 n29
      have b31 := b31.wr q143 n37.symm
      have r134 := r134.wr q143 (n135 _ a138)
      have fB := fB.wr q143 z26
      refine ol_nil ?_
      refine cw_seq ?_
      refine cw_seq ?_
      refine cw_region ?_
      refine ol_val (v := .int .i64 t10.2.1) (by exact xr_move rfl e5) rfl rfl rfl ?_
      refine ol_val (v := .int .i64 0) (by exact xr_move rfl rfl) rfl rfl rfl ?_
      refine ol_nil ?_
      obtain ⟨e146, l147, h148⟩ := bs h
      refine cw_mid (fun ρ' w' => ∃ v149 : Value, ∃ v152 : Value, ∃ o150 : Own (kI .i64) 3 w' w.heap.size v149 e146.1, ∃ r153 : Rd (kI .u8) w' v152 e146.2, OffR v152 e146.2 G4 ∧ OffR v152 e146.2 G23 ∧ OffR v152 e146.2 G30 ∧ OffRV v152 e146.2 v149 ∧ ρ' 2 = .pointer (some ⟨G4, 0, none⟩) ∧ ρ' 8 = .pointer (some ⟨G23, 0, none⟩) ∧ ρ' 9 = .pointer (some ⟨G30, 0, none⟩) ∧ Blk w' G4 120 [Seg.cell (.int .i64 (0 : Int)), Seg.cell (.int .i64 (0 : Int)), Seg.cell (.int .i64 (0 : Int)), Seg.cell (.int .i64 (0 : Int)), Seg.cell (.int .i64 (0 : Int)), Seg.cell (.int .i64 (0 : Int)), Seg.cell (.int .i64 (0 : Int)), Seg.cell (.int .i64 (0 : Int)), Seg.cell (.slice none 0 0) (by rfl)] ∧ Blk w' G23 120 [Seg.cell (.int .i64 t41.1), Seg.cell (.int .i64 t54.1), Seg.cell (.int .i64 t67.1), Seg.cell (.int .i64 t80.1), Seg.cell (.int .i64 t119.1), Seg.cell (.int .i64 t93.1), Seg.cell (.int .i64 t106.1), Seg.cell (.int .i64 t130.1), Seg.cell v149 o150.one] ∧ Blk w' G30 149 [Seg.cell v152 r153.one] ∧ Gr w w') ?_ ?_
      · refine cw_block ?_
        refine cw_round (fun (s145 : Int × (List Int) × (List Int)) ρ' w' => ∃ v158 : Value, ∃ v161 : Value, ∃ o159 : Own (kI .i64) 3 w' w.heap.size v158 s145.2.1, ∃ r162 : Rd (kI .u8) w' v161 s145.2.2, OffR v161 s145.2.2 G4 ∧ OffR v161 s145.2.2 G23 ∧ OffR v161 s145.2.2 G30 ∧ OffRV v161 s145.2.2 v158 ∧ ρ' 2 = .pointer (some ⟨G4, 0, none⟩) ∧ ρ' 8 = .pointer (some ⟨G23, 0, none⟩) ∧ ρ' 9 = .pointer (some ⟨G30, 0, none⟩) ∧ ρ' 60 = .int .i64 t10.2.1 ∧ ρ' 61 = .int .i64 s145.1 ∧ Blk w' G4 120 [Seg.cell (.int .i64 (0 : Int)), Seg.cell (.int .i64 (0 : Int)), Seg.cell (.int .i64 (0 : Int)), Seg.cell (.int .i64 (0 : Int)), Seg.cell (.int .i64 (0 : Int)), Seg.cell (.int .i64 (0 : Int)), Seg.cell (.int .i64 (0 : Int)), Seg.cell (.int .i64 (0 : Int)), Seg.cell (.slice none 0 0) (by rfl)] ∧ Blk w' G23 120 [Seg.cell (.int .i64 t41.1), Seg.cell (.int .i64 t54.1), Seg.cell (.int .i64 t67.1), Seg.cell (.int .i64 t80.1), Seg.cell (.int .i64 t119.1), Seg.cell (.int .i64 t93.1), Seg.cell (.int .i64 t106.1), Seg.cell (.int .i64 t130.1), Seg.cell v158 o159.one] ∧ Blk w' G30 149 [Seg.cell v161 r162.one] ∧ Gr w w') l147 ?_ ?_
        · skip
          exact ⟨(.slice none 0 0), u133, Own.nil _ _ _ _, r134, (n135 _ a137), (n135 _ a138), (n135 _ a139), (OffRV.nil _ _), e2, rfl, rfl, rfl, rfl, b5, b24, b31, fB⟩
        · rintro s145 x169 ρ167 w168 ⟨v158, v161, o159, r162, a163, a164, a165, a166, e2, e8, e9, e60, e61, b5, b24, b31, fB⟩ h
          unfold super_Get.s0 at h
          refine cw_seq ?_
          refine cw_region ?_
          refine ol_val (v := .bool (decide (s145.1 < t10.2.1))) (by exact xr_lss rfl e61 e60) rfl rfl rfl ?_
          refine ol_nil ?_
          refine cw_seq ?_
          rcases is h with ⟨c170, h⟩ | ⟨c170, h⟩
          · refine cw_condT rfl c170 ?_
            refine cw_skip ?_
            refine cw_seq ?_
            refine cw_block ?_
            obtain ⟨t171, k172, h⟩ := bs h
            refine cw_drawW 4 2 (fun j => j = G30) [fun vz wz => vz = (.pointer (some ⟨G23, 8, none⟩) : Value), fun vz wz => vz = (v158 : Value), fun vz wz => ∃ u174 : Value, ∃ r175 : Rd (kI .u8) wz u174 t171.2.rest, ∃ n176 : ∀ g, OffR v161 s145.2.2 g → OffR u174 t171.2.rest g, ∃ n177 : ∀ g, OffRV v161 s145.2.2 g → OffRV u174 t171.2.rest g, ∃ b178 : Blk wz G30 149 [Seg.cell u174 r175.one], vz = (.int .i64 t171.1 : Value), fun vz wz => ∃ v179 : Value, ∃ o181 : Own (kI .i64) 3 wz w.heap.size v179 [t171.1], vz = (v179 : Value)] mo rfl ⟨fun _ _ _ h _ => h, fun _ _ _ h _ => h, fun _ _ _ ⟨u174, r175, n176, n177, b178, h⟩ q => ⟨u174, r175.gr q, n176, n177, b178.gr q, h⟩, fun _ _ _ ⟨v179, o181, h⟩ q => ⟨v179, o181.gr q, h⟩, trivial⟩ ⟨.inr fun _ _ _ h _ => h, .inr fun _ _ _ h _ => h, .inl rfl, .inl rfl, trivial⟩ ?_ ?_
            · refine ⟨?_, ?_, ?_, ?_, trivial⟩
              · intro ρz wz hz0 hz1 hk hd
                have hz := hz1 rfl
                refine sk_other rfl ?_
                exact sk_val (v := .pointer (some ⟨G23, 8, none⟩)) (by exact xr_fieldAddr (p := 0) (q := 8) rfl fl120_3 ((hk 8 rfl).trans e8)) rfl rfl
              · intro ρz wz hz0 hz1 hk hd
                have hz := hz1 rfl
                have d63 := hd 0 rfl 63 rfl
                refine sk_other rfl ?_
                exact sk_val (v := v158) (by exact xr_load1 (v := v158) rfl ag45 d63 ((b24.wr hz n37).seg 8 rfl rfl)) rfl rfl
              · intro ρz wz hz0 hz1 hk hd
                have hz := hz0 rfl
                refine sk_writer rfl (by exact opv_call rfl cal123 (ac ((hk 9 rfl).trans e9) (ac rfl an)) (super_reader_next.ok fu _ (⟨s145.2.2⟩ : S_super_reader) G30 v161 (r162.gr hz) a165 (b31.gr hz) 2 _ k172)) rfl ?_
                rintro _ wy ⟨u174, r175, n176, n177, rfl, b31, q173⟩
                exact ⟨⟨u174, r175, n176, n177, b31, rfl⟩, q173⟩
              · intro ρz wz hz0 hz1 hk hd
                have hz := hz1 rfl
                obtain ⟨u174, r175, n176, n177, b178, d65⟩ := hd 2 rfl 65 rfl
                refine sk_other rfl ?_
                refine sk_op (by exact opv_buildSlice (K := (kI .i64)) (xs := [t171.1]) (vals := [.int .i64 t171.1]) rfl Try.underlying45 el3 rfl rfl ⟨rfl, d65, trivial⟩ rfl rfl rfl (Nat.le_trans fB.size hz.size)) rfl ?_
                rintro v179 wy ⟨o181, q180, z182⟩
                exact ⟨⟨v179, o181, rfl⟩, q180⟩
            · intro ρ184 w185 q186 hk hd
              have e2 := (hk 2 rfl).trans e2
              have e8 := (hk 8 rfl).trans e8
              have e9 := (hk 9 rfl).trans e9
              have e60 := (hk 60 rfl).trans e60
              have e61 := (hk 61 rfl).trans e61
              have e64 := hd 1 rfl 64 rfl
              obtain ⟨u187, r188, n189, n190, b191, e65⟩ := hd 2 rfl 65 rfl
              obtain ⟨v192, o193, e66⟩ := hd 3 rfl 66 rfl
              have f194 := off_ty b31 o159 (by decide)
              have b5 := b5.wr q186 n36
              have b24 := b24.wr q186 n37
              have o159 := o159.wr q186 f194
              have r162 := r162.wr q186 a165
              have fB := fB.wr q186 z33
              obtain ⟨g200, h⟩ := gs h
              have f202 := off_ty b5 o159 (by decide)
              have f203 := off_ty b24 o159 (by decide)
              have f204 := off_ty b191 o159 (by decide)
              have f205 := o159.geO
              refine ol_op (by exact opv_append (K := (kI .i64)) rfl Try.underlying45 el3 rfl rfl rfl e64 e66 o159 o193.rd g200 fB.size) rfl rfl rfl ?_
              rintro v196 w206 ⟨o197, q198, n199⟩
              have a207 := OffRV.app r188 (n190 _ a166) n199 rfl
              have b5 := b5.wrO q198 f202
              have b24 := b24.wrO q198 f203
              have b191 := b191.wrO q198 f204
              have fB := fB.wrO q198 f205
              have r188 := r188.wrV q198 (n190 _ a166)
              refine ol_val (v := .pointer (some ⟨G23, 8, none⟩)) (by exact xr_fieldAddr (p := 0) (q := 8) rfl fl120_3 e8) rfl rfl rfl ?_
              have f209 := off_ty b24 o197 (by decide)
              refine ol_op0 (by exact opv_store (ss' := [Seg.cell (.int .i64 t41.1), Seg.cell (.int .i64 t54.1), Seg.cell (.int .i64 t67.1), Seg.cell (.int .i64 t80.1), Seg.cell (.int .i64 t119.1), Seg.cell (.int .i64 t93.1), Seg.cell (.int .i64 t106.1), Seg.cell (.int .i64 t130.1), Seg.cell v196 o197.one]) (xs := cellsOf [Seg.cell v196 o197.one]) rfl sz45 rfl rfl (cells_one o197.one) (len_cellsOf _) (one_cellsOf _) b24 (Spl.segs _ 8 1 [Seg.cell v196 o197.one] rfl rfl)) rfl rfl ?_
              rintro _ w210 ⟨b24, q208⟩
              have b5 := b5.wr q208 n29
              have b191 := b191.wr q208 n37.symm
              have o197 := o197.wr q208 f209
              have r188 := r188.wr q208 (n189 _ a164)
              have fB := fB.wr q208 z26
              refine ol_nil ?_
              refine blk_i ?_
              refine cw_region ?_
              refine ol_val (v := .int .i64 (IntKind.i64.wrap (s145.1 + 1))) (by exact xr_add rfl e61 rfl) rfl rfl rfl ?_
              refine ol_val (v := .int .i64 (IntKind.i64.wrap (s145.1 + 1))) (by exact xr_move rfl rfl) rfl rfl rfl ?_
              refine ol_nil ?_
              obtain rfl := Option.some.inj h
              refine lp_in ?_
              exact ⟨v196, u187, o197, r188, (n189 _ a163), (n189 _ a164), (n189 _ a165), a207, e2, e8, e9, e60, rfl, b5, b24, b191, fB⟩
          · refine cw_condF rfl c170 ?_
            refine cw_exit ?_
            repeat (first | with_reducible refine thn_e ?_ | with_reducible refine blk_e rfl ?_)
            obtain rfl := Option.some.inj h
            refine lp_exit ?_
            rintro rfl
            refine thn_x ?_
            exact ⟨v158, v161, o159, r162, a163, a164, a165, a166, e2, e8, e9, b5, b24, b31, fB⟩
      · rintro ρ211 w212 ⟨v149, v152, o150, r153, a154, a155, a156, a157, e2, e8, e9, b5, b24, b31, fB⟩
        have h := h148
        refine cw_seq ?_
        refine cw_seq ?_
        obtain ⟨x213, j214, h⟩ := bs h
        refine cw_mid (fun ρ' w' => ρ' 2 = .pointer (some ⟨G4, 0, none⟩) ∧ ρ' 8 = .pointer (some ⟨G23, 0, none⟩) ∧ ρ' 81 = .bool x213 ∧ Gr w212 w') ?_ ?_
        · skip
          refine cw_region ?_
          refine ol_val (v := aggV [Seg.cell (.int .i64 t41.1), Seg.cell (.int .i64 t54.1), Seg.cell (.int .i64 t67.1), Seg.cell (.int .i64 t80.1), Seg.cell (.int .i64 t119.1), Seg.cell (.int .i64 t93.1), Seg.cell (.int .i64 t106.1), Seg.cell (.int .i64 t130.1), Seg.cell v149 o150.one]) (by exact xr_loadS (ss := [Seg.cell (.int .i64 t41.1), Seg.cell (.int .i64 t54.1), Seg.cell (.int .i64 t67.1), Seg.cell (.int .i64 t80.1), Seg.cell (.int .i64 t119.1), Seg.cell (.int .i64 t93.1), Seg.cell (.int .i64 t106.1), Seg.cell (.int .i64 t130.1), Seg.cell v149 o150.one]) rfl ag120 sz120 rfl e8 (b24.segs 0 9 rfl)) rfl rfl rfl ?_
          obtain ⟨t215, k216, j214⟩ := bs j214
          refine ol_op (by exact opv_call rfl cal92 (ac rfl an) (super_Right.ok fu _ (⟨t41.1, (⟨(⟨t54.1, t67.1, t80.1⟩ : S_api_Geometry), t119.1, t93.1, t106.1⟩ : S_api_Tickets), t130.1, e146.1⟩ : S_api_Super) v149 (o150.rd) _ k216)) rfl rfl rfl ?_
          rintro _ w218 ⟨rfl, q217⟩
          have b5 := b5.gr q217
          have b24 := b24.gr q217
          have b31 := b31.gr q217
          have o150 := o150.gr q217
          have r153 := r153.gr q217
          have fB := fB.gr q217
          refine ol_val (v := .bool (!t215)) (by exact xr_not rfl rfl) rfl rfl rfl ?_
          refine ol_val (v := .bool (!t215)) (by exact xr_move rfl rfl) rfl rfl rfl ?_
          rcases is j214 with ⟨c219, j214⟩ | ⟨c219, j214⟩
          · skip
            refine ol_gskip rfl rfl rfl rfl rfl c219 ?_
            refine ol_gskip rfl rfl rfl rfl rfl c219 ?_
            refine ol_gskip rfl rfl rfl rfl rfl c219 ?_
            refine ol_gskip rfl rfl rfl rfl rfl c219 ?_
            refine ol_gskip rfl rfl rfl rfl rfl c219 ?_
            refine ol_gskip rfl rfl rfl rfl rfl c219 ?_
            refine ol_gskip rfl rfl rfl rfl rfl c219 ?_
            refine ol_val (v := .bool true) (by exact xr_pickT rfl rfl c219 rfl) rfl rfl rfl ?_
            refine ol_nil ?_
            obtain rfl := Option.some.inj j214
            refine thn_i ?_
            exact ⟨e2, e8, rfl, q217⟩
          · skip
            refine ol_gval (v := .pointer (some ⟨G30, 0, none⟩)) (by exact xr_fieldAddr (p := 0) (q := 0) rfl fl149_0 e9) rfl rfl rfl rfl rfl c219 ?_
            refine ol_gval (v := v152) (by exact xr_load1 (v := v152) rfl ag22 rfl (b31.seg 0 rfl rfl)) rfl rfl rfl rfl rfl c219 ?_
            refine ol_gval (v := .pointer (some ⟨G30, 0, none⟩)) (by exact xr_fieldAddr (p := 0) (q := 0) rfl fl149_0 e9) rfl rfl rfl rfl rfl c219 ?_
            refine ol_gval (v := v152) (by exact xr_load1 (v := v152) rfl ag22 rfl (b31.seg 0 rfl rfl)) rfl rfl rfl rfl rfl c219 ?_
            refine ol_gval (v := .int .i64 (List.length e146.2 : Int)) (by exact xr_lenR rfl Try.underlying22 rfl r153) rfl rfl rfl rfl rfl c219 ?_
            obtain ⟨t220, k221, j214⟩ := bs j214
            refine ol_gop (by exact opv_call rfl cal102 (ac rfl (ac rfl (ac rfl an))) (octet_Noughts.ok fu _ e146.2 v152 (r153) 0 (List.length e146.2 : Int) _ k221)) rfl rfl rfl rfl rfl c219 ?_
            rintro _ w223 ⟨rfl, q222⟩
            have b5 := b5.gr q222
            have b24 := b24.gr q222
            have o150 := o150.gr q222
            have fB := fB.gr q222
            refine ol_gval (v := .bool (!t220)) (by exact xr_not rfl rfl) rfl rfl rfl rfl rfl c219 ?_
            refine ol_val (v := .bool (!t220)) (by exact xr_pickF rfl rfl c219 rfl) rfl rfl rfl ?_
            refine ol_nil ?_
            obtain rfl := Option.some.inj j214
            refine thn_i ?_
            exact ⟨e2, e8, rfl, (q217.gr q222)⟩
        · skip
          rintro ρ224 w225 ⟨e2, e8, e81, q226⟩
          have b5 := b5.gr q226
          have b24 := b24.gr q226
          have o150 := o150.gr q226
          have fB := fB.gr q226
          rcases is h with ⟨c227, h⟩ | ⟨c227, h⟩
          · refine cw_condT e81 c227 ?_
            refine cw_seq ?_
            refine cw_region ?_
            refine ol_val (v := aggV [Seg.cell (.int .i64 (0 : Int)), Seg.cell (.int .i64 (0 : Int)), Seg.cell (.int .i64 (0 : Int)), Seg.cell (.int .i64 (0 : Int)), Seg.cell (.int .i64 (0 : Int)), Seg.cell (.int .i64 (0 : Int)), Seg.cell (.int .i64 (0 : Int)), Seg.cell (.int .i64 (0 : Int)), Seg.cell (.slice none 0 0) (by rfl)]) (by exact xr_build (vals := []) rfl trivial (bl120_ _)) rfl rfl rfl ?_
            refine ol_op0 (by exact opv_store (ss' := [Seg.cell (.int .i64 (0 : Int)), Seg.cell (.int .i64 (0 : Int)), Seg.cell (.int .i64 (0 : Int)), Seg.cell (.int .i64 (0 : Int)), Seg.cell (.int .i64 (0 : Int)), Seg.cell (.int .i64 (0 : Int)), Seg.cell (.int .i64 (0 : Int)), Seg.cell (.int .i64 (0 : Int)), Seg.cell (.slice none 0 0) (by rfl)]) (xs := cellsOf [Seg.cell (.int .i64 (0 : Int)), Seg.cell (.int .i64 (0 : Int)), Seg.cell (.int .i64 (0 : Int)), Seg.cell (.int .i64 (0 : Int)), Seg.cell (.int .i64 (0 : Int)), Seg.cell (.int .i64 (0 : Int)), Seg.cell (.int .i64 (0 : Int)), Seg.cell (.int .i64 (0 : Int)), Seg.cell (.slice none 0 0) (by rfl)]) rfl sz120 e2 rfl rfl (len_cellsOf _) (one_cellsOf _) b5 (Spl.segs _ 0 9 [Seg.cell (.int .i64 (0 : Int)), Seg.cell (.int .i64 (0 : Int)), Seg.cell (.int .i64 (0 : Int)), Seg.cell (.int .i64 (0 : Int)), Seg.cell (.int .i64 (0 : Int)), Seg.cell (.int .i64 (0 : Int)), Seg.cell (.int .i64 (0 : Int)), Seg.cell (.int .i64 (0 : Int)), Seg.cell (.slice none 0 0) (by rfl)] rfl rfl)) rfl rfl ?_
            rintro _ w229 ⟨b5, q228⟩
            have fB := fB.wr q228 z7
            refine ol_val (v := .bool false) (by exact xr_assign rfl rfl) rfl rfl rfl ?_
            refine ol_nil ?_
            refine cw_ret ?_
            repeat (first | with_reducible refine thn_r ?_ | with_reducible refine blk_r ?_)
            obtain rfl := Option.some.inj h
            refine fin_cell_tmp Try.results87 e2 ag120 sz120 b5 (by rfl) rfl ?_
            exact ⟨_, rfl, (.slice none 0 0), Own.nil _ _ _ _, rfl, fB⟩
          · refine cw_condF e81 c227 ?_
            refine cw_skip ?_
            refine cw_seq ?_
            refine cw_region ?_
            refine ol_val (v := aggV [Seg.cell (.int .i64 t41.1), Seg.cell (.int .i64 t54.1), Seg.cell (.int .i64 t67.1), Seg.cell (.int .i64 t80.1), Seg.cell (.int .i64 t119.1), Seg.cell (.int .i64 t93.1), Seg.cell (.int .i64 t106.1), Seg.cell (.int .i64 t130.1), Seg.cell v149 o150.one]) (by exact xr_loadS (ss := [Seg.cell (.int .i64 t41.1), Seg.cell (.int .i64 t54.1), Seg.cell (.int .i64 t67.1), Seg.cell (.int .i64 t80.1), Seg.cell (.int .i64 t119.1), Seg.cell (.int .i64 t93.1), Seg.cell (.int .i64 t106.1), Seg.cell (.int .i64 t130.1), Seg.cell v149 o150.one]) rfl ag120 sz120 rfl e8 (b24.segs 0 9 rfl)) rfl rfl rfl ?_
            have f231 := off_ty b5 o150 (by decide)
            refine ol_op0 (by exact opv_store (ss' := [Seg.cell (.int .i64 t41.1), Seg.cell (.int .i64 t54.1), Seg.cell (.int .i64 t67.1), Seg.cell (.int .i64 t80.1), Seg.cell (.int .i64 t119.1), Seg.cell (.int .i64 t93.1), Seg.cell (.int .i64 t106.1), Seg.cell (.int .i64 t130.1), Seg.cell v149 o150.one]) (xs := cellsOf [Seg.cell (.int .i64 t41.1), Seg.cell (.int .i64 t54.1), Seg.cell (.int .i64 t67.1), Seg.cell (.int .i64 t80.1), Seg.cell (.int .i64 t119.1), Seg.cell (.int .i64 t93.1), Seg.cell (.int .i64 t106.1), Seg.cell (.int .i64 t130.1), Seg.cell v149 o150.one]) rfl sz120 e2 rfl rfl (len_cellsOf _) (one_cellsOf _) b5 (Spl.segs _ 0 9 [Seg.cell (.int .i64 t41.1), Seg.cell (.int .i64 t54.1), Seg.cell (.int .i64 t67.1), Seg.cell (.int .i64 t80.1), Seg.cell (.int .i64 t119.1), Seg.cell (.int .i64 t93.1), Seg.cell (.int .i64 t106.1), Seg.cell (.int .i64 t130.1), Seg.cell v149 o150.one] rfl rfl)) rfl rfl ?_
            rintro _ w232 ⟨b5, q230⟩
            have o150 := o150.wr q230 f231
            have fB := fB.wr q230 z7
            refine ol_val (v := .bool true) (by exact xr_assign rfl rfl) rfl rfl rfl ?_
            refine ol_nil ?_
            refine cw_ret ?_
            repeat (first | with_reducible refine thn_r ?_ | with_reducible refine blk_r ?_)
            obtain rfl := Option.some.inj h
            refine fin_cell_tmp Try.results87 e2 ag120 sz120 b5 (by rfl) rfl ?_
            exact ⟨_, rfl, v149, o150, rfl, fB⟩
end Go.Proofs.Ytjhajfkfhdnciaa

/- rickyard/octet.Lay: its model, and that the Go function computes it: written by gen.py. -/
set_option linter.unusedVariables false
namespace Go.Proofs.Ytjhajfkfhdnciaa
open Go Go.Xw
def octet_Lay.s0 (fu : Nat) (a1 : Int) : (Int × Int × (List Int)) → Option (Sum (List Int) (Int × Int × (List Int))) := fun s14 => (if (decide (s14.2.1 < (List.length (List.replicate (Int.toNat a1) (0 : Int)) : Int))) = true then (if 0 ≤ s14.2.1 ∧ s14.2.1 < (List.length s14.2.2 : Int) then some (Sum.inr ((shR .u64 s14.1 8), (IntKind.i64.wrap (s14.2.1 + 1)), (List.set s14.2.2 (Int.toNat s14.2.1) (IntKind.u8.wrap s14.1)))) else none) else some (Sum.inl (s14.2.2)))
def octet_Lay.f (fu : Nat) (a0 : Int) (a1 : Int) : Option (List Int) := (if (if (decide (a1 < 0)) = true then true else (decide (a1 > 8))) = true then some ([]) else (if 0 ≤ a1 ∧ Int.toNat a1 ≤ LIM then ((loopM (octet_Lay.s0 fu a1) fu (a0, 0, (List.replicate (Int.toNat a1) (0 : Int)))).bind fun e15 => some (e15)) else none))
set_option maxRecDepth 100000 in
set_option maxHeartbeats 400000 in
theorem octet_Lay.ok (fu : Nat) (w : World) (a0 : Int) (a1 : Int) (r : (List Int)) (h : octet_Lay.f fu a0 a1 = some r) :
    Calls Try.prog 95 (([.int .u64 a0, .int .i64 a1] : List Value).toArray) w (fun e w' => ∃ v, e = .returned v ∧ ∃ u1 : Value, ∃ o2 : Own (kI .u8) 5 w' w.heap.size u1 r, v = u1 ∧ Gr w w') := by
  unfold octet_Lay.f at h
  have fB : Gr w w := Fr.refl _ _
  refine calls_cw Try.func95 rfl Try.ntmps95 rfl ?_
  refine cw_seq ?_
  refine cw_region ?_
  refine ol_val (v := .slice none 0 0) (by exact xr_assign rfl rfl) rfl rfl rfl ?_
  refine ol_nil ?_
  refine cw_seq ?_
  refine cw_seq ?_
  refine cw_mid (fun ρ' w' => ρ' 0 = .int .u64 a0 ∧ ρ' 1 = .int .i64 a1 ∧ ρ' 12 = .bool (if (decide (a1 < 0)) = true then true else (decide (a1 > 8))) ∧ w = w') ?_ ?_
  · skip
    refine cw_region ?_
    refine ol_val (v := .int .i64 a1) (by exact xr_move rfl rfl) rfl rfl rfl ?_
    refine ol_val (v := .bool (decide (a1 < 0))) (by exact xr_lss rfl rfl rfl) rfl rfl rfl ?_
    refine ol_val (v := .bool (decide (a1 < 0))) (by exact xr_move rfl rfl) rfl rfl rfl ?_
    rcases bt (decide (a1 < 0)) with c4 | c4
    · skip
      refine ol_gskip rfl rfl rfl rfl rfl c4 ?_
      refine ol_gskip rfl rfl rfl rfl rfl c4 ?_
      refine ol_val (v := .bool true) (by exact xr_pickT rfl rfl c4 rfl) rfl rfl rfl ?_
      refine ol_nil ?_
      refine thn_i ?_
      exact ⟨rfl, rfl, (rfl).trans (congrArg (fun z => (.bool z : Value)) (show true = (if (decide (a1 < 0)) = true then true else (decide (a1 > 8))) from by rw [ite_t c4])), rfl⟩
    · skip
      refine ol_gval (v := .int .i64 a1) (by exact xr_move rfl rfl) rfl rfl rfl rfl rfl c4 ?_
      refine ol_gval (v := .bool (decide (a1 > 8))) (by exact xr_gtr rfl rfl rfl) rfl rfl rfl rfl rfl c4 ?_
      refine ol_val (v := .bool (decide (a1 > 8))) (by exact xr_pickF rfl rfl c4 rfl) rfl rfl rfl ?_
      refine ol_nil ?_
      refine thn_i ?_
      exact ⟨rfl, rfl, (rfl).trans (congrArg (fun z => (.bool z : Value)) (show (decide (a1 > 8)) = (if (decide (a1 < 0)) = true then true else (decide (a1 > 8))) from by rw [ite_f c4])), rfl⟩
  · skip
    rintro ρ5 _ ⟨e0, e1, e12, rfl⟩
    rcases is h with ⟨c6, h⟩ | ⟨c6, h⟩
    · refine cw_condT e12 c6 ?_
      refine cw_seq ?_
      refine cw_region ?_
      refine ol_val (v := .slice none 0 0) (by exact xr_assign rfl rfl) rfl rfl rfl ?_
      refine ol_nil ?_
      refine cw_ret ?_
      repeat (first | with_reducible refine thn_r ?_ | with_reducible refine blk_r ?_)
      obtain rfl := Option.some.inj h
      refine fin_ret1 Try.results95 rfl ?_
      exact ⟨_, rfl, (.slice none 0 0), Own.nil _ _ _ _, rfl, fB⟩
    · refine cw_condF e12 c6 ?_
      refine cw_skip ?_
      refine cw_seq ?_
      refine cw_region ?_
      refine ol_val (v := .int .i64 a1) (by exact xr_move rfl e1) rfl rfl rfl ?_
      obtain ⟨g7, h⟩ := gs h
      refine ol_op (by exact opv_make (K := (kI .u8)) (z := (0 : Int)) rfl Try.underlying22 el5 rfl rfl rfl g7.1 g7.2 rfl fB.size) rfl rfl rfl ?_
      rintro v8 w13 ⟨o10, q9, z11⟩
      have fB := fB.gr q9
      refine ol_val (v := v8) (by exact xr_assign rfl rfl) rfl rfl rfl ?_
      refine ol_nil ?_
      refine cw_seq ?_
      refine cw_seq ?_
      refine cw_region ?_
      refine ol_val (v := v8) (by exact xr_move rfl rfl) rfl rfl rfl ?_
      refine ol_val (v := .int .i64 (List.length (List.replicate (Int.toNat a1) (0 : Int)) : Int)) (by exact xr_lenR rfl Try.underlying22 rfl o10.rd) rfl rfl rfl ?_
      refine ol_val (v := .int .i64 0) (by exact xr_move rfl rfl) rfl rfl rfl ?_
      refine ol_nil ?_
      obtain ⟨e15, l16, h17⟩ := bs h
      refine cw_mid (fun ρ' w' => ∃ o10 : Own (kI .u8) 5 w' w.heap.size v8 e15, ρ' 5 = v8 ∧ Gr w w') ?_ ?_
      · refine cw_block ?_
        refine cw_round (fun (s14 : Int × Int × (List Int)) ρ' w' => ∃ o10 : Own (kI .u8) 5 w' w.heap.size v8 s14.2.2, ρ' 0 = .int .u64 s14.1 ∧ ρ' 5 = v8 ∧ ρ' 16 = .int .i64 (List.length (List.replicate (Int.toNat a1) (0 : Int)) : Int) ∧ ρ' 17 = .int .i64 s14.2.1 ∧ Gr w w') l16 ?_ ?_
        · skip
          exact ⟨o10, e0, rfl, rfl, rfl, fB⟩
        · rintro s14 x20 ρ18 w19 ⟨o10, e0, e5, e16, e17, fB⟩ h
          unfold octet_Lay.s0 at h
          refine cw_seq ?_
          refine cw_region ?_
          refine ol_val (v := .bool (decide (s14.2.1 < (List.length (List.replicate (Int.toNat a1) (0 : Int)) : Int)))) (by exact xr_lss rfl e17 e16) rfl rfl rfl ?_
          refine ol_nil ?_
          refine cw_seq ?_
          rcases is h with ⟨c21, h⟩ | ⟨c21, h⟩
          · refine cw_condT rfl c21 ?_
            refine cw_skip ?_
            refine cw_seq ?_
            refine cw_block ?_
            refine cw_seq ?_
            refine cw_region ?_
            refine ol_val (v := .int .i64 s14.2.1) (by exact xr_move rfl e17) rfl rfl rfl ?_
            refine ol_val (v := .int .i64 s14.2.1) (by exact xr_assign rfl rfl) rfl rfl rfl ?_
            refine ol_nil ?_
            refine cw_seq ?_
            refine cw_region ?_
            refine ol_val (v := v8) (by exact xr_move rfl e5) rfl rfl rfl ?_
            refine ol_val (v := .int .i64 s14.2.1) (by exact xr_move rfl rfl) rfl rfl rfl ?_
            refine ol_val (v := .int .u64 s14.1) (by exact xr_move rfl e0) rfl rfl rfl ?_
            refine ol_val (v := .int .u8 (IntKind.u8.wrap s14.1)) (by exact xr_conv rfl Try.underlying129 Try.underlying5 rfl) rfl rfl rfl ?_
            obtain ⟨g22, h⟩ := gs h
            refine ol_val (v := .pointer (some ⟨(sb v8), so v8 + Int.toNat s14.2.1 * 1, none⟩)) (by exact xr_indexR (K := (kI .u8)) (v := v8) rfl Try.underlying22 sz5 rfl o10.rd rfl g22.1 g22.2) rfl rfl rfl ?_
            have f24 := o10.geO
            refine ol_op0 (by exact opv_storeRow (z := (IntKind.u8.wrap s14.1)) (xs := cellsOf [Seg.cell (.int .u8 (IntKind.u8.wrap s14.1))]) rfl sz5 rfl rfl rfl (len_cellsOf _) (one_cellsOf _) o10 g22.1 g22.2 (Spl.whole ((Kd.len _ _).trans (Kd.len _ _).symm)) rfl) rfl rfl ?_
            rintro _ w25 ⟨o10, q23⟩
            have fB := fB.wrO q23 f24
            refine ol_nil ?_
            refine cw_region ?_
            refine ol_val (v := .int .u64 s14.1) (by exact xr_move rfl e0) rfl rfl rfl ?_
            refine ol_val (v := .int .u64 (shR .u64 s14.1 8)) (by exact xr_shr rfl rfl rfl (by decide)) rfl rfl rfl ?_
            refine ol_val (v := .int .u64 (shR .u64 s14.1 8)) (by exact xr_assign rfl rfl) rfl rfl rfl ?_
            refine ol_nil ?_
            refine blk_i ?_
            refine cw_region ?_
            refine ol_val (v := .int .i64 (IntKind.i64.wrap (s14.2.1 + 1))) (by exact xr_add rfl e17 rfl) rfl rfl rfl ?_
            refine ol_val (v := .int .i64 (IntKind.i64.wrap (s14.2.1 + 1))) (by exact xr_move rfl rfl) rfl rfl rfl ?_
            refine ol_nil ?_
            obtain rfl := Option.some.inj h
            refine lp_in ?_
            exact ⟨o10, rfl, e5, e16, rfl, fB⟩
          · refine cw_condF rfl c21 ?_
            refine cw_exit ?_
            repeat (first | with_reducible refine thn_e ?_ | with_reducible refine blk_e rfl ?_)
            obtain rfl := Option.some.inj h
            refine lp_exit ?_
            rintro rfl
            refine thn_x ?_
            exact ⟨o10, e5, fB⟩
      · rintro ρ26 w27 ⟨o10, e5, fB⟩
        have h := h17
        refine cw_seq ?_
        refine cw_region ?_
        refine ol_val (v := v8) (by exact xr_move rfl e5) rfl rfl rfl ?_
        refine ol_val (v := v8) (by exact xr_assign rfl rfl) rfl rfl rfl ?_
        refine ol_nil ?_
        refine cw_ret ?_
        repeat (first | with_reducible refine thn_r ?_ | with_reducible refine blk_r ?_)
        obtain rfl := Option.some.inj h
        refine fin_ret1 Try.results95 rfl ?_
        exact ⟨_, rfl, v8, o10, rfl, fB⟩
end Go.Proofs.Ytjhajfkfhdnciaa

/- rickyard/block.Seal: its model, and that the Go function computes it: written by gen.py. -/
set_option linter.unusedVariables false
namespace Go.Proofs.Ytjhajfkfhdnciaa
open Go Go.Xw
def block_Seal.f (fu : Nat) (a0 : Int) (a1 : Int) (a2 : List Int) : Option ((List Int) × Bool) := (if (if (decide (a0 < 1)) = true then true else (if (decide (a0 ≥ 256)) = true then true else (if (decide (a1 < 0)) = true then true else (if (decide (a1 ≥ 256)) = true then true else (decide ((List.length a2 : Int) > 56)))))) = true then some ([], false) else (if (4 : Int) < (List.length (List.replicate (Int.toNat 64) (0 : Int)) : Int) then (if (5 : Int) < (List.length (List.set (List.replicate (Int.toNat 64) (0 : Int)) (Int.toNat 4) (IntKind.u8.wrap a0)) : Int) then (if (8 : Int) ≤ (List.length (List.set (List.set (List.replicate (Int.toNat 64) (0 : Int)) (Int.toNat 4) (IntKind.u8.wrap a0)) (Int.toNat 5) (IntKind.u8.wrap a1)) : Int) then (if Int.toNat 8 ≤ List.length (List.set (List.set (List.replicate (Int.toNat 64) (0 : Int)) (Int.toNat 4) (IntKind.u8.wrap a0)) (Int.toNat 5) (IntKind.u8.wrap a1)) ∧ List.length (List.set (List.set (List.replicate (Int.toNat 64) (0 : Int)) (Int.toNat 4) (IntKind.u8.wrap a0)) (Int.toNat 5) (IntKind.u8.wrap a1)) ≤ List.length (List.set (List.set (List.replicate (Int.toNat 64) (0 : Int)) (Int.toNat 4) (IntKind.u8.wrap a0)) (Int.toNat 5) (IntKind.u8.wrap a1)) then (if (4 : Int) ≤ (List.length (splL (List.set (List.set (List.replicate (Int.toNat 64) (0 : Int)) (Int.toNat 4) (IntKind.u8.wrap a0)) (Int.toNat 5) (IntKind.u8.wrap a1)) (Int.toNat 8) (List.take (List.length (List.set (List.set (List.replicate (Int.toNat 64) (0 : Int)) (Int.toNat 4) (IntKind.u8.wrap a0)) (Int.toNat 5) (IntKind.u8.wrap a1)) - Int.toNat 8) a2)) : Int) then ((crc_Sum.f fu [(cut (splL (List.set (List.set (List.replicate (Int.toNat 64) (0 : Int)) (Int.toNat 4) (IntKind.u8.wrap a0)) (Int.toNat 5) (IntKind.u8.wrap a1)) (Int.toNat 8) (List.take (List.length (List.set (List.set (List.replicate (Int.toNat 64) (0 : Int)) (Int.toNat 4) (IntKind.u8.wrap a0)) (Int.toNat 5) (IntKind.u8.wrap a1)) - Int.toNat 8) a2)) 4 (List.length (splL (List.set (List.set (List.replicate (Int.toNat 64) (0 : Int)) (Int.toNat 4) (IntKind.u8.wrap a0)) (Int.toNat 5) (IntKind.u8.wrap a1)) (Int.toNat 8) (List.take (List.length (List.set (List.set (List.replicate (Int.toNat 64) (0 : Int)) (Int.toNat 4) (IntKind.u8.wrap a0)) (Int.toNat 5) (IntKind.u8.wrap a1)) - Int.toNat 8) a2)) : Int))] : Option Int).bind fun t36 => ((octet_Lay.f fu (IntKind.u64.wrap t36) 4 : Option (List Int)).bind fun t40 => some ((splL (splL (List.set (List.set (List.replicate (Int.toNat 64) (0 : Int)) (Int.toNat 4) (IntKind.u8.wrap a0)) (Int.toNat 5) (IntKind.u8.wrap a1)) (Int.toNat 8) (List.take (List.length (List.set (List.set (List.replicate (Int.toNat 64) (0 : Int)) (Int.toNat 4) (IntKind.u8.wrap a0)) (Int.toNat 5) (IntKind.u8.wrap a1)) - Int.toNat 8) a2)) 0 (List.take (List.length (splL (List.set (List.set (List.replicate (Int.toNat 64) (0 : Int)) (Int.toNat 4) (IntKind.u8.wrap a0)) (Int.toNat 5) (IntKind.u8.wrap a1)) (Int.toNat 8) (List.take (List.length (List.set (List.set (List.replicate (Int.toNat 64) (0 : Int)) (Int.toNat 4) (IntKind.u8.wrap a0)) (Int.toNat 5) (IntKind.u8.wrap a1)) - Int.toNat 8) a2))) t40)), true))) else none) else none) else none) else none) else none))
set_option maxRecDepth 100000 in
set_option maxHeartbeats 400000 in
theorem block_Seal.ok (fu : Nat) (w : World) (a0 : Int) (a1 : Int) (a2 : List Int) (V2_0 : Value) (R2_0 : Rd (kI .u8) w V2_0 a2) (r : (List Int) × Bool) (h : block_Seal.f fu a0 a1 a2 = some r) :
    Calls Try.prog 28 (([.int .i64 a0, .int .i64 a1, V2_0] : List Value).toArray) w (fun e w' => ∃ v, e = .returned v ∧ ∃ u1 : Value, ∃ o2 : Own (kI .u8) 5 w' w.heap.size u1 r.1, v = .tuple #[u1, .bool r.2] ∧ Gr w w') := by
  unfold block_Seal.f at h
  have fB : Gr w w := Fr.refl _ _
  refine calls_cw Try.func28 rfl Try.ntmps28 rfl ?_
  refine cw_seq ?_
  refine cw_region ?_
  refine ol_val (v := .slice none 0 0) (by exact xr_assign rfl rfl) rfl rfl rfl ?_
  refine ol_val (v := .bool false) (by exact xr_assign rfl rfl) rfl rfl rfl ?_
  refine ol_nil ?_
  refine cw_seq ?_
  refine cw_seq ?_
  refine cw_mid (fun ρ' w' => ρ' 0 = .int .i64 a0 ∧ ρ' 1 = .int .i64 a1 ∧ ρ' 2 = V2_0 ∧ ρ' 27 = .bool (if (decide (a0 < 1)) = true then true else (if (decide (a0 ≥ 256)) = true then true else (if (decide (a1 < 0)) = true then true else (if (decide (a1 ≥ 256)) = true then true else (decide ((List.length a2 : Int) > 56)))))) ∧ w = w') ?_ ?_
  · skip
    refine cw_region ?_
    refine ol_val (v := .int .i64 a0) (by exact xr_move rfl rfl) rfl rfl rfl ?_
    refine ol_val (v := .bool (decide (a0 < 1))) (by exact xr_lss rfl rfl rfl) rfl rfl rfl ?_
    refine ol_val (v := .bool (decide (a0 < 1))) (by exact xr_move rfl rfl) rfl rfl rfl ?_
    rcases bt (decide (a0 < 1)) with c4 | c4
    · skip
      refine ol_gskip rfl rfl rfl rfl rfl c4 ?_
      refine ol_gskip rfl rfl rfl rfl rfl c4 ?_
      refine ol_val (v := .bool true) (by exact xr_pickT rfl rfl c4 rfl) rfl rfl rfl ?_
      refine ol_val (v := .bool true) (by exact xr_move rfl rfl) rfl rfl rfl ?_
      refine ol_gskip rfl rfl rfl rfl rfl rfl ?_
      refine ol_gskip rfl rfl rfl rfl rfl rfl ?_
      refine ol_val (v := .bool true) (by exact xr_pickT rfl rfl rfl rfl) rfl rfl rfl ?_
      refine ol_val (v := .bool true) (by exact xr_move rfl rfl) rfl rfl rfl ?_
      refine ol_gskip rfl rfl rfl rfl rfl rfl ?_
      refine ol_gskip rfl rfl rfl rfl rfl rfl ?_
      refine ol_val (v := .bool true) (by exact xr_pickT rfl rfl rfl rfl) rfl rfl rfl ?_
      refine ol_val (v := .bool true) (by exact xr_move rfl rfl) rfl rfl rfl ?_
      refine ol_gskip rfl rfl rfl rfl rfl rfl ?_
      refine ol_gskip rfl rfl rfl rfl rfl rfl ?_
      refine ol_gskip rfl rfl rfl rfl rfl rfl ?_
      refine ol_val (v := .bool true) (by exact xr_pickT rfl rfl rfl rfl) rfl rfl rfl ?_
      refine ol_nil ?_
      refine thn_i ?_
      exact ⟨rfl, rfl, rfl, (rfl).trans (congrArg (fun z => (.bool z : Value)) (show true = (if (decide (a0 < 1)) = true then true else (if (decide (a0 ≥ 256)) = true then true else (if (decide (a1 < 0)) = true then true else (if (decide (a1 ≥ 256)) = true then true else (decide ((List.length a2 : Int) > 56)))))) from by rw [ite_t c4])), rfl⟩
    · skip
      refine ol_gval (v := .int .i64 a0) (by exact xr_move rfl rfl) rfl rfl rfl rfl rfl c4 ?_
      refine ol_gval (v := .bool (decide (a0 ≥ 256))) (by exact xr_geq rfl rfl rfl) rfl rfl rfl rfl rfl c4 ?_
      refine ol_val (v := .bool (decide (a0 ≥ 256))) (by exact xr_pickF rfl rfl c4 rfl) rfl rfl rfl ?_
      refine ol_val (v := .bool (decide (a0 ≥ 256))) (by exact xr_move rfl rfl) rfl rfl rfl ?_
      rcases bt (decide (a0 ≥ 256)) with c5 | c5
      · skip
        refine ol_gskip rfl rfl rfl rfl rfl c5 ?_
        refine ol_gskip rfl rfl rfl rfl rfl c5 ?_
        refine ol_val (v := .bool true) (by exact xr_pickT rfl rfl c5 rfl) rfl rfl rfl ?_
        refine ol_val (v := .bool true) (by exact xr_move rfl rfl) rfl rfl rfl ?_
        refine ol_gskip rfl rfl rfl rfl rfl rfl ?_
        refine ol_gskip rfl rfl rfl rfl rfl rfl ?_
        refine ol_val (v := .bool true) (by exact xr_pickT rfl rfl rfl rfl) rfl rfl rfl ?_
        refine ol_val (v := .bool true) (by exact xr_move rfl rfl) rfl rfl rfl ?_
        refine ol_gskip rfl rfl rfl rfl rfl rfl ?_
        refine ol_gskip rfl rfl rfl rfl rfl rfl ?_
        refine ol_gskip rfl rfl rfl rfl rfl rfl ?_
        refine ol_val (v := .bool true) (by exact xr_pickT rfl rfl rfl rfl) rfl rfl rfl ?_
        refine ol_nil ?_
        refine thn_i ?_
        exact ⟨rfl, rfl, rfl, (rfl).trans (congrArg (fun z => (.bool z : Value)) (show true = (if (decide (a0 < 1)) = true then true else (if (decide (a0 ≥ 256)) = true then true else (if (decide (a1 < 0)) = true then true else (if (decide (a1 ≥ 256)) = true then true else (decide ((List.length a2 : Int) > 56)))))) from by rw [ite_f c4, ite_t c5])), rfl⟩
      · skip
        refine ol_gval (v := .int .i64 a1) (by exact xr_move rfl rfl) rfl rfl rfl rfl rfl c5 ?_
        refine ol_gval (v := .bool (decide (a1 < 0))) (by exact xr_lss rfl rfl rfl) rfl rfl rfl rfl rfl c5 ?_
        refine ol_val (v := .bool (decide (a1 < 0))) (by exact xr_pickF rfl rfl c5 rfl) rfl rfl rfl ?_
        refine ol_val (v := .bool (decide (a1 < 0))) (by exact xr_move rfl rfl) rfl rfl rfl ?_
        rcases bt (decide (a1 < 0)) with c6 | c6
        · skip
          refine ol_gskip rfl rfl rfl rfl rfl c6 ?_
          refine ol_gskip rfl rfl rfl rfl rfl c6 ?_
          refine ol_val (v := .bool true) (by exact xr_pickT rfl rfl c6 rfl) rfl rfl rfl ?_
          refine ol_val (v := .bool true) (by exact xr_move rfl rfl) rfl rfl rfl ?_
          refine ol_gskip rfl rfl rfl rfl rfl rfl ?_
          refine ol_gskip rfl rfl rfl rfl rfl rfl ?_
          refine ol_gskip rfl rfl rfl rfl rfl rfl ?_
          refine ol_val (v := .bool true) (by exact xr_pickT rfl rfl rfl rfl) rfl rfl rfl ?_
          refine ol_nil ?_
          refine thn_i ?_
          exact ⟨rfl, rfl, rfl, (rfl).trans (congrArg (fun z => (.bool z : Value)) (show true = (if (decide (a0 < 1)) = true then true else (if (decide (a0 ≥ 256)) = true then true else (if (decide (a1 < 0)) = true then true else (if (decide (a1 ≥ 256)) = true then true else (decide ((List.length a2 : Int) > 56)))))) from by rw [ite_f c4, ite_f c5, ite_t c6])), rfl⟩
        · skip
          refine ol_gval (v := .int .i64 a1) (by exact xr_move rfl rfl) rfl rfl rfl rfl rfl c6 ?_
          refine ol_gval (v := .bool (decide (a1 ≥ 256))) (by exact xr_geq rfl rfl rfl) rfl rfl rfl rfl rfl c6 ?_
          refine ol_val (v := .bool (decide (a1 ≥ 256))) (by exact xr_pickF rfl rfl c6 rfl) rfl rfl rfl ?_
          refine ol_val (v := .bool (decide (a1 ≥ 256))) (by exact xr_move rfl rfl) rfl rfl rfl ?_
          rcases bt (decide (a1 ≥ 256)) with c7 | c7
          · skip
            refine ol_gskip rfl rfl rfl rfl rfl c7 ?_
            refine ol_gskip rfl rfl rfl rfl rfl c7 ?_
            refine ol_gskip rfl rfl rfl rfl rfl c7 ?_
            refine ol_val (v := .bool true) (by exact xr_pickT rfl rfl c7 rfl) rfl rfl rfl ?_
            refine ol_nil ?_
            refine thn_i ?_
            exact ⟨rfl, rfl, rfl, (rfl).trans (congrArg (fun z => (.bool z : Value)) (show true = (if (decide (a0 < 1)) = true then true else (if (decide (a0 ≥ 256)) = true then true else (if (decide (a1 < 0)) = true then true else (if (decide (a1 ≥ 256)) = true then true else (decide ((List.length a2 : Int) > 56)))))) from by rw [ite_f c4, ite_f c5, ite_f c6, ite_t c7])), rfl⟩
          · skip
            refine ol_gval (v := V2_0) (by exact xr_move rfl rfl) rfl rfl rfl rfl rfl c7 ?_
            refine ol_gval (v := .int .i64 (List.length a2 : Int)) (by exact xr_lenR rfl Try.underlying22 rfl (R2_0.gr fB)) rfl rfl rfl rfl rfl c7 ?_
            refine ol_gval (v := .bool (decide ((List.length a2 : Int) > 56))) (by exact xr_gtr rfl rfl rfl) rfl rfl rfl rfl rfl c7 ?_
            refine ol_val (v := .bool (decide ((List.length a2 : Int) > 56))) (by exact xr_pickF rfl rfl c7 rfl) rfl rfl rfl ?_
            refine ol_nil ?_
            refine thn_i ?_
            exact ⟨rfl, rfl, rfl, (rfl).trans (congrArg (fun z => (.bool z : Value)) (show (decide ((List.length a2 : Int) > 56)) = (if (decide (a0 < 1)) = true then true else (if (decide (a0 ≥ 256)) = true then true else (if (decide (a1 < 0)) = true then true else (if (decide (a1 ≥ 256)) = true then true else (decide ((List.length a2 : Int) > 56)))))) from by rw [ite_f c4, ite_f c5, ite_f c6, ite_f c7])), rfl⟩
  · skip
    rintro ρ8 _ ⟨e0, e1, e2, e27, rfl⟩
    rcases is h with ⟨c9, h⟩ | ⟨c9, h⟩
    · refine cw_condT e27 c9 ?_
      refine cw_seq ?_
      refine cw_region ?_
      refine ol_val (v := .slice none 0 0) (by exact xr_assign rfl rfl) rfl rfl rfl ?_
      refine ol_val (v := .bool false) (by exact xr_assign rfl rfl) rfl rfl rfl ?_
      refine ol_nil ?_
      refine cw_ret ?_
      repeat (first | with_reducible refine thn_r ?_ | with_reducible refine blk_r ?_)
      obtain rfl := Option.some.inj h
      refine fin_ret2 Try.results28 rfl rfl ?_
      exact ⟨_, rfl, (.slice none 0 0), Own.nil _ _ _ _, rfl, fB⟩
    · refine cw_condF e27 c9 ?_
      refine cw_skip ?_
      refine cw_seq ?_
      refine cw_region ?_
      refine ol_op (by exact opv_make (K := (kI .u8)) (z := (0 : Int)) rfl Try.underlying22 el5 rfl rfl rfl (by decide) (by decide) rfl fB.size) rfl rfl rfl ?_
      rintro v10 w15 ⟨o12, q11, z13⟩
      have fB := fB.gr q11
      refine ol_val (v := v10) (by exact xr_assign rfl rfl) rfl rfl rfl ?_
      refine ol_nil ?_
      refine cw_seq ?_
      refine cw_region ?_
      refine ol_val (v := v10) (by exact xr_move rfl rfl) rfl rfl rfl ?_
      refine ol_val (v := v10) (by exact xr_move rfl rfl) rfl rfl rfl ?_
      refine ol_val (v := .int .i64 a0) (by exact xr_move rfl e0) rfl rfl rfl ?_
      refine ol_val (v := .int .u8 (IntKind.u8.wrap a0)) (by exact xr_conv rfl Try.underlying3 Try.underlying5 rfl) rfl rfl rfl ?_
      refine ol_val (v := .int .i64 a1) (by exact xr_move rfl e1) rfl rfl rfl ?_
      refine ol_val (v := .int .u8 (IntKind.u8.wrap a1)) (by exact xr_conv rfl Try.underlying3 Try.underlying5 rfl) rfl rfl rfl ?_
      obtain ⟨g16, h⟩ := gs h
      refine ol_val (v := .pointer (some ⟨(sb v10), so v10 + Int.toNat 4 * 1, none⟩)) (by exact xr_indexR (K := (kI .u8)) (v := v10) rfl Try.underlying22 sz5 rfl o12.rd rfl (by decide) g16) rfl rfl rfl ?_
      have f18 := o12.geO
      refine ol_op0 (by exact opv_storeRow (z := (IntKind.u8.wrap a0)) (xs := cellsOf [Seg.cell (.int .u8 (IntKind.u8.wrap a0))]) rfl sz5 rfl rfl rfl (len_cellsOf _) (one_cellsOf _) o12 (by decide) g16 (Spl.whole ((Kd.len _ _).trans (Kd.len _ _).symm)) rfl) rfl rfl ?_
      rintro _ w19 ⟨o12, q17⟩
      have fB := fB.wrO q17 f18
      obtain ⟨g20, h⟩ := gs h
      refine ol_val (v := .pointer (some ⟨(sb v10), so v10 + Int.toNat 5 * 1, none⟩)) (by exact xr_indexR (K := (kI .u8)) (v := v10) rfl Try.underlying22 sz5 rfl o12.rd rfl (by decide) g20) rfl rfl rfl ?_
      have f22 := o12.geO
      refine ol_op0 (by exact opv_storeRow (z := (IntKind.u8.wrap a1)) (xs := cellsOf [Seg.cell (.int .u8 (IntKind.u8.wrap a1))]) rfl sz5 rfl rfl rfl (len_cellsOf _) (one_cellsOf _) o12 (by decide) g20 (Spl.whole ((Kd.len _ _).trans (Kd.len _ _).symm)) rfl) rfl rfl ?_
      rintro _ w23 ⟨o12, q21⟩
      have fB := fB.wrO q21 f22
      refine ol_nil ?_
      refine cw_seq ?_
      refine cw_region ?_
      refine ol_val (v := v10) (by exact xr_move rfl rfl) rfl rfl rfl ?_
      obtain ⟨g25, h⟩ := gs h
      refine ol_val (v := subv 1 v10 (Int.toNat 8) (List.length (List.set (List.set (List.replicate (Int.toNat 64) (0 : Int)) (Int.toNat 4) (IntKind.u8.wrap a0)) (Int.toNat 5) (IntKind.u8.wrap a1)))) (by exact xr_slice_l (K := (kI .u8)) (v := v10) rfl Try.underlying22 sz5 rfl o12.rd rfl (by decide) g25) rfl rfl rfl ?_
      have r24 : Rd (kI .u8) w23 (subv 1 v10 (Int.toNat 8) (List.length (List.set (List.set (List.replicate (Int.toNat 64) (0 : Int)) (Int.toNat 4) (IntKind.u8.wrap a0)) (Int.toNat 5) (IntKind.u8.wrap a1)))) (cut (List.set (List.set (List.replicate (Int.toNat 64) (0 : Int)) (Int.toNat 4) (IntKind.u8.wrap a0)) (Int.toNat 5) (IntKind.u8.wrap a1)) 8 (List.length (List.set (List.set (List.replicate (Int.toNat 64) (0 : Int)) (Int.toNat 4) (IntKind.u8.wrap a0)) (Int.toNat 5) (IntKind.u8.wrap a1)) : Int)) := o12.rd.cut (lo := 8) (hi := (List.length (List.set (List.set (List.replicate (Int.toNat 64) (0 : Int)) (Int.toNat 4) (IntKind.u8.wrap a0)) (Int.toNat 5) (IntKind.u8.wrap a1)) : Int)) (by decide) g25 (Int.le_refl _)
      refine ol_val (v := V2_0) (by exact xr_move rfl e2) rfl rfl rfl ?_
      obtain ⟨g27, h⟩ := gs h
      have f28 := o12.geO
      refine ol_op (by exact opv_copyCut rfl Try.underlying22 sz5 rfl rfl rfl rfl o12 g27.1 g27.2 (R2_0.gr fB)) rfl rfl rfl ?_
      rintro _ w29 ⟨rfl, o12, q26⟩
      have fB := fB.wrO q26 f28
      refine ol_nil ?_
      refine cw_seq ?_
      refine cw_region ?_
      refine ol_val (v := v10) (by exact xr_move rfl rfl) rfl rfl rfl ?_
      refine ol_val (v := v10) (by exact xr_move rfl rfl) rfl rfl rfl ?_
      obtain ⟨g31, h⟩ := gs h
      refine ol_val (v := subv 1 v10 (Int.toNat 4) (List.length (splL (List.set (List.set (List.replicate (Int.toNat 64) (0 : Int)) (Int.toNat 4) (IntKind.u8.wrap a0)) (Int.toNat 5) (IntKind.u8.wrap a1)) (Int.toNat 8) (List.take (List.length (List.set (List.set (List.replicate (Int.toNat 64) (0 : Int)) (Int.toNat 4) (IntKind.u8.wrap a0)) (Int.toNat 5) (IntKind.u8.wrap a1)) - Int.toNat 8) a2)))) (by exact xr_slice_l (K := (kI .u8)) (v := v10) rfl Try.underlying22 sz5 rfl o12.rd rfl (by decide) g31) rfl rfl rfl ?_
      have r30 : Rd (kI .u8) w29 (subv 1 v10 (Int.toNat 4) (List.length (splL (List.set (List.set (List.replicate (Int.toNat 64) (0 : Int)) (Int.toNat 4) (IntKind.u8.wrap a0)) (Int.toNat 5) (IntKind.u8.wrap a1)) (Int.toNat 8) (List.take (List.length (List.set (List.set (List.replicate (Int.toNat 64) (0 : Int)) (Int.toNat 4) (IntKind.u8.wrap a0)) (Int.toNat 5) (IntKind.u8.wrap a1)) - Int.toNat 8) a2)))) (cut (splL (List.set (List.set (List.replicate (Int.toNat 64) (0 : Int)) (Int.toNat 4) (IntKind.u8.wrap a0)) (Int.toNat 5) (IntKind.u8.wrap a1)) (Int.toNat 8) (List.take (List.length (List.set (List.set (List.replicate (Int.toNat 64) (0 : Int)) (Int.toNat 4) (IntKind.u8.wrap a0)) (Int.toNat 5) (IntKind.u8.wrap a1)) - Int.toNat 8) a2)) 4 (List.length (splL (List.set (List.set (List.replicate (Int.toNat 64) (0 : Int)) (Int.toNat 4) (IntKind.u8.wrap a0)) (Int.toNat 5) (IntKind.u8.wrap a1)) (Int.toNat 8) (List.take (List.length (List.set (List.set (List.replicate (Int.toNat 64) (0 : Int)) (Int.toNat 4) (IntKind.u8.wrap a0)) (Int.toNat 5) (IntKind.u8.wrap a1)) - Int.toNat 8) a2)) : Int)) := o12.rd.cut (lo := 4) (hi := (List.length (splL (List.set (List.set (List.replicate (Int.toNat 64) (0 : Int)) (Int.toNat 4) (IntKind.u8.wrap a0)) (Int.toNat 5) (IntKind.u8.wrap a1)) (Int.toNat 8) (List.take (List.length (List.set (List.set (List.replicate (Int.toNat 64) (0 : Int)) (Int.toNat 4) (IntKind.u8.wrap a0)) (Int.toNat 5) (IntKind.u8.wrap a1)) - Int.toNat 8) a2)) : Int)) (by decide) g31 (Int.le_refl _)
      refine ol_op (by exact opv_build1 rfl Try.underlying157 el22 rfl r30 rfl) rfl rfl rfl ?_
      rintro v32 w35 ⟨r34, q33⟩
      have o12 := o12.gr q33
      have fB := fB.gr q33
      obtain ⟨t36, k37, h⟩ := bs h
      refine ol_op (by exact opv_call rfl cal96 (ac rfl an) (crc_Sum.ok fu _ [(cut (splL (List.set (List.set (List.replicate (Int.toNat 64) (0 : Int)) (Int.toNat 4) (IntKind.u8.wrap a0)) (Int.toNat 5) (IntKind.u8.wrap a1)) (Int.toNat 8) (List.take (List.length (List.set (List.set (List.replicate (Int.toNat 64) (0 : Int)) (Int.toNat 4) (IntKind.u8.wrap a0)) (Int.toNat 5) (IntKind.u8.wrap a1)) - Int.toNat 8) a2)) 4 (List.length (splL (List.set (List.set (List.replicate (Int.toNat 64) (0 : Int)) (Int.toNat 4) (IntKind.u8.wrap a0)) (Int.toNat 5) (IntKind.u8.wrap a1)) (Int.toNat 8) (List.take (List.length (List.set (List.set (List.replicate (Int.toNat 64) (0 : Int)) (Int.toNat 4) (IntKind.u8.wrap a0)) (Int.toNat 5) (IntKind.u8.wrap a1)) - Int.toNat 8) a2)) : Int))] v32 (r34) _ k37)) rfl rfl rfl ?_
      rintro _ w39 ⟨rfl, q38⟩
      have o12 := o12.gr q38
      have fB := fB.gr q38
      refine ol_val (v := .int .u64 (IntKind.u64.wrap t36)) (by exact xr_conv rfl Try.underlying36 Try.underlying129 rfl) rfl rfl rfl ?_
      obtain ⟨t40, k41, h⟩ := bs h
      refine ol_op (by exact opv_call rfl cal95 (ac rfl (ac rfl an)) (octet_Lay.ok fu _ (IntKind.u64.wrap t36) 4 _ k41)) rfl rfl rfl ?_
      rintro u42 w46 ⟨_, o43, rfl, q45⟩
      have a47 := OffV.call o12 o43
      have o43 := Own.base o43 fB.size
      have o12 := o12.gr q45
      have fB := fB.gr q45
      have f49 := o12.geO
      refine ol_op (by exact opv_copyRow rfl Try.underlying22 sz5 rfl rfl rfl o12 o43.rd) rfl rfl rfl ?_
      rintro _ w50 ⟨rfl, o12, q48⟩
      have fB := fB.wrO q48 f49
      refine ol_nil ?_
      refine cw_seq ?_
      refine cw_region ?_
      refine ol_val (v := v10) (by exact xr_move rfl rfl) rfl rfl rfl ?_
      refine ol_val (v := v10) (by exact xr_assign rfl rfl) rfl rfl rfl ?_
      refine ol_val (v := .bool true) (by exact xr_assign rfl rfl) rfl rfl rfl ?_
      refine ol_nil ?_
      refine cw_ret ?_
      repeat (first | with_reducible refine thn_r ?_ | with_reducible refine blk_r ?_)
      obtain rfl := Option.some.inj h
      refine fin_ret2 Try.results28 rfl rfl ?_
      exact ⟨_, rfl, v10, o12, rfl, fB⟩
end Go.Proofs.Ytjhajfkfhdnciaa

/- rickyard/octet.Octets: its model, and that the Go function computes it: written by gen.py. -/
set_option linter.unusedVariables false
namespace Go.Proofs.Ytjhajfkfhdnciaa
open Go Go.Xw
def octet_Octets.s0 (fu : Nat) (a0 : List Int) : ((List Int) × Int) → Option (Sum (List Int) ((List Int) × Int)) := fun s4 => (if (decide (s4.2 < (List.length a0 : Int))) = true then (if 0 ≤ s4.2 ∧ s4.2 < (List.length a0 : Int) then ((octet_Lay.f fu (ix a0 s4.2) 8 : Option (List Int)).bind fun t19 => (if List.length s4.1 + List.length t19 ≤ LIM then some (Sum.inr ((s4.1 ++ t19), (IntKind.i64.wrap (s4.2 + 1)))) else none)) else none) else some (Sum.inl (s4.1)))
def octet_Octets.f (fu : Nat) (a0 : List Int) : Option (List Int) := ((loopM (octet_Octets.s0 fu a0) fu ([], 0)).bind fun e5 => some (e5))
set_option maxRecDepth 100000 in
set_option maxHeartbeats 400000 in
theorem octet_Octets.ok (fu : Nat) (w : World) (a0 : List Int) (V0_0 : Value) (R0_0 : Rd (kI .u64) w V0_0 a0) (r : (List Int)) (h : octet_Octets.f fu a0 = some r) :
    Calls Try.prog 104 (([V0_0] : List Value).toArray) w (fun e w' => ∃ v, e = .returned v ∧ ∃ u1 : Value, ∃ o2 : Own (kI .u8) 5 w' w.heap.size u1 r, v = u1 ∧ Gr w w') := by
  unfold octet_Octets.f at h
  have fB : Gr w w := Fr.refl _ _
  refine calls_cw Try.func104 rfl Try.ntmps104 rfl ?_
  refine cw_seq ?_
  refine cw_region ?_
  refine ol_val (v := .slice none 0 0) (by exact xr_assign rfl rfl) rfl rfl rfl ?_
  refine ol_nil ?_
  refine cw_seq ?_
  refine cw_region ?_
  refine ol_val (v := .slice none 0 0) (by exact xr_assign rfl rfl) rfl rfl rfl ?_
  refine ol_nil ?_
  refine cw_seq ?_
  refine cw_seq ?_
  refine cw_region ?_
  refine ol_val (v := V0_0) (by exact xr_move rfl rfl) rfl rfl rfl ?_
  refine ol_val (v := .int .i64 (List.length a0 : Int)) (by exact xr_lenR rfl Try.underlying168 rfl (R0_0.gr fB)) rfl rfl rfl ?_
  refine ol_val (v := .int .i64 0) (by exact xr_move rfl rfl) rfl rfl rfl ?_
  refine ol_nil ?_
  obtain ⟨e5, l6, h7⟩ := bs h
  refine cw_mid (fun ρ' w' => ∃ v8 : Value, ∃ o9 : Own (kI .u8) 5 w' w.heap.size v8 e5, ρ' 3 = v8 ∧ Gr w w') ?_ ?_
  · refine cw_block ?_
    refine cw_round (fun (s4 : (List Int) × Int) ρ' w' => ∃ v11 : Value, ∃ o12 : Own (kI .u8) 5 w' w.heap.size v11 s4.1, ρ' 3 = v11 ∧ ρ' 6 = V0_0 ∧ ρ' 7 = .int .i64 (List.length a0 : Int) ∧ ρ' 8 = .int .i64 s4.2 ∧ Gr w w') l6 ?_ ?_
    · skip
      exact ⟨(.slice none 0 0), Own.nil _ _ _ _, rfl, rfl, rfl, rfl, fB⟩
    · rintro s4 x16 ρ14 w15 ⟨v11, o12, e3, e6, e7, e8, fB⟩ h
      unfold octet_Octets.s0 at h
      refine cw_seq ?_
      refine cw_region ?_
      refine ol_val (v := .bool (decide (s4.2 < (List.length a0 : Int)))) (by exact xr_lss rfl e8 e7) rfl rfl rfl ?_
      refine ol_nil ?_
      refine cw_seq ?_
      rcases is h with ⟨c17, h⟩ | ⟨c17, h⟩
      · refine cw_condT rfl c17 ?_
        refine cw_skip ?_
        refine cw_seq ?_
        refine cw_block ?_
        refine cw_seq ?_
        refine cw_region ?_
        obtain ⟨g18, h⟩ := gs h
        refine ol_val (v := .pointer (some ⟨(sb V0_0), so V0_0 + Int.toNat s4.2 * 1, none⟩)) (by exact xr_indexR (K := (kI .u64)) (v := V0_0) rfl Try.underlying168 sz129 e6 (R0_0.gr fB) e8 g18.1 g18.2) rfl rfl rfl ?_
        refine ol_val (v := .int .u64 (ix a0 s4.2)) (by exact xr_load1 (v := .int .u64 (ix a0 s4.2)) rfl ag129 rfl ((R0_0.gr fB).elem g18.1 g18.2)) rfl rfl rfl ?_
        refine ol_val (v := .int .u64 (ix a0 s4.2)) (by exact xr_assign rfl rfl) rfl rfl rfl ?_
        refine ol_nil ?_
        refine cw_region ?_
        refine ol_val (v := v11) (by exact xr_move rfl e3) rfl rfl rfl ?_
        refine ol_val (v := .int .u64 (ix a0 s4.2)) (by exact xr_move rfl rfl) rfl rfl rfl ?_
        obtain ⟨t19, k20, h⟩ := bs h
        refine ol_op (by exact opv_call rfl cal95 (ac rfl (ac rfl an)) (octet_Lay.ok fu _ (ix a0 s4.2) 8 _ k20)) rfl rfl rfl ?_
        rintro u21 w25 ⟨_, o22, rfl, q24⟩
        have a26 := OffV.call o12 o22
        have o22 := Own.base o22 fB.size
        have o12 := o12.gr q24
        have fB := fB.gr q24
        obtain ⟨g31, h⟩ := gs h
        have f33 := o12.geO
        refine ol_op (by exact opv_append (K := (kI .u8)) rfl Try.underlying22 el5 rfl rfl rfl rfl rfl o12 o22.rd g31 fB.size) rfl rfl rfl ?_
        rintro v27 w34 ⟨o28, q29, n30⟩
        have fB := fB.wrO q29 f33
        refine ol_val (v := v27) (by exact xr_assign rfl rfl) rfl rfl rfl ?_
        refine ol_nil ?_
        refine blk_i ?_
        refine cw_region ?_
        refine ol_val (v := .int .i64 (IntKind.i64.wrap (s4.2 + 1))) (by exact xr_add rfl e8 rfl) rfl rfl rfl ?_
        refine ol_val (v := .int .i64 (IntKind.i64.wrap (s4.2 + 1))) (by exact xr_move rfl rfl) rfl rfl rfl ?_
        refine ol_nil ?_
        obtain rfl := Option.some.inj h
        refine lp_in ?_
        exact ⟨v27, o28, rfl, e6, e7, rfl, fB⟩
      · refine cw_condF rfl c17 ?_
        refine cw_exit ?_
        repeat (first | with_reducible refine thn_e ?_ | with_reducible refine blk_e rfl ?_)
        obtain rfl := Option.some.inj h
        refine lp_exit ?_
        rintro rfl
        refine thn_x ?_
        exact ⟨v11, o12, e3, fB⟩
  · rintro ρ35 w36 ⟨v8, o9, e3, fB⟩
    have h := h7
    refine cw_seq ?_
    refine cw_region ?_
    refine ol_val (v := v8) (by exact xr_move rfl e3) rfl rfl rfl ?_
    refine ol_val (v := v8) (by exact xr_assign rfl rfl) rfl rfl rfl ?_
    refine ol_nil ?_
    refine cw_ret ?_
    repeat (first | with_reducible refine thn_r ?_ | with_reducible refine blk_r ?_)
    obtain rfl := Option.some.inj h
    refine fin_ret1 Try.results104 rfl ?_
    exact ⟨_, rfl, v8, o9, rfl, fB⟩
end Go.Proofs.Ytjhajfkfhdnciaa

/- rickyard/super.Put: its model, and that the Go function computes it: written by gen.py. -/
set_option linter.unusedVariables false
namespace Go.Proofs.Ytjhajfkfhdnciaa
open Go Go.Xw
def super_Put.s0 (fu : Nat) (a0 : S_api_Super) : ((List Int) × Int) → Option (Sum (List Int) ((List Int) × Int)) := fun s28 => (if (decide (s28.2 < 5)) = true then (if 0 ≤ s28.2 ∧ s28.2 < 5 then ((octet_Lay.f fu (IntKind.u64.wrap (Arr.get (Arr.set (Arr.set (Arr.set (Arr.set (Arr.set (Arr.rep 5 (0 : Int)) 0 a0.Tickets.Geometry.Blocks) 1 a0.Tickets.Geometry.Slots) 2 a0.Tickets.Geometry.Gens) 3 a0.Tickets.High) 4 a0.Tickets.Free) s28.2)) 4 : Option (List Int)).bind fun t43 => (if List.length s28.1 + List.length t43 ≤ LIM then some (Sum.inr ((s28.1 ++ t43), (IntKind.i64.wrap (s28.2 + 1)))) else none)) else none) else some (Sum.inl (s28.1)))
def super_Put.s1 (fu : Nat) (a0 : S_api_Super) : ((List Int) × Int) → Option (Sum (List Int) ((List Int) × Int)) := fun s78 => (if (decide (s78.2 < (List.length ([a0.Tickets.Top, a0.Dir] ++ a0.Charts) : Int))) = true then (if 0 ≤ s78.2 ∧ s78.2 < (List.length ([a0.Tickets.Top, a0.Dir] ++ a0.Charts) : Int) then ((octet_Lay.f fu (IntKind.u64.wrap (ix ([a0.Tickets.Top, a0.Dir] ++ a0.Charts) s78.2)) 2 : Option (List Int)).bind fun t93 => (if List.length s78.1 + List.length t93 ≤ LIM then some (Sum.inr ((s78.1 ++ t93), (IntKind.i64.wrap (s78.2 + 1)))) else none)) else none) else some (Sum.inl (s78.1)))
def super_Put.f (fu : Nat) (a0 : S_api_Super) : Option ((List Int) × Bool) := ((super_Right.f fu a0 : Option Bool).bind fun t10 => (if (!t10) = true then some ([], false) else ((octet_Octets.f fu [(IntKind.u64.wrap a0.Epoch)] : Option (List Int)).bind fun t21 => ((loopM (super_Put.s0 fu a0) fu (t21, 0)).bind fun e29 => (if List.length [a0.Tickets.Top, a0.Dir] + List.length a0.Charts ≤ LIM then ((loopM (super_Put.s1 fu a0) fu (e29, 0)).bind fun e79 => ((block_Seal.f fu 7 (List.length a0.Charts : Int) e79 : Option ((List Int) × Bool)).bind fun t113 => some (t113.1, t113.2))) else none)))))
set_option maxRecDepth 100000 in
set_option maxHeartbeats 400000 in
theorem super_Put.ok (fu : Nat) (w : World) (a0 : S_api_Super) (V0_0 : Value) (R0_0 : Rd (kI .i64) w V0_0 a0.Charts) (r : (List Int) × Bool) (h : super_Put.f fu a0 = some r) :
    Calls Try.prog 91 (([aggV [Seg.cell (.int .i64 a0.Epoch), Seg.cell (.int .i64 a0.Tickets.Geometry.Blocks), Seg.cell (.int .i64 a0.Tickets.Geometry.Slots), Seg.cell (.int .i64 a0.Tickets.Geometry.Gens), Seg.cell (.int .i64 a0.Tickets.Top), Seg.cell (.int .i64 a0.Tickets.High), Seg.cell (.int .i64 a0.Tickets.Free), Seg.cell (.int .i64 a0.Dir), Seg.cell V0_0 R0_0.one]] : List Value).toArray) w (fun e w' => ∃ v, e = .returned v ∧ ∃ u1 : Value, ∃ o2 : Own (kI .u8) 5 w' w.heap.size u1 r.1, v = .tuple #[u1, .bool r.2] ∧ Gr w w') := by
  unfold super_Put.f at h
  have fB : Gr w w := Fr.refl _ _
  refine calls_cw Try.func91 rfl Try.ntmps91 rfl ?_
  refine cw_seq ?_
  refine cw_region ?_
  refine ol_op (by exact opv_box (ss := [Seg.cell (.int .i64 a0.Epoch), Seg.cell (.int .i64 a0.Tickets.Geometry.Blocks), Seg.cell (.int .i64 a0.Tickets.Geometry.Slots), Seg.cell (.int .i64 a0.Tickets.Geometry.Gens), Seg.cell (.int .i64 a0.Tickets.Top), Seg.cell (.int .i64 a0.Tickets.High), Seg.cell (.int .i64 a0.Tickets.Free), Seg.cell (.int .i64 a0.Dir), Seg.cell V0_0 R0_0.one]) rfl rfl rfl) rfl rfl rfl ?_
  rintro _ w9 ⟨G4, rfl, b5, q6, z7⟩
  have z7 := Nat.le_trans fB.size z7
  have fB := fB.gr q6
  refine ol_val (v := .slice none 0 0) (by exact xr_assign rfl rfl) rfl rfl rfl ?_
  refine ol_val (v := .bool false) (by exact xr_assign rfl rfl) rfl rfl rfl ?_
  refine ol_nil ?_
  refine cw_seq ?_
  refine cw_seq ?_
  refine cw_region ?_
  refine ol_val (v := aggV [Seg.cell (.int .i64 a0.Epoch), Seg.cell (.int .i64 a0.Tickets.Geometry.Blocks), Seg.cell (.int .i64 a0.Tickets.Geometry.Slots), Seg.cell (.int .i64 a0.Tickets.Geometry.Gens), Seg.cell (.int .i64 a0.Tickets.Top), Seg.cell (.int .i64 a0.Tickets.High), Seg.cell (.int .i64 a0.Tickets.Free), Seg.cell (.int .i64 a0.Dir), Seg.cell V0_0 R0_0.one]) (by exact xr_loadS (ss := [Seg.cell (.int .i64 a0.Epoch), Seg.cell (.int .i64 a0.Tickets.Geometry.Blocks), Seg.cell (.int .i64 a0.Tickets.Geometry.Slots), Seg.cell (.int .i64 a0.Tickets.Geometry.Gens), Seg.cell (.int .i64 a0.Tickets.Top), Seg.cell (.int .i64 a0.Tickets.High), Seg.cell (.int .i64 a0.Tickets.Free), Seg.cell (.int .i64 a0.Dir), Seg.cell V0_0 R0_0.one]) rfl ag120 sz120 rfl rfl (b5.segs 0 9 rfl)) rfl rfl rfl ?_
  obtain ⟨t10, k11, h⟩ := bs h
  refine ol_op (by exact opv_call rfl cal92 (ac rfl an) (super_Right.ok fu _ a0 V0_0 (R0_0.gr fB) _ k11)) rfl rfl rfl ?_
  rintro _ w13 ⟨rfl, q12⟩
  have b5 := b5.gr q12
  have fB := fB.gr q12
  refine ol_val (v := .bool (!t10)) (by exact xr_not rfl rfl) rfl rfl rfl ?_
  refine ol_nil ?_
  rcases is h with ⟨c14, h⟩ | ⟨c14, h⟩
  · refine cw_condT rfl c14 ?_
    refine cw_seq ?_
    refine cw_region ?_
    refine ol_val (v := .slice none 0 0) (by exact xr_assign rfl rfl) rfl rfl rfl ?_
    refine ol_val (v := .bool false) (by exact xr_assign rfl rfl) rfl rfl rfl ?_
    refine ol_nil ?_
    refine cw_ret ?_
    repeat (first | with_reducible refine thn_r ?_ | with_reducible refine blk_r ?_)
    obtain rfl := Option.some.inj h
    refine fin_ret2 Try.results91 rfl rfl ?_
    exact ⟨_, rfl, (.slice none 0 0), Own.nil _ _ _ _, rfl, fB⟩
  · refine cw_condF rfl c14 ?_
    refine cw_skip ?_
    refine cw_seq ?_
    refine cw_region ?_
    refine ol_val (v := .pointer (some ⟨G4, 0, none⟩)) (by exact xr_fieldAddr (p := 0) (q := 0) rfl fl120_0 rfl) rfl rfl rfl ?_
    refine ol_val (v := .int .i64 a0.Epoch) (by exact xr_load1 (v := .int .i64 a0.Epoch) rfl ag3 rfl (b5.seg 0 rfl rfl)) rfl rfl rfl ?_
    refine ol_val (v := .int .u64 (IntKind.u64.wrap a0.Epoch)) (by exact xr_conv rfl Try.underlying3 Try.underlying129 rfl) rfl rfl rfl ?_
    refine ol_op (by exact opv_buildSlice (K := (kI .u64)) (xs := [(IntKind.u64.wrap a0.Epoch)]) (vals := [.int .u64 (IntKind.u64.wrap a0.Epoch)]) rfl Try.underlying168 el129 rfl rfl ⟨rfl, rfl, trivial⟩ rfl rfl rfl fB.size) rfl rfl rfl ?_
    rintro v15 w20 ⟨o17, q16, z18⟩
    have b5 := b5.gr q16
    have fB := fB.gr q16
    obtain ⟨t21, k22, h⟩ := bs h
    refine ol_op (by exact opv_call rfl cal104 (ac rfl an) (octet_Octets.ok fu _ [(IntKind.u64.wrap a0.Epoch)] v15 (o17.rd) _ k22)) rfl rfl rfl ?_
    rintro u23 w27 ⟨_, o24, rfl, q26⟩
    have o24 := Own.base o24 fB.size
    have b5 := b5.gr q26
    have fB := fB.gr q26
    refine ol_val (v := u23) (by exact xr_assign rfl rfl) rfl rfl rfl ?_
    refine ol_nil ?_
    refine cw_seq ?_
    refine cw_seq ?_
    refine cw_region ?_
    refine ol_val (v := .pointer (some ⟨G4, 1, none⟩)) (by exact xr_fieldAddr (p := 0) (q := 1) rfl fl120_1 rfl) rfl rfl rfl ?_
    refine ol_val (v := .pointer (some ⟨G4, 1, none⟩)) (by exact xr_fieldAddr (p := 1) (q := 0) rfl fl118_0 rfl) rfl rfl rfl ?_
    refine ol_val (v := .pointer (some ⟨G4, 1, none⟩)) (by exact xr_fieldAddr (p := 1) (q := 0) rfl fl116_0 rfl) rfl rfl rfl ?_
    refine ol_val (v := .int .i64 a0.Tickets.Geometry.Blocks) (by exact xr_load1 (v := .int .i64 a0.Tickets.Geometry.Blocks) rfl ag3 rfl (b5.seg 1 rfl rfl)) rfl rfl rfl ?_
    refine ol_val (v := .pointer (some ⟨G4, 1, none⟩)) (by exact xr_fieldAddr (p := 0) (q := 1) rfl fl120_1 rfl) rfl rfl rfl ?_
    refine ol_val (v := .pointer (some ⟨G4, 1, none⟩)) (by exact xr_fieldAddr (p := 1) (q := 0) rfl fl118_0 rfl) rfl rfl rfl ?_
    refine ol_val (v := .pointer (some ⟨G4, 2, none⟩)) (by exact xr_fieldAddr (p := 1) (q := 1) rfl fl116_1 rfl) rfl rfl rfl ?_
    refine ol_val (v := .int .i64 a0.Tickets.Geometry.Slots) (by exact xr_load1 (v := .int .i64 a0.Tickets.Geometry.Slots) rfl ag3 rfl (b5.seg 2 rfl rfl)) rfl rfl rfl ?_
    refine ol_val (v := .pointer (some ⟨G4, 1, none⟩)) (by exact xr_fieldAddr (p := 0) (q := 1) rfl fl120_1 rfl) rfl rfl rfl ?_
    refine ol_val (v := .pointer (some ⟨G4, 1, none⟩)) (by exact xr_fieldAddr (p := 1) (q := 0) rfl fl118_0 rfl) rfl rfl rfl ?_
    refine ol_val (v := .pointer (some ⟨G4, 3, none⟩)) (by exact xr_fieldAddr (p := 1) (q := 2) rfl fl116_2 rfl) rfl rfl rfl ?_
    refine ol_val (v := .int .i64 a0.Tickets.Geometry.Gens) (by exact xr_load1 (v := .int .i64 a0.Tickets.Geometry.Gens) rfl ag3 rfl (b5.seg 3 rfl rfl)) rfl rfl rfl ?_
    refine ol_val (v := .pointer (some ⟨G4, 1, none⟩)) (by exact xr_fieldAddr (p := 0) (q := 1) rfl fl120_1 rfl) rfl rfl rfl ?_
    refine ol_val (v := .pointer (some ⟨G4, 5, none⟩)) (by exact xr_fieldAddr (p := 1) (q := 4) rfl fl118_2 rfl) rfl rfl rfl ?_
    refine ol_val (v := .int .i64 a0.Tickets.High) (by exact xr_load1 (v := .int .i64 a0.Tickets.High) rfl ag3 rfl (b5.seg 5 rfl rfl)) rfl rfl rfl ?_
    refine ol_val (v := .pointer (some ⟨G4, 1, none⟩)) (by exact xr_fieldAddr (p := 0) (q := 1) rfl fl120_1 rfl) rfl rfl rfl ?_
    refine ol_val (v := .pointer (some ⟨G4, 6, none⟩)) (by exact xr_fieldAddr (p := 1) (q := 5) rfl fl118_3 rfl) rfl rfl rfl ?_
    refine ol_val (v := .int .i64 a0.Tickets.Free) (by exact xr_load1 (v := .int .i64 a0.Tickets.Free) rfl ag3 rfl (b5.seg 6 rfl rfl)) rfl rfl rfl ?_
    refine ol_val (v := aggV [Kd.seg (kA 5 (kI .i64)) (Arr.set (Arr.set (Arr.set (Arr.set (Arr.set (Arr.rep 5 (0 : Int)) 0 a0.Tickets.Geometry.Blocks) 1 a0.Tickets.Geometry.Slots) 2 a0.Tickets.Geometry.Gens) 3 a0.Tickets.High) 4 a0.Tickets.Free)]) (by exact xr_buildA (vals := [(0, .int .i64 a0.Tickets.Geometry.Blocks), (1, .int .i64 a0.Tickets.Geometry.Slots), (2, .int .i64 a0.Tickets.Geometry.Gens), (3, .int .i64 a0.Tickets.High), (4, .int .i64 a0.Tickets.Free)]) (res := [Kd.seg (kA 5 (kI .i64)) (Arr.set (Arr.set (Arr.set (Arr.set (Arr.set (Arr.rep 5 (0 : Int)) 0 a0.Tickets.Geometry.Blocks) 1 a0.Tickets.Geometry.Slots) 2 a0.Tickets.Geometry.Gens) 3 a0.Tickets.High) 4 a0.Tickets.Free)]) rfl ⟨rfl, rfl, ⟨rfl, rfl, ⟨rfl, rfl, ⟨rfl, rfl, ⟨rfl, rfl, trivial⟩⟩⟩⟩⟩ Try.underlying155 ze155 sz3 (fl_cons (xs := Kd.enc (kI .i64) a0.Tickets.Geometry.Blocks) (cs' := cellsOf [Kd.seg (kA 5 (kI .i64)) (Arr.set (Arr.rep 5 (0 : Int)) 0 a0.Tickets.Geometry.Blocks)]) rfl rfl (Kd.len _ _) (Spl.seg_in (p := 0) (o := Int.toNat 0 * Kd.size (kI .i64) + 0) [Kd.seg (kA 5 (kI .i64)) (Arr.rep 5 (0 : Int))] 0 (Kd.seg (kA 5 (kI .i64)) (Arr.set (Arr.rep 5 (0 : Int)) 0 a0.Tickets.Geometry.Blocks)) rfl rfl (Spl.arr (K := (kI .i64)) (Arr.rep 5 (0 : Int)) 0 a0.Tickets.Geometry.Blocks (by decide) (by decide) (Spl.whole ((Kd.len _ _).trans (Kd.len _ _).symm)))) (fl_cons (xs := Kd.enc (kI .i64) a0.Tickets.Geometry.Slots) (cs' := cellsOf [Kd.seg (kA 5 (kI .i64)) (Arr.set (Arr.set (Arr.rep 5 (0 : Int)) 0 a0.Tickets.Geometry.Blocks) 1 a0.Tickets.Geometry.Slots)]) rfl rfl (Kd.len _ _) (Spl.seg_in (p := 0) (o := Int.toNat 1 * Kd.size (kI .i64) + 0) [Kd.seg (kA 5 (kI .i64)) (Arr.set (Arr.rep 5 (0 : Int)) 0 a0.Tickets.Geometry.Blocks)] 0 (Kd.seg (kA 5 (kI .i64)) (Arr.set (Arr.set (Arr.rep 5 (0 : Int)) 0 a0.Tickets.Geometry.Blocks) 1 a0.Tickets.Geometry.Slots)) rfl rfl (Spl.arr (K := (kI .i64)) (Arr.set (Arr.rep 5 (0 : Int)) 0 a0.Tickets.Geometry.Blocks) 1 a0.Tickets.Geometry.Slots (by decide) (by decide) (Spl.whole ((Kd.len _ _).trans (Kd.len _ _).symm)))) (fl_cons (xs := Kd.enc (kI .i64) a0.Tickets.Geometry.Gens) (cs' := cellsOf [Kd.seg (kA 5 (kI .i64)) (Arr.set (Arr.set (Arr.set (Arr.rep 5 (0 : Int)) 0 a0.Tickets.Geometry.Blocks) 1 a0.Tickets.Geometry.Slots) 2 a0.Tickets.Geometry.Gens)]) rfl rfl (Kd.len _ _) (Spl.seg_in (p := 0) (o := Int.toNat 2 * Kd.size (kI .i64) + 0) [Kd.seg (kA 5 (kI .i64)) (Arr.set (Arr.set (Arr.rep 5 (0 : Int)) 0 a0.Tickets.Geometry.Blocks) 1 a0.Tickets.Geometry.Slots)] 0 (Kd.seg (kA 5 (kI .i64)) (Arr.set (Arr.set (Arr.set (Arr.rep 5 (0 : Int)) 0 a0.Tickets.Geometry.Blocks) 1 a0.Tickets.Geometry.Slots) 2 a0.Tickets.Geometry.Gens)) rfl rfl (Spl.arr (K := (kI .i64)) (Arr.set (Arr.set (Arr.rep 5 (0 : Int)) 0 a0.Tickets.Geometry.Blocks) 1 a0.Tickets.Geometry.Slots) 2 a0.Tickets.Geometry.Gens (by decide) (by decide) (Spl.whole ((Kd.len _ _).trans (Kd.len _ _).symm)))) (fl_cons (xs := Kd.enc (kI .i64) a0.Tickets.High) (cs' := cellsOf [Kd.seg (kA 5 (kI .i64)) (Arr.set (Arr.set (Arr.set (Arr.set (Arr.rep 5 (0 : Int)) 0 a0.Tickets.Geometry.Blocks) 1 a0.Tickets.Geometry.Slots) 2 a0.Tickets.Geometry.Gens) 3 a0.Tickets.High)]) rfl rfl (Kd.len _ _) (Spl.seg_in (p := 0) (o := Int.toNat 3 * Kd.size (kI .i64) + 0) [Kd.seg (kA 5 (kI .i64)) (Arr.set (Arr.set (Arr.set (Arr.rep 5 (0 : Int)) 0 a0.Tickets.Geometry.Blocks) 1 a0.Tickets.Geometry.Slots) 2 a0.Tickets.Geometry.Gens)] 0 (Kd.seg (kA 5 (kI .i64)) (Arr.set (Arr.set (Arr.set (Arr.set (Arr.rep 5 (0 : Int)) 0 a0.Tickets.Geometry.Blocks) 1 a0.Tickets.Geometry.Slots) 2 a0.Tickets.Geometry.Gens) 3 a0.Tickets.High)) rfl rfl (Spl.arr (K := (kI .i64)) (Arr.set (Arr.set (Arr.set (Arr.rep 5 (0 : Int)) 0 a0.Tickets.Geometry.Blocks) 1 a0.Tickets.Geometry.Slots) 2 a0.Tickets.Geometry.Gens) 3 a0.Tickets.High (by decide) (by decide) (Spl.whole ((Kd.len _ _).trans (Kd.len _ _).symm)))) (fl_cons (xs := Kd.enc (kI .i64) a0.Tickets.Free) (cs' := cellsOf [Kd.seg (kA 5 (kI .i64)) (Arr.set (Arr.set (Arr.set (Arr.set (Arr.set (Arr.rep 5 (0 : Int)) 0 a0.Tickets.Geometry.Blocks) 1 a0.Tickets.Geometry.Slots) 2 a0.Tickets.Geometry.Gens) 3 a0.Tickets.High) 4 a0.Tickets.Free)]) rfl rfl (Kd.len _ _) (Spl.seg_in (p := 0) (o := Int.toNat 4 * Kd.size (kI .i64) + 0) [Kd.seg (kA 5 (kI .i64)) (Arr.set (Arr.set (Arr.set (Arr.set (Arr.rep 5 (0 : Int)) 0 a0.Tickets.Geometry.Blocks) 1 a0.Tickets.Geometry.Slots) 2 a0.Tickets.Geometry.Gens) 3 a0.Tickets.High)] 0 (Kd.seg (kA 5 (kI .i64)) (Arr.set (Arr.set (Arr.set (Arr.set (Arr.set (Arr.rep 5 (0 : Int)) 0 a0.Tickets.Geometry.Blocks) 1 a0.Tickets.Geometry.Slots) 2 a0.Tickets.Geometry.Gens) 3 a0.Tickets.High) 4 a0.Tickets.Free)) rfl rfl (Spl.arr (K := (kI .i64)) (Arr.set (Arr.set (Arr.set (Arr.set (Arr.rep 5 (0 : Int)) 0 a0.Tickets.Geometry.Blocks) 1 a0.Tickets.Geometry.Slots) 2 a0.Tickets.Geometry.Gens) 3 a0.Tickets.High) 4 a0.Tickets.Free (by decide) (by decide) (Spl.whole ((Kd.len _ _).trans (Kd.len _ _).symm)))) fl_nil)))))) rfl rfl rfl ?_
    refine ol_val (v := .int .i64 0) (by exact xr_move rfl rfl) rfl rfl rfl ?_
    refine ol_nil ?_
    obtain ⟨e29, l30, h31⟩ := bs h
    refine cw_mid (fun ρ' w' => ∃ v32 : Value, ∃ o33 : Own (kI .u8) 5 w' w.heap.size v32 e29, ρ' 1 = .pointer (some ⟨G4, 0, none⟩) ∧ ρ' 4 = v32 ∧ Blk w' G4 120 [Seg.cell (.int .i64 a0.Epoch), Seg.cell (.int .i64 a0.Tickets.Geometry.Blocks), Seg.cell (.int .i64 a0.Tickets.Geometry.Slots), Seg.cell (.int .i64 a0.Tickets.Geometry.Gens), Seg.cell (.int .i64 a0.Tickets.Top), Seg.cell (.int .i64 a0.Tickets.High), Seg.cell (.int .i64 a0.Tickets.Free), Seg.cell (.int .i64 a0.Dir), Seg.cell V0_0 R0_0.one] ∧ Gr w w') ?_ ?_
    · refine cw_block ?_
      refine cw_round (fun (s28 : (List Int) × Int) ρ' w' => ∃ v35 : Value, ∃ o36 : Own (kI .u8) 5 w' w.heap.size v35 s28.1, ρ' 1 = .pointer (some ⟨G4, 0, none⟩) ∧ ρ' 4 = v35 ∧ ρ' 35 = aggV [Kd.seg (kA 5 (kI .i64)) (Arr.set (Arr.set (Arr.set (Arr.set (Arr.set (Arr.rep 5 (0 : Int)) 0 a0.Tickets.Geometry.Blocks) 1 a0.Tickets.Geometry.Slots) 2 a0.Tickets.Geometry.Gens) 3 a0.Tickets.High) 4 a0.Tickets.Free)] ∧ ρ' 36 = .int .i64 s28.2 ∧ Blk w' G4 120 [Seg.cell (.int .i64 a0.Epoch), Seg.cell (.int .i64 a0.Tickets.Geometry.Blocks), Seg.cell (.int .i64 a0.Tickets.Geometry.Slots), Seg.cell (.int .i64 a0.Tickets.Geometry.Gens), Seg.cell (.int .i64 a0.Tickets.Top), Seg.cell (.int .i64 a0.Tickets.High), Seg.cell (.int .i64 a0.Tickets.Free), Seg.cell (.int .i64 a0.Dir), Seg.cell V0_0 R0_0.one] ∧ Gr w w') l30 ?_ ?_
      · skip
        exact ⟨u23, o24, rfl, rfl, rfl, rfl, b5, fB⟩
      · rintro s28 x40 ρ38 w39 ⟨v35, o36, e1, e4, e35, e36, b5, fB⟩ h
        unfold super_Put.s0 at h
        refine cw_seq ?_
        refine cw_region ?_
        refine ol_val (v := .bool (decide (s28.2 < 5))) (by exact xr_lss rfl e36 rfl) rfl rfl rfl ?_
        refine ol_nil ?_
        refine cw_seq ?_
        rcases is h with ⟨c41, h⟩ | ⟨c41, h⟩
        · refine cw_condT rfl c41 ?_
          refine cw_skip ?_
          refine cw_seq ?_
          refine cw_block ?_
          refine cw_seq ?_
          refine cw_region ?_
          obtain ⟨g42, h⟩ := gs h
          refine ol_val (v := .int .i64 (Arr.get (Arr.set (Arr.set (Arr.set (Arr.set (Arr.set (Arr.rep 5 (0 : Int)) 0 a0.Tickets.Geometry.Blocks) 1 a0.Tickets.Geometry.Slots) 2 a0.Tickets.Geometry.Gens) 3 a0.Tickets.High) 4 a0.Tickets.Free) s28.2)) (by exact xr_indexArr1 (K := (kI .i64)) (a := (Arr.set (Arr.set (Arr.set (Arr.set (Arr.set (Arr.rep 5 (0 : Int)) 0 a0.Tickets.Geometry.Blocks) 1 a0.Tickets.Geometry.Slots) 2 a0.Tickets.Geometry.Gens) 3 a0.Tickets.High) 4 a0.Tickets.Free)) (v := .int .i64 (Arr.get (Arr.set (Arr.set (Arr.set (Arr.set (Arr.set (Arr.rep 5 (0 : Int)) 0 a0.Tickets.Geometry.Blocks) 1 a0.Tickets.Geometry.Slots) 2 a0.Tickets.Geometry.Gens) 3 a0.Tickets.High) 4 a0.Tickets.Free) s28.2)) rfl Try.underlying155 ag3 sz3 e35 e36 rfl g42.1 g42.2 rfl) rfl rfl rfl ?_
          refine ol_val (v := .int .i64 (Arr.get (Arr.set (Arr.set (Arr.set (Arr.set (Arr.set (Arr.rep 5 (0 : Int)) 0 a0.Tickets.Geometry.Blocks) 1 a0.Tickets.Geometry.Slots) 2 a0.Tickets.Geometry.Gens) 3 a0.Tickets.High) 4 a0.Tickets.Free) s28.2)) (by exact xr_assign rfl rfl) rfl rfl rfl ?_
          refine ol_nil ?_
          refine cw_region ?_
          refine ol_val (v := v35) (by exact xr_move rfl e4) rfl rfl rfl ?_
          refine ol_val (v := .int .i64 (Arr.get (Arr.set (Arr.set (Arr.set (Arr.set (Arr.set (Arr.rep 5 (0 : Int)) 0 a0.Tickets.Geometry.Blocks) 1 a0.Tickets.Geometry.Slots) 2 a0.Tickets.Geometry.Gens) 3 a0.Tickets.High) 4 a0.Tickets.Free) s28.2)) (by exact xr_move rfl rfl) rfl rfl rfl ?_
          refine ol_val (v := .int .u64 (IntKind.u64.wrap (Arr.get (Arr.set (Arr.set (Arr.set (Arr.set (Arr.set (Arr.rep 5 (0 : Int)) 0 a0.Tickets.Geometry.Blocks) 1 a0.Tickets.Geometry.Slots) 2 a0.Tickets.Geometry.Gens) 3 a0.Tickets.High) 4 a0.Tickets.Free) s28.2))) (by exact xr_conv rfl Try.underlying3 Try.underlying129 rfl) rfl rfl rfl ?_
          obtain ⟨t43, k44, h⟩ := bs h
          refine ol_op (by exact opv_call rfl cal95 (ac rfl (ac rfl an)) (octet_Lay.ok fu _ (IntKind.u64.wrap (Arr.get (Arr.set (Arr.set (Arr.set (Arr.set (Arr.set (Arr.rep 5 (0 : Int)) 0 a0.Tickets.Geometry.Blocks) 1 a0.Tickets.Geometry.Slots) 2 a0.Tickets.Geometry.Gens) 3 a0.Tickets.High) 4 a0.Tickets.Free) s28.2)) 4 _ k44)) rfl rfl rfl ?_
          rintro u45 w49 ⟨_, o46, rfl, q48⟩
          have a50 := OffV.call o36 o46
          have o46 := Own.base o46 fB.size
          have b5 := b5.gr q48
          have o36 := o36.gr q48
          have fB := fB.gr q48
          obtain ⟨g55, h⟩ := gs h
          have f57 := off_ty b5 o36 (by decide)
          have f58 := o36.geO
          refine ol_op (by exact opv_append (K := (kI .u8)) rfl Try.underlying22 el5 rfl rfl rfl rfl rfl o36 o46.rd g55 fB.size) rfl rfl rfl ?_
          rintro v51 w59 ⟨o52, q53, n54⟩
          have b5 := b5.wrO q53 f57
          have fB := fB.wrO q53 f58
          refine ol_val (v := v51) (by exact xr_assign rfl rfl) rfl rfl rfl ?_
          refine ol_nil ?_
          refine blk_i ?_
          refine cw_region ?_
          refine ol_val (v := .int .i64 (IntKind.i64.wrap (s28.2 + 1))) (by exact xr_add rfl e36 rfl) rfl rfl rfl ?_
          refine ol_val (v := .int .i64 (IntKind.i64.wrap (s28.2 + 1))) (by exact xr_move rfl rfl) rfl rfl rfl ?_
          refine ol_nil ?_
          obtain rfl := Option.some.inj h
          refine lp_in ?_
          exact ⟨v51, o52, e1, rfl, e35, rfl, b5, fB⟩
        · refine cw_condF rfl c41 ?_
          refine cw_exit ?_
          repeat (first | with_reducible refine thn_e ?_ | with_reducible refine blk_e rfl ?_)
          obtain rfl := Option.some.inj h
          refine lp_exit ?_
          rintro rfl
          refine thn_x ?_
          exact ⟨v35, o36, e1, e4, b5, fB⟩
    · rintro ρ60 w61 ⟨v32, o33, e1, e4, b5, fB⟩
      have h := h31
      refine cw_seq ?_
      refine cw_seq ?_
      refine cw_region ?_
      refine ol_val (v := .pointer (some ⟨G4, 1, none⟩)) (by exact xr_fieldAddr (p := 0) (q := 1) rfl fl120_1 e1) rfl rfl rfl ?_
      refine ol_val (v := .pointer (some ⟨G4, 4, none⟩)) (by exact xr_fieldAddr (p := 1) (q := 3) rfl fl118_1 rfl) rfl rfl rfl ?_
      refine ol_val (v := .int .i64 a0.Tickets.Top) (by exact xr_load1 (v := .int .i64 a0.Tickets.Top) rfl ag3 rfl (b5.seg 4 rfl rfl)) rfl rfl rfl ?_
      refine ol_val (v := .pointer (some ⟨G4, 7, none⟩)) (by exact xr_fieldAddr (p := 0) (q := 7) rfl fl120_2 e1) rfl rfl rfl ?_
      refine ol_val (v := .int .i64 a0.Dir) (by exact xr_load1 (v := .int .i64 a0.Dir) rfl ag3 rfl (b5.seg 7 rfl rfl)) rfl rfl rfl ?_
      refine ol_op (by exact opv_buildSlice (K := (kI .i64)) (xs := [a0.Tickets.Top, a0.Dir]) (vals := [.int .i64 a0.Tickets.Top, .int .i64 a0.Dir]) rfl Try.underlying45 el3 rfl rfl ⟨rfl, rfl, ⟨rfl, rfl, trivial⟩⟩ rfl rfl rfl fB.size) rfl rfl rfl ?_
      rintro v62 w67 ⟨o64, q63, z65⟩
      have b5 := b5.gr q63
      have o33 := o33.gr q63
      have fB := fB.gr q63
      refine ol_val (v := .pointer (some ⟨G4, 8, none⟩)) (by exact xr_fieldAddr (p := 0) (q := 8) rfl fl120_3 e1) rfl rfl rfl ?_
      refine ol_val (v := V0_0) (by exact xr_load1 (v := V0_0) rfl ag45 rfl (b5.seg 8 rfl rfl)) rfl rfl rfl ?_
      obtain ⟨g72, h⟩ := gs h
      have f74 := off_ty b5 o64 (by decide)
      have f75 := OffV.ty o33 o64 (by decide)
      have f76 := o64.geO
      refine ol_op (by exact opv_append (K := (kI .i64)) rfl Try.underlying45 el3 rfl rfl rfl rfl rfl o64 (R0_0.gr fB) g72 fB.size) rfl rfl rfl ?_
      rintro v68 w77 ⟨o69, q70, n71⟩
      have b5 := b5.wrO q70 f74
      have o33 := o33.wrV q70 f75
      have fB := fB.wrO q70 f76
      refine ol_val (v := .int .i64 (List.length ([a0.Tickets.Top, a0.Dir] ++ a0.Charts) : Int)) (by exact xr_lenR rfl Try.underlying45 rfl o69.rd) rfl rfl rfl ?_
      refine ol_val (v := .int .i64 0) (by exact xr_move rfl rfl) rfl rfl rfl ?_
      refine ol_nil ?_
      obtain ⟨e79, l80, h81⟩ := bs h
      refine cw_mid (fun ρ' w' => ∃ v82 : Value, ∃ o83 : Own (kI .u8) 5 w' w.heap.size v82 e79, ρ' 1 = .pointer (some ⟨G4, 0, none⟩) ∧ ρ' 4 = v82 ∧ Blk w' G4 120 [Seg.cell (.int .i64 a0.Epoch), Seg.cell (.int .i64 a0.Tickets.Geometry.Blocks), Seg.cell (.int .i64 a0.Tickets.Geometry.Slots), Seg.cell (.int .i64 a0.Tickets.Geometry.Gens), Seg.cell (.int .i64 a0.Tickets.Top), Seg.cell (.int .i64 a0.Tickets.High), Seg.cell (.int .i64 a0.Tickets.Free), Seg.cell (.int .i64 a0.Dir), Seg.cell V0_0 R0_0.one] ∧ Gr w w') ?_ ?_
      · refine cw_block ?_
        refine cw_round (fun (s78 : (List Int) × Int) ρ' w' => ∃ v85 : Value, ∃ o69 : Own (kI .i64) 3 w' w.heap.size v68 ([a0.Tickets.Top, a0.Dir] ++ a0.Charts), ∃ o86 : Own (kI .u8) 5 w' w.heap.size v85 s78.1, ρ' 1 = .pointer (some ⟨G4, 0, none⟩) ∧ ρ' 4 = v85 ∧ ρ' 53 = v68 ∧ ρ' 54 = .int .i64 (List.length ([a0.Tickets.Top, a0.Dir] ++ a0.Charts) : Int) ∧ ρ' 55 = .int .i64 s78.2 ∧ Blk w' G4 120 [Seg.cell (.int .i64 a0.Epoch), Seg.cell (.int .i64 a0.Tickets.Geometry.Blocks), Seg.cell (.int .i64 a0.Tickets.Geometry.Slots), Seg.cell (.int .i64 a0.Tickets.Geometry.Gens), Seg.cell (.int .i64 a0.Tickets.Top), Seg.cell (.int .i64 a0.Tickets.High), Seg.cell (.int .i64 a0.Tickets.Free), Seg.cell (.int .i64 a0.Dir), Seg.cell V0_0 R0_0.one] ∧ Gr w w') l80 ?_ ?_
        · skip
          exact ⟨v32, o69, o33, e1, e4, rfl, rfl, rfl, b5, fB⟩
        · rintro s78 x90 ρ88 w89 ⟨v85, o69, o86, e1, e4, e53, e54, e55, b5, fB⟩ h
          unfold super_Put.s1 at h
          refine cw_seq ?_
          refine cw_region ?_
          refine ol_val (v := .bool (decide (s78.2 < (List.length ([a0.Tickets.Top, a0.Dir] ++ a0.Charts) : Int)))) (by exact xr_lss rfl e55 e54) rfl rfl rfl ?_
          refine ol_nil ?_
          refine cw_seq ?_
          rcases is h with ⟨c91, h⟩ | ⟨c91, h⟩
          · refine cw_condT rfl c91 ?_
            refine cw_skip ?_
            refine cw_seq ?_
            refine cw_block ?_
            refine cw_seq ?_
            refine cw_region ?_
            obtain ⟨g92, h⟩ := gs h
            refine ol_val (v := .pointer (some ⟨(sb v68), so v68 + Int.toNat s78.2 * 1, none⟩)) (by exact xr_indexR (K := (kI .i64)) (v := v68) rfl Try.underlying45 sz3 e53 o69.rd e55 g92.1 g92.2) rfl rfl rfl ?_
            refine ol_val (v := .int .i64 (ix ([a0.Tickets.Top, a0.Dir] ++ a0.Charts) s78.2)) (by exact xr_load1 (v := .int .i64 (ix ([a0.Tickets.Top, a0.Dir] ++ a0.Charts) s78.2)) rfl ag3 rfl (o69.rd.elem g92.1 g92.2)) rfl rfl rfl ?_
            refine ol_val (v := .int .i64 (ix ([a0.Tickets.Top, a0.Dir] ++ a0.Charts) s78.2)) (by exact xr_assign rfl rfl) rfl rfl rfl ?_
            refine ol_nil ?_
            refine cw_region ?_
            refine ol_val (v := v85) (by exact xr_move rfl e4) rfl rfl rfl ?_
            refine ol_val (v := .int .i64 (ix ([a0.Tickets.Top, a0.Dir] ++ a0.Charts) s78.2)) (by exact xr_move rfl rfl) rfl rfl rfl ?_
            refine ol_val (v := .int .u64 (IntKind.u64.wrap (ix ([a0.Tickets.Top, a0.Dir] ++ a0.Charts) s78.2))) (by exact xr_conv rfl Try.underlying3 Try.underlying129 rfl) rfl rfl rfl ?_
            obtain ⟨t93, k94, h⟩ := bs h
            refine ol_op (by exact opv_call rfl cal95 (ac rfl (ac rfl an)) (octet_Lay.ok fu _ (IntKind.u64.wrap (ix ([a0.Tickets.Top, a0.Dir] ++ a0.Charts) s78.2)) 2 _ k94)) rfl rfl rfl ?_
            rintro u95 w99 ⟨_, o96, rfl, q98⟩
            have a100 := OffV.call o86 o96
            have o96 := Own.base o96 fB.size
            have b5 := b5.gr q98
            have o69 := o69.gr q98
            have o86 := o86.gr q98
            have fB := fB.gr q98
            obtain ⟨g105, h⟩ := gs h
            have f107 := off_ty b5 o86 (by decide)
            have f108 := OffV.ty o69 o86 (by decide)
            have f109 := o86.geO
            refine ol_op (by exact opv_append (K := (kI .u8)) rfl Try.underlying22 el5 rfl rfl rfl rfl rfl o86 o96.rd g105 fB.size) rfl rfl rfl ?_
            rintro v101 w110 ⟨o102, q103, n104⟩
            have b5 := b5.wrO q103 f107
            have o69 := o69.wrV q103 f108
            have fB := fB.wrO q103 f109
            refine ol_val (v := v101) (by exact xr_assign rfl rfl) rfl rfl rfl ?_
            refine ol_nil ?_
            refine blk_i ?_
            refine cw_region ?_
            refine ol_val (v := .int .i64 (IntKind.i64.wrap (s78.2 + 1))) (by exact xr_add rfl e55 rfl) rfl rfl rfl ?_
            refine ol_val (v := .int .i64 (IntKind.i64.wrap (s78.2 + 1))) (by exact xr_move rfl rfl) rfl rfl rfl ?_
            refine ol_nil ?_
            obtain rfl := Option.some.inj h
            refine lp_in ?_
            exact ⟨v101, o69, o102, e1, rfl, e53, e54, rfl, b5, fB⟩
          · refine cw_condF rfl c91 ?_
            refine cw_exit ?_
            repeat (first | with_reducible refine thn_e ?_ | with_reducible refine blk_e rfl ?_)
            obtain rfl := Option.some.inj h
            refine lp_exit ?_
            rintro rfl
            refine thn_x ?_
            exact ⟨v85, o86, e1, e4, b5, fB⟩
      · rintro ρ111 w112 ⟨v82, o83, e1, e4, b5, fB⟩
        have h := h81
        refine cw_seq ?_
        refine cw_region ?_
        refine ol_val (v := .pointer (some ⟨G4, 8, none⟩)) (by exact xr_fieldAddr (p := 0) (q := 8) rfl fl120_3 e1) rfl rfl rfl ?_
        refine ol_val (v := V0_0) (by exact xr_load1 (v := V0_0) rfl ag45 rfl (b5.seg 8 rfl rfl)) rfl rfl rfl ?_
        refine ol_val (v := .int .i64 (List.length a0.Charts : Int)) (by exact xr_lenR rfl Try.underlying45 rfl (R0_0.gr fB)) rfl rfl rfl ?_
        refine ol_val (v := v82) (by exact xr_move rfl e4) rfl rfl rfl ?_
        obtain ⟨t113, k114, h⟩ := bs h
        refine ol_op (by exact opv_call rfl cal28 (ac rfl (ac rfl (ac rfl an))) (block_Seal.ok fu _ 7 (List.length a0.Charts : Int) e79 v82 (o83.rd) _ k114)) rfl rfl rfl ?_
        rintro _ w119 ⟨u115, o116, rfl, q118⟩
        have o116 := Own.base o116 fB.size
        have fB := fB.gr q118
        refine ol_val (v := u115) (by exact xr_extract rfl rfl rfl) rfl rfl rfl ?_
        refine ol_val (v := .bool t113.2) (by exact xr_extract rfl rfl rfl) rfl rfl rfl ?_
        refine ol_val (v := u115) (by exact xr_assign rfl rfl) rfl rfl rfl ?_
        refine ol_val (v := .bool t113.2) (by exact xr_assign rfl rfl) rfl rfl rfl ?_
        refine ol_nil ?_
        refine cw_ret ?_
        repeat (first | with_reducible refine thn_r ?_ | with_reducible refine blk_r ?_)
        obtain rfl := Option.some.inj h
        refine fin_ret2 Try.results91 rfl rfl ?_
        exact ⟨_, rfl, u115, o116, rfl, fB⟩
end Go.Proofs.Ytjhajfkfhdnciaa

/- rickyard/rickyardlaw13.awake: its model, and that the Go function computes it: written by gen.py. -/
set_option linter.unusedVariables false
namespace Go.Proofs.Ytjhajfkfhdnciaa
open Go Go.Xw
def rickyardlaw13_awake.f (fu : Nat) : Option Bool := ((super_Put.f fu (⟨1, (⟨(⟨16, 1, 1⟩ : S_api_Geometry), (0 : Int), (0 : Int), (0 : Int)⟩ : S_api_Tickets), (0 : Int), [2]⟩ : S_api_Super) : Option ((List Int) × Bool)).bind fun t19 => ((super_Get.f fu t19.1 : Option (S_api_Super × Bool)).bind fun t26 => some ((if t19.2 = true then (if t26.2 = true then (if (decide ((List.length t19.1 : Int) = 64)) = true then (if (decide (t26.1.Tickets.Geometry.Blocks = 16)) = true then (decide ((List.length t26.1.Charts : Int) = 1)) else false) else false) else false) else false))))
set_option maxRecDepth 100000 in
set_option maxHeartbeats 400000 in
theorem rickyardlaw13_awake.ok (fu : Nat) (w : World)  (r : Bool) (h : rickyardlaw13_awake.f fu = some r) :
    Calls Try.prog 86 (([] : List Value).toArray) w (fun e w' => ∃ v, e = .returned v ∧ v = .bool r ∧ Gr w w') := by
  unfold rickyardlaw13_awake.f at h
  have fB : Gr w w := Fr.refl _ _
  refine calls_cw Try.func86 rfl Try.ntmps86 rfl ?_
  refine cw_seq ?_
  refine cw_region ?_
  refine ol_val (v := .bool false) (by exact xr_assign rfl rfl) rfl rfl rfl ?_
  refine ol_nil ?_
  refine cw_seq ?_
  refine cw_region ?_
  refine ol_op (by exact opv_buildSlice (K := (kI .i64)) (xs := [2]) (vals := [.int .i64 2]) rfl Try.underlying45 el3 rfl rfl ⟨rfl, rfl, trivial⟩ rfl rfl rfl fB.size) rfl rfl rfl ?_
  rintro v1 w6 ⟨o3, q2, z4⟩
  have fB := fB.gr q2
  refine ol_val (v := aggV [Seg.cell (.int .i64 1), Seg.cell (.int .i64 (0 : Int)), Seg.cell (.int .i64 (0 : Int)), Seg.cell (.int .i64 (0 : Int)), Seg.cell (.int .i64 (0 : Int)), Seg.cell (.int .i64 (0 : Int)), Seg.cell (.int .i64 (0 : Int)), Seg.cell (.int .i64 (0 : Int)), Seg.cell v1 o3.one]) (by exact xr_buildS (vals := [(0, .int .i64 1), (3, v1)]) (res := [Seg.cell (.int .i64 1), Seg.cell (.int .i64 (0 : Int)), Seg.cell (.int .i64 (0 : Int)), Seg.cell (.int .i64 (0 : Int)), Seg.cell (.int .i64 (0 : Int)), Seg.cell (.int .i64 (0 : Int)), Seg.cell (.int .i64 (0 : Int)), Seg.cell (.int .i64 (0 : Int)), Seg.cell v1 o3.one]) rfl ⟨rfl, rfl, ⟨rfl, rfl, trivial⟩⟩ Try.underlying120 ze120 pl120 (fl_cons (xs := cellsOf [Seg.cell (.int .i64 1)]) (cs' := cellsOf [Seg.cell (.int .i64 1), Seg.cell (.int .i64 (0 : Int)), Seg.cell (.int .i64 (0 : Int)), Seg.cell (.int .i64 (0 : Int)), Seg.cell (.int .i64 (0 : Int)), Seg.cell (.int .i64 (0 : Int)), Seg.cell (.int .i64 (0 : Int)), Seg.cell (.int .i64 (0 : Int)), Seg.cell (.slice none 0 0) (by rfl)]) rfl rfl (len_cellsOf _) (Spl.segs [Seg.cell (.int .i64 (0 : Int)), Seg.cell (.int .i64 (0 : Int)), Seg.cell (.int .i64 (0 : Int)), Seg.cell (.int .i64 (0 : Int)), Seg.cell (.int .i64 (0 : Int)), Seg.cell (.int .i64 (0 : Int)), Seg.cell (.int .i64 (0 : Int)), Seg.cell (.int .i64 (0 : Int)), Seg.cell (.slice none 0 0) (by rfl)] 0 1 [Seg.cell (.int .i64 1)] rfl rfl) (fl_cons (xs := cellsOf [Seg.cell v1 o3.one]) (cs' := cellsOf [Seg.cell (.int .i64 1), Seg.cell (.int .i64 (0 : Int)), Seg.cell (.int .i64 (0 : Int)), Seg.cell (.int .i64 (0 : Int)), Seg.cell (.int .i64 (0 : Int)), Seg.cell (.int .i64 (0 : Int)), Seg.cell (.int .i64 (0 : Int)), Seg.cell (.int .i64 (0 : Int)), Seg.cell v1 o3.one]) rfl (cells_one o3.one) (len_cellsOf _) (Spl.segs [Seg.cell (.int .i64 1), Seg.cell (.int .i64 (0 : Int)), Seg.cell (.int .i64 (0 : Int)), Seg.cell (.int .i64 (0 : Int)), Seg.cell (.int .i64 (0 : Int)), Seg.cell (.int .i64 (0 : Int)), Seg.cell (.int .i64 (0 : Int)), Seg.cell (.int .i64 (0 : Int)), Seg.cell (.slice none 0 0) (by rfl)] 8 1 [Seg.cell v1 o3.one] rfl rfl) fl_nil))) rfl rfl rfl ?_
  refine ol_op (by exact opv_alloc (ss := [Seg.cell (.int .i64 (0 : Int)), Seg.cell (.int .i64 (0 : Int)), Seg.cell (.int .i64 (0 : Int)), Seg.cell (.int .i64 (0 : Int)), Seg.cell (.int .i64 (0 : Int)), Seg.cell (.int .i64 (0 : Int)), Seg.cell (.int .i64 (0 : Int)), Seg.cell (.int .i64 (0 : Int)), Seg.cell (.slice none 0 0) (by rfl)]) rfl ze120 rfl) rfl rfl rfl ?_
  rintro _ w12 ⟨G7, rfl, b8, q9, z10⟩
  have z10 := Nat.le_trans fB.size z10
  have o3 := o3.gr q9
  have fB := fB.gr q9
  have f14 := off_ty b8 o3 (by decide)
  refine ol_op0 (by exact opv_store (ss' := [Seg.cell (.int .i64 1), Seg.cell (.int .i64 (0 : Int)), Seg.cell (.int .i64 (0 : Int)), Seg.cell (.int .i64 (0 : Int)), Seg.cell (.int .i64 (0 : Int)), Seg.cell (.int .i64 (0 : Int)), Seg.cell (.int .i64 (0 : Int)), Seg.cell (.int .i64 (0 : Int)), Seg.cell v1 o3.one]) (xs := cellsOf [Seg.cell (.int .i64 1), Seg.cell (.int .i64 (0 : Int)), Seg.cell (.int .i64 (0 : Int)), Seg.cell (.int .i64 (0 : Int)), Seg.cell (.int .i64 (0 : Int)), Seg.cell (.int .i64 (0 : Int)), Seg.cell (.int .i64 (0 : Int)), Seg.cell (.int .i64 (0 : Int)), Seg.cell v1 o3.one]) rfl sz120 rfl rfl rfl (len_cellsOf _) (one_cellsOf _) b8 (Spl.segs _ 0 9 [Seg.cell (.int .i64 1), Seg.cell (.int .i64 (0 : Int)), Seg.cell (.int .i64 (0 : Int)), Seg.cell (.int .i64 (0 : Int)), Seg.cell (.int .i64 (0 : Int)), Seg.cell (.int .i64 (0 : Int)), Seg.cell (.int .i64 (0 : Int)), Seg.cell (.int .i64 (0 : Int)), Seg.cell v1 o3.one] rfl rfl)) rfl rfl ?_
  rintro _ w15 ⟨b8, q13⟩
  have o3 := o3.wr q13 f14
  have fB := fB.wr q13 z10
  refine ol_nil ?_
  refine cw_seq ?_
  refine cw_region ?_
  refine ol_val (v := aggV [Seg.cell (.int .i64 16), Seg.cell (.int .i64 1), Seg.cell (.int .i64 1)]) (by exact xr_build (vals := [(0, .int .i64 16), (1, .int .i64 1), (2, .int .i64 1)]) rfl ⟨rfl, rfl, ⟨rfl, rfl, ⟨rfl, rfl, trivial⟩⟩⟩ (bl116_0_1_2 16 1 1 _)) rfl rfl rfl ?_
  refine ol_val (v := .pointer (some ⟨G7, 1, none⟩)) (by exact xr_fieldAddr (p := 0) (q := 1) rfl fl120_1 rfl) rfl rfl rfl ?_
  refine ol_val (v := .pointer (some ⟨G7, 1, none⟩)) (by exact xr_fieldAddr (p := 1) (q := 0) rfl fl118_0 rfl) rfl rfl rfl ?_
  have f17 := off_ty b8 o3 (by decide)
  refine ol_op0 (by exact opv_store (ss' := [Seg.cell (.int .i64 1), Seg.cell (.int .i64 16), Seg.cell (.int .i64 1), Seg.cell (.int .i64 1), Seg.cell (.int .i64 (0 : Int)), Seg.cell (.int .i64 (0 : Int)), Seg.cell (.int .i64 (0 : Int)), Seg.cell (.int .i64 (0 : Int)), Seg.cell v1 o3.one]) (xs := cellsOf [Seg.cell (.int .i64 16), Seg.cell (.int .i64 1), Seg.cell (.int .i64 1)]) rfl sz116 rfl rfl rfl (len_cellsOf _) (one_cellsOf _) b8 (Spl.segs _ 1 3 [Seg.cell (.int .i64 16), Seg.cell (.int .i64 1), Seg.cell (.int .i64 1)] rfl rfl)) rfl rfl ?_
  rintro _ w18 ⟨b8, q16⟩
  have o3 := o3.wr q16 f17
  have fB := fB.wr q16 z10
  refine ol_nil ?_
  refine cw_seq ?_
  refine cw_region ?_
  refine ol_val (v := aggV [Seg.cell (.int .i64 1), Seg.cell (.int .i64 16), Seg.cell (.int .i64 1), Seg.cell (.int .i64 1), Seg.cell (.int .i64 (0 : Int)), Seg.cell (.int .i64 (0 : Int)), Seg.cell (.int .i64 (0 : Int)), Seg.cell (.int .i64 (0 : Int)), Seg.cell v1 o3.one]) (by exact xr_loadS (ss := [Seg.cell (.int .i64 1), Seg.cell (.int .i64 16), Seg.cell (.int .i64 1), Seg.cell (.int .i64 1), Seg.cell (.int .i64 (0 : Int)), Seg.cell (.int .i64 (0 : Int)), Seg.cell (.int .i64 (0 : Int)), Seg.cell (.int .i64 (0 : Int)), Seg.cell v1 o3.one]) rfl ag120 sz120 rfl rfl (b8.segs 0 9 rfl)) rfl rfl rfl ?_
  obtain ⟨t19, k20, h⟩ := bs h
  refine ol_op (by exact opv_call rfl cal91 (ac rfl an) (super_Put.ok fu _ (⟨1, (⟨(⟨16, 1, 1⟩ : S_api_Geometry), (0 : Int), (0 : Int), (0 : Int)⟩ : S_api_Tickets), (0 : Int), [2]⟩ : S_api_Super) v1 (o3.rd) _ k20)) rfl rfl rfl ?_
  rintro _ w25 ⟨u21, o22, rfl, q24⟩
  have o22 := Own.base o22 fB.size
  have fB := fB.gr q24
  refine ol_val (v := .tuple #[u21, .bool t19.2]) (by exact xr_move rfl rfl) rfl rfl rfl ?_
  refine ol_val (v := u21) (by exact xr_extract rfl rfl rfl) rfl rfl rfl ?_
  refine ol_val (v := .bool t19.2) (by exact xr_extract rfl rfl rfl) rfl rfl rfl ?_
  refine ol_val (v := u21) (by exact xr_assign rfl rfl) rfl rfl rfl ?_
  refine ol_val (v := .bool t19.2) (by exact xr_assign rfl rfl) rfl rfl rfl ?_
  refine ol_nil ?_
  refine cw_seq ?_
  refine cw_region ?_
  refine ol_val (v := u21) (by exact xr_move rfl rfl) rfl rfl rfl ?_
  obtain ⟨t26, k27, h⟩ := bs h
  refine ol_op (by exact opv_call rfl cal87 (ac rfl an) (super_Get.ok fu _ t19.1 u21 (o22.rd) _ k27)) rfl rfl rfl ?_
  rintro _ w32 ⟨u28, o29, rfl, q31⟩
  have o29 := Own.base o29 fB.size
  have o22 := o22.gr q31
  have fB := fB.gr q31
  refine ol_val (v := .tuple #[aggV [Seg.cell (.int .i64 t26.1.Epoch), Seg.cell (.int .i64 t26.1.Tickets.Geometry.Blocks), Seg.cell (.int .i64 t26.1.Tickets.Geometry.Slots), Seg.cell (.int .i64 t26.1.Tickets.Geometry.Gens), Seg.cell (.int .i64 t26.1.Tickets.Top), Seg.cell (.int .i64 t26.1.Tickets.High), Seg.cell (.int .i64 t26.1.Tickets.Free), Seg.cell (.int .i64 t26.1.Dir), Seg.cell u28 o29.one], .bool t26.2]) (by exact xr_move rfl rfl) rfl rfl rfl ?_
  refine ol_val (v := aggV [Seg.cell (.int .i64 t26.1.Epoch), Seg.cell (.int .i64 t26.1.Tickets.Geometry.Blocks), Seg.cell (.int .i64 t26.1.Tickets.Geometry.Slots), Seg.cell (.int .i64 t26.1.Tickets.Geometry.Gens), Seg.cell (.int .i64 t26.1.Tickets.Top), Seg.cell (.int .i64 t26.1.Tickets.High), Seg.cell (.int .i64 t26.1.Tickets.Free), Seg.cell (.int .i64 t26.1.Dir), Seg.cell u28 o29.one]) (by exact xr_extract rfl rfl rfl) rfl rfl rfl ?_
  refine ol_val (v := .bool t26.2) (by exact xr_extract rfl rfl rfl) rfl rfl rfl ?_
  refine ol_op (by exact opv_alloc (ss := [Seg.cell (.int .i64 (0 : Int)), Seg.cell (.int .i64 (0 : Int)), Seg.cell (.int .i64 (0 : Int)), Seg.cell (.int .i64 (0 : Int)), Seg.cell (.int .i64 (0 : Int)), Seg.cell (.int .i64 (0 : Int)), Seg.cell (.int .i64 (0 : Int)), Seg.cell (.int .i64 (0 : Int)), Seg.cell (.slice none 0 0) (by rfl)]) rfl ze120 rfl) rfl rfl rfl ?_
  rintro _ w38 ⟨G33, rfl, b34, q35, z36⟩
  have z36 := Nat.le_trans fB.size z36
  have o22 := o22.gr q35
  have o29 := o29.gr q35
  have fB := fB.gr q35
  have f40 := off_ty b34 o22 (by decide)
  have f41 := off_ty b34 o29 (by decide)
  refine ol_op0 (by exact opv_store (ss' := [Seg.cell (.int .i64 t26.1.Epoch), Seg.cell (.int .i64 t26.1.Tickets.Geometry.Blocks), Seg.cell (.int .i64 t26.1.Tickets.Geometry.Slots), Seg.cell (.int .i64 t26.1.Tickets.Geometry.Gens), Seg.cell (.int .i64 t26.1.Tickets.Top), Seg.cell (.int .i64 t26.1.Tickets.High), Seg.cell (.int .i64 t26.1.Tickets.Free), Seg.cell (.int .i64 t26.1.Dir), Seg.cell u28 o29.one]) (xs := cellsOf [Seg.cell (.int .i64 t26.1.Epoch), Seg.cell (.int .i64 t26.1.Tickets.Geometry.Blocks), Seg.cell (.int .i64 t26.1.Tickets.Geometry.Slots), Seg.cell (.int .i64 t26.1.Tickets.Geometry.Gens), Seg.cell (.int .i64 t26.1.Tickets.Top), Seg.cell (.int .i64 t26.1.Tickets.High), Seg.cell (.int .i64 t26.1.Tickets.Free), Seg.cell (.int .i64 t26.1.Dir), Seg.cell u28 o29.one]) rfl sz120 rfl rfl rfl (len_cellsOf _) (one_cellsOf _) b34 (Spl.segs _ 0 9 [Seg.cell (.int .i64 t26.1.Epoch), Seg.cell (.int .i64 t26.1.Tickets.Geometry.Blocks), Seg.cell (.int .i64 t26.1.Tickets.Geometry.Slots), Seg.cell (.int .i64 t26.1.Tickets.Geometry.Gens), Seg.cell (.int .i64 t26.1.Tickets.Top), Seg.cell (.int .i64 t26.1.Tickets.High), Seg.cell (.int .i64 t26.1.Tickets.Free), Seg.cell (.int .i64 t26.1.Dir), Seg.cell u28 o29.one] rfl rfl)) rfl rfl ?_
  rintro _ w42 ⟨b34, q39⟩
  have o22 := o22.wr q39 f40
  have o29 := o29.wr q39 f41
  have fB := fB.wr q39 z36
  refine ol_val (v := .bool t26.2) (by exact xr_assign rfl rfl) rfl rfl rfl ?_
  refine ol_nil ?_
  refine cw_seq ?_
  refine cw_mid (fun ρ' w' => ρ' 0 = .bool (if t19.2 = true then (if t26.2 = true then (if (decide ((List.length t19.1 : Int) = 64)) = true then (if (decide (t26.1.Tickets.Geometry.Blocks = 16)) = true then (decide ((List.length t26.1.Charts : Int) = 1)) else false) else false) else false) else false) ∧ w42 = w') ?_ ?_
  · skip
    refine cw_region ?_
    refine ol_val (v := .bool t19.2) (by exact xr_move rfl rfl) rfl rfl rfl ?_
    refine ol_val (v := .bool t19.2) (by exact xr_move rfl rfl) rfl rfl rfl ?_
    rcases bt t19.2 with c43 | c43
    · skip
      refine ol_gval (v := .bool t26.2) (by exact xr_move rfl rfl) rfl rfl rfl rfl rfl c43 ?_
      refine ol_val (v := .bool t26.2) (by exact xr_pickT rfl rfl c43 rfl) rfl rfl rfl ?_
      refine ol_val (v := .bool t26.2) (by exact xr_move rfl rfl) rfl rfl rfl ?_
      rcases bt t26.2 with c44 | c44
      · skip
        refine ol_gval (v := u21) (by exact xr_move rfl rfl) rfl rfl rfl rfl rfl c44 ?_
        refine ol_gval (v := .int .i64 (List.length t19.1 : Int)) (by exact xr_lenR rfl Try.underlying22 rfl o22.rd) rfl rfl rfl rfl rfl c44 ?_
        refine ol_gval (v := .bool (decide ((List.length t19.1 : Int) = 64))) (by exact xr_eqI rfl Try.underlying3 rfl rfl rfl) rfl rfl rfl rfl rfl c44 ?_
        refine ol_val (v := .bool (decide ((List.length t19.1 : Int) = 64))) (by exact xr_pickT rfl rfl c44 rfl) rfl rfl rfl ?_
        refine ol_val (v := .bool (decide ((List.length t19.1 : Int) = 64))) (by exact xr_move rfl rfl) rfl rfl rfl ?_
        rcases bt (decide ((List.length t19.1 : Int) = 64)) with c45 | c45
        · skip
          refine ol_gval (v := .pointer (some ⟨G33, 1, none⟩)) (by exact xr_fieldAddr (p := 0) (q := 1) rfl fl120_1 rfl) rfl rfl rfl rfl rfl c45 ?_
          refine ol_gval (v := .pointer (some ⟨G33, 1, none⟩)) (by exact xr_fieldAddr (p := 1) (q := 0) rfl fl118_0 rfl) rfl rfl rfl rfl rfl c45 ?_
          refine ol_gval (v := .pointer (some ⟨G33, 1, none⟩)) (by exact xr_fieldAddr (p := 1) (q := 0) rfl fl116_0 rfl) rfl rfl rfl rfl rfl c45 ?_
          refine ol_gval (v := .int .i64 t26.1.Tickets.Geometry.Blocks) (by exact xr_load1 (v := .int .i64 t26.1.Tickets.Geometry.Blocks) rfl ag3 rfl (b34.seg 1 rfl rfl)) rfl rfl rfl rfl rfl c45 ?_
          refine ol_gval (v := .bool (decide (t26.1.Tickets.Geometry.Blocks = 16))) (by exact xr_eqI rfl Try.underlying3 rfl rfl rfl) rfl rfl rfl rfl rfl c45 ?_
          refine ol_val (v := .bool (decide (t26.1.Tickets.Geometry.Blocks = 16))) (by exact xr_pickT rfl rfl c45 rfl) rfl rfl rfl ?_
          refine ol_val (v := .bool (decide (t26.1.Tickets.Geometry.Blocks = 16))) (by exact xr_move rfl rfl) rfl rfl rfl ?_
          rcases bt (decide (t26.1.Tickets.Geometry.Blocks = 16)) with c46 | c46
          · skip
            refine ol_gval (v := .pointer (some ⟨G33, 8, none⟩)) (by exact xr_fieldAddr (p := 0) (q := 8) rfl fl120_3 rfl) rfl rfl rfl rfl rfl c46 ?_
            refine ol_gval (v := u28) (by exact xr_load1 (v := u28) rfl ag45 rfl (b34.seg 8 rfl rfl)) rfl rfl rfl rfl rfl c46 ?_
            refine ol_gval (v := .int .i64 (List.length t26.1.Charts : Int)) (by exact xr_lenR rfl Try.underlying45 rfl o29.rd) rfl rfl rfl rfl rfl c46 ?_
            refine ol_gval (v := .bool (decide ((List.length t26.1.Charts : Int) = 1))) (by exact xr_eqI rfl Try.underlying3 rfl rfl rfl) rfl rfl rfl rfl rfl c46 ?_
            refine ol_val (v := .bool (decide ((List.length t26.1.Charts : Int) = 1))) (by exact xr_pickT rfl rfl c46 rfl) rfl rfl rfl ?_
            refine ol_val (v := .bool (decide ((List.length t26.1.Charts : Int) = 1))) (by exact xr_assign rfl rfl) rfl rfl rfl ?_
            refine ol_nil ?_
            refine thn_i ?_
            exact ⟨(rfl).trans (congrArg (fun z => (.bool z : Value)) (show (decide ((List.length t26.1.Charts : Int) = 1)) = (if t19.2 = true then (if t26.2 = true then (if (decide ((List.length t19.1 : Int) = 64)) = true then (if (decide (t26.1.Tickets.Geometry.Blocks = 16)) = true then (decide ((List.length t26.1.Charts : Int) = 1)) else false) else false) else false) else false) from by rw [ite_t c43, ite_t c44, ite_t c45, ite_t c46])), rfl⟩
          · skip
            refine ol_gskip rfl rfl rfl rfl rfl c46 ?_
            refine ol_gskip rfl rfl rfl rfl rfl c46 ?_
            refine ol_gskip rfl rfl rfl rfl rfl c46 ?_
            refine ol_gskip rfl rfl rfl rfl rfl c46 ?_
            refine ol_val (v := .bool false) (by exact xr_pickF rfl rfl c46 rfl) rfl rfl rfl ?_
            refine ol_val (v := .bool false) (by exact xr_assign rfl rfl) rfl rfl rfl ?_
            refine ol_nil ?_
            refine thn_i ?_
            exact ⟨(rfl).trans (congrArg (fun z => (.bool z : Value)) (show false = (if t19.2 = true then (if t26.2 = true then (if (decide ((List.length t19.1 : Int) = 64)) = true then (if (decide (t26.1.Tickets.Geometry.Blocks = 16)) = true then (decide ((List.length t26.1.Charts : Int) = 1)) else false) else false) else false) else false) from by rw [ite_t c43, ite_t c44, ite_t c45, ite_f c46])), rfl⟩
        · skip
          refine ol_gskip rfl rfl rfl rfl rfl c45 ?_
          refine ol_gskip rfl rfl rfl rfl rfl c45 ?_
          refine ol_gskip rfl rfl rfl rfl rfl c45 ?_
          refine ol_gskip rfl rfl rfl rfl rfl c45 ?_
          refine ol_gskip rfl rfl rfl rfl rfl c45 ?_
          refine ol_val (v := .bool false) (by exact xr_pickF rfl rfl c45 rfl) rfl rfl rfl ?_
          refine ol_val (v := .bool false) (by exact xr_move rfl rfl) rfl rfl rfl ?_
          refine ol_gskip rfl rfl rfl rfl rfl rfl ?_
          refine ol_gskip rfl rfl rfl rfl rfl rfl ?_
          refine ol_gskip rfl rfl rfl rfl rfl rfl ?_
          refine ol_gskip rfl rfl rfl rfl rfl rfl ?_
          refine ol_val (v := .bool false) (by exact xr_pickF rfl rfl rfl rfl) rfl rfl rfl ?_
          refine ol_val (v := .bool false) (by exact xr_assign rfl rfl) rfl rfl rfl ?_
          refine ol_nil ?_
          refine thn_i ?_
          exact ⟨(rfl).trans (congrArg (fun z => (.bool z : Value)) (show false = (if t19.2 = true then (if t26.2 = true then (if (decide ((List.length t19.1 : Int) = 64)) = true then (if (decide (t26.1.Tickets.Geometry.Blocks = 16)) = true then (decide ((List.length t26.1.Charts : Int) = 1)) else false) else false) else false) else false) from by rw [ite_t c43, ite_t c44, ite_f c45])), rfl⟩
      · skip
        refine ol_gskip rfl rfl rfl rfl rfl c44 ?_
        refine ol_gskip rfl rfl rfl rfl rfl c44 ?_
        refine ol_gskip rfl rfl rfl rfl rfl c44 ?_
        refine ol_val (v := .bool false) (by exact xr_pickF rfl rfl c44 rfl) rfl rfl rfl ?_
        refine ol_val (v := .bool false) (by exact xr_move rfl rfl) rfl rfl rfl ?_
        refine ol_gskip rfl rfl rfl rfl rfl rfl ?_
        refine ol_gskip rfl rfl rfl rfl rfl rfl ?_
        refine ol_gskip rfl rfl rfl rfl rfl rfl ?_
        refine ol_gskip rfl rfl rfl rfl rfl rfl ?_
        refine ol_gskip rfl rfl rfl rfl rfl rfl ?_
        refine ol_val (v := .bool false) (by exact xr_pickF rfl rfl rfl rfl) rfl rfl rfl ?_
        refine ol_val (v := .bool false) (by exact xr_move rfl rfl) rfl rfl rfl ?_
        refine ol_gskip rfl rfl rfl rfl rfl rfl ?_
        refine ol_gskip rfl rfl rfl rfl rfl rfl ?_
        refine ol_gskip rfl rfl rfl rfl rfl rfl ?_
        refine ol_gskip rfl rfl rfl rfl rfl rfl ?_
        refine ol_val (v := .bool false) (by exact xr_pickF rfl rfl rfl rfl) rfl rfl rfl ?_
        refine ol_val (v := .bool false) (by exact xr_assign rfl rfl) rfl rfl rfl ?_
        refine ol_nil ?_
        refine thn_i ?_
        exact ⟨(rfl).trans (congrArg (fun z => (.bool z : Value)) (show false = (if t19.2 = true then (if t26.2 = true then (if (decide ((List.length t19.1 : Int) = 64)) = true then (if (decide (t26.1.Tickets.Geometry.Blocks = 16)) = true then (decide ((List.length t26.1.Charts : Int) = 1)) else false) else false) else false) else false) from by rw [ite_t c43, ite_f c44])), rfl⟩
    · skip
      refine ol_gskip rfl rfl rfl rfl rfl c43 ?_
      refine ol_val (v := .bool false) (by exact xr_pickF rfl rfl c43 rfl) rfl rfl rfl ?_
      refine ol_val (v := .bool false) (by exact xr_move rfl rfl) rfl rfl rfl ?_
      refine ol_gskip rfl rfl rfl rfl rfl rfl ?_
      refine ol_gskip rfl rfl rfl rfl rfl rfl ?_
      refine ol_gskip rfl rfl rfl rfl rfl rfl ?_
      refine ol_val (v := .bool false) (by exact xr_pickF rfl rfl rfl rfl) rfl rfl rfl ?_
      refine ol_val (v := .bool false) (by exact xr_move rfl rfl) rfl rfl rfl ?_
      refine ol_gskip rfl rfl rfl rfl rfl rfl ?_
      refine ol_gskip rfl rfl rfl rfl rfl rfl ?_
      refine ol_gskip rfl rfl rfl rfl rfl rfl ?_
      refine ol_gskip rfl rfl rfl rfl rfl rfl ?_
      refine ol_gskip rfl rfl rfl rfl rfl rfl ?_
      refine ol_val (v := .bool false) (by exact xr_pickF rfl rfl rfl rfl) rfl rfl rfl ?_
      refine ol_val (v := .bool false) (by exact xr_move rfl rfl) rfl rfl rfl ?_
      refine ol_gskip rfl rfl rfl rfl rfl rfl ?_
      refine ol_gskip rfl rfl rfl rfl rfl rfl ?_
      refine ol_gskip rfl rfl rfl rfl rfl rfl ?_
      refine ol_gskip rfl rfl rfl rfl rfl rfl ?_
      refine ol_val (v := .bool false) (by exact xr_pickF rfl rfl rfl rfl) rfl rfl rfl ?_
      refine ol_val (v := .bool false) (by exact xr_assign rfl rfl) rfl rfl rfl ?_
      refine ol_nil ?_
      refine thn_i ?_
      exact ⟨(rfl).trans (congrArg (fun z => (.bool z : Value)) (show false = (if t19.2 = true then (if t26.2 = true then (if (decide ((List.length t19.1 : Int) = 64)) = true then (if (decide (t26.1.Tickets.Geometry.Blocks = 16)) = true then (decide ((List.length t26.1.Charts : Int) = 1)) else false) else false) else false) else false) from by rw [ite_f c43])), rfl⟩
  · skip
    rintro ρ47 _ ⟨e0, rfl⟩
    refine cw_ret ?_
    repeat (first | with_reducible refine thn_r ?_ | with_reducible refine blk_r ?_)
    obtain rfl := Option.some.inj h
    refine fin_ret1 Try.results86 e0 ?_
    exact ⟨_, rfl, rfl, fB⟩
end Go.Proofs.Ytjhajfkfhdnciaa

/- rickyard/rickyardref01.Ints: its model, and that the Go function computes it: written by gen.py. -/
set_option linter.unusedVariables false
namespace Go.Proofs.Ytjhajfkfhdnciaa
open Go Go.Xw
def rickyardref01_Ints.s0 (fu : Nat) (a0 : List Int) (a1 : List Int) : Int → Option (Sum (Sum Bool Unit) Int) := fun s2 => (if (decide (s2 < (List.length a0 : Int))) = true then (if 0 ≤ s2 ∧ s2 < (List.length a0 : Int) then (if 0 ≤ s2 ∧ s2 < (List.length a1 : Int) then (if (!decide ((ix a0 s2) = (ix a1 s2))) = true then some (Sum.inl (Sum.inl (false))) else some (Sum.inr ((IntKind.i64.wrap (s2 + 1))))) else none) else none) else some (Sum.inl (Sum.inr ())))
def rickyardref01_Ints.f (fu : Nat) (a0 : List Int) (a1 : List Int) : Option Bool := (if (!decide ((List.length a0 : Int) = (List.length a1 : Int))) = true then some (false) else ((loopM (rickyardref01_Ints.s0 fu a0 a1) fu (0)).bind fun e3 => match e3 with | Sum.inl p => some p | Sum.inr x6 => some (true)))
set_option maxRecDepth 100000 in
set_option maxHeartbeats 400000 in
theorem rickyardref01_Ints.ok (fu : Nat) (w : World) (a0 : List Int) (V0_0 : Value) (R0_0 : Rd (kI .i64) w V0_0 a0) (a1 : List Int) (V1_0 : Value) (R1_0 : Rd (kI .i64) w V1_0 a1) (r : Bool) (h : rickyardref01_Ints.f fu a0 a1 = some r) :
    Calls Try.prog 66 (([V0_0, V1_0] : List Value).toArray) w (fun e w' => ∃ v, e = .returned v ∧ v = .bool r ∧ Gr w w') := by
  unfold rickyardref01_Ints.f at h
  have fB : Gr w w := Fr.refl _ _
  refine calls_cw Try.func66 rfl Try.ntmps66 rfl ?_
  refine cw_seq ?_
  refine cw_region ?_
  refine ol_val (v := .bool false) (by exact xr_assign rfl rfl) rfl rfl rfl ?_
  refine ol_nil ?_
  refine cw_seq ?_
  refine cw_seq ?_
  refine cw_region ?_
  refine ol_val (v := V0_0) (by exact xr_move rfl rfl) rfl rfl rfl ?_
  refine ol_val (v := .int .i64 (List.length a0 : Int)) (by exact xr_lenR rfl Try.underlying45 rfl (R0_0.gr fB)) rfl rfl rfl ?_
  refine ol_val (v := V1_0) (by exact xr_move rfl rfl) rfl rfl rfl ?_
  refine ol_val (v := .int .i64 (List.length a1 : Int)) (by exact xr_lenR rfl Try.underlying45 rfl (R1_0.gr fB)) rfl rfl rfl ?_
  refine ol_val (v := .bool (!decide ((List.length a0 : Int) = (List.length a1 : Int)))) (by exact xr_neI rfl Try.underlying3 rfl rfl rfl) rfl rfl rfl ?_
  refine ol_nil ?_
  rcases is h with ⟨c1, h⟩ | ⟨c1, h⟩
  · refine cw_condT rfl c1 ?_
    refine cw_seq ?_
    refine cw_region ?_
    refine ol_val (v := .bool false) (by exact xr_assign rfl rfl) rfl rfl rfl ?_
    refine ol_nil ?_
    refine cw_ret ?_
    repeat (first | with_reducible refine thn_r ?_ | with_reducible refine blk_r ?_)
    obtain rfl := Option.some.inj h
    refine fin_ret1 Try.results66 rfl ?_
    exact ⟨_, rfl, rfl, fB⟩
  · refine cw_condF rfl c1 ?_
    refine cw_skip ?_
    refine cw_seq ?_
    refine cw_seq ?_
    refine cw_region ?_
    refine ol_val (v := .int .i64 0) (by exact xr_assign rfl rfl) rfl rfl rfl ?_
    refine ol_nil ?_
    obtain ⟨e3, l4, h5⟩ := bs h
    refine cw_mid (fun ρ' w' => ∃ x6, e3 = Sum.inr x6 ∧ Gr w w') ?_ ?_
    · refine cw_block ?_
      refine cw_round (fun (s2 : Int) ρ' w' => ρ' 0 = V0_0 ∧ ρ' 1 = V1_0 ∧ ρ' 5 = .int .i64 s2 ∧ Gr w w') l4 ?_ ?_
      · skip
        exact ⟨rfl, rfl, rfl, fB⟩
      · rintro s2 x9 ρ7 w8 ⟨e0, e1, e5, fB⟩ h
        unfold rickyardref01_Ints.s0 at h
        refine cw_seq ?_
        refine cw_seq ?_
        refine cw_region ?_
        refine ol_val (v := .int .i64 s2) (by exact xr_move rfl e5) rfl rfl rfl ?_
        refine ol_val (v := V0_0) (by exact xr_move rfl e0) rfl rfl rfl ?_
        refine ol_val (v := .int .i64 (List.length a0 : Int)) (by exact xr_lenR rfl Try.underlying45 rfl (R0_0.gr fB)) rfl rfl rfl ?_
        refine ol_val (v := .bool (decide (s2 < (List.length a0 : Int)))) (by exact xr_lss rfl rfl rfl) rfl rfl rfl ?_
        refine ol_nil ?_
        rcases is h with ⟨c10, h⟩ | ⟨c10, h⟩
        · refine cw_condT rfl c10 ?_
          refine cw_skip ?_
          refine cw_seq ?_
          refine cw_block ?_
          refine cw_seq ?_
          obtain ⟨g11, h⟩ := gs h
          obtain ⟨g12, h⟩ := gs h
          refine cw_drawL 8 [fun vz wz => vz = (V0_0 : Value), fun vz wz => vz = (.int .i64 s2 : Value), fun vz wz => vz = (.pointer (some ⟨(sb V0_0), so V0_0 + Int.toNat s2 * 1, none⟩) : Value), fun vz wz => vz = (.int .i64 (ix a0 s2) : Value), fun vz wz => vz = (V1_0 : Value), fun vz wz => vz = (.int .i64 s2 : Value), fun vz wz => vz = (.pointer (some ⟨(sb V1_0), so V1_0 + Int.toNat s2 * 1, none⟩) : Value), fun vz wz => vz = (.int .i64 (ix a1 s2) : Value)] mo rfl ⟨fun _ _ _ h _ => h, fun _ _ _ h _ => h, fun _ _ _ h _ => h, fun _ _ _ h _ => h, fun _ _ _ h _ => h, fun _ _ _ h _ => h, fun _ _ _ h _ => h, fun _ _ _ h _ => h, trivial⟩ ?_ ?_
          · refine ⟨?_, ?_, ?_, ?_, ?_, ?_, ?_, ?_, trivial⟩
            · intro ρz wz hz hk hd
              exact sk_val (v := V0_0) (by exact xr_move rfl ((hk 0 rfl).trans e0)) rfl rfl
            · intro ρz wz hz hk hd
              exact sk_val (v := .int .i64 s2) (by exact xr_move rfl ((hk 5 rfl).trans e5)) rfl rfl
            · intro ρz wz hz hk hd
              have d17 := hd 0 rfl 17 rfl
              have d18 := hd 1 rfl 18 rfl
              exact sk_val (by exact xr_indexR (K := (kI .i64)) (v := V0_0) rfl Try.underlying45 sz3 d17 (R0_0.gr (fB.gr hz)) d18 g11.1 g11.2) rfl rfl
            · intro ρz wz hz hk hd
              have d19 := hd 2 rfl 19 rfl
              exact sk_val (v := .int .i64 (ix a0 s2)) (by exact xr_load1 (v := .int .i64 (ix a0 s2)) rfl ag3 d19 ((R0_0.gr (fB.gr hz)).elem g11.1 g11.2)) rfl rfl
            · intro ρz wz hz hk hd
              exact sk_val (v := V1_0) (by exact xr_move rfl ((hk 1 rfl).trans e1)) rfl rfl
            · intro ρz wz hz hk hd
              exact sk_val (v := .int .i64 s2) (by exact xr_move rfl ((hk 5 rfl).trans e5)) rfl rfl
            · intro ρz wz hz hk hd
              have d21 := hd 4 rfl 21 rfl
              have d22 := hd 5 rfl 22 rfl
              exact sk_val (by exact xr_indexR (K := (kI .i64)) (v := V1_0) rfl Try.underlying45 sz3 d21 (R1_0.gr (fB.gr hz)) d22 g12.1 g12.2) rfl rfl
            · intro ρz wz hz hk hd
              have d23 := hd 6 rfl 23 rfl
              exact sk_val (v := .int .i64 (ix a1 s2)) (by exact xr_load1 (v := .int .i64 (ix a1 s2)) rfl ag3 d23 ((R1_0.gr (fB.gr hz)).elem g12.1 g12.2)) rfl rfl
          · intro ρ13 w14 q15 hk hd
            have e0 := (hk 0 rfl).trans e0
            have e1 := (hk 1 rfl).trans e1
            have e5 := (hk 5 rfl).trans e5
            have e20 := hd 3 rfl 20 rfl
            have e24 := hd 7 rfl 24 rfl
            have fB := fB.gr q15
            refine ol_val (v := .bool (!decide ((ix a0 s2) = (ix a1 s2)))) (by exact xr_neI rfl Try.underlying3 rfl e20 e24) rfl rfl rfl ?_
            refine ol_nil ?_
            rcases is h with ⟨c16, h⟩ | ⟨c16, h⟩
            · refine cw_condT rfl c16 ?_
              refine cw_seq ?_
              refine cw_region ?_
              refine ol_val (v := .bool false) (by exact xr_assign rfl rfl) rfl rfl rfl ?_
              refine ol_nil ?_
              refine cw_ret ?_
              repeat (first | with_reducible refine thn_r ?_ | with_reducible refine blk_r ?_)
              obtain rfl := Option.some.inj h
              refine lp_ret ?_
              rintro rfl
              repeat (first | with_reducible refine thn_r ?_ | with_reducible refine blk_r ?_)
              have h := h5
              obtain rfl := Option.some.inj h
              refine fin_ret1 Try.results66 rfl ?_
              exact ⟨_, rfl, rfl, fB⟩
            · refine cw_condF rfl c16 ?_
              refine cw_skip ?_
              refine blk_i ?_
              refine cw_region ?_
              refine ol_val (v := .int .i64 s2) (by exact xr_move rfl e5) rfl rfl rfl ?_
              refine ol_val (v := .int .i64 (IntKind.i64.wrap (s2 + 1))) (by exact xr_add rfl rfl rfl) rfl rfl rfl ?_
              refine ol_val (v := .int .i64 (IntKind.i64.wrap (s2 + 1))) (by exact xr_assign rfl rfl) rfl rfl rfl ?_
              refine ol_nil ?_
              obtain rfl := Option.some.inj h
              refine lp_in ?_
              exact ⟨e0, e1, rfl, fB⟩
        · refine cw_condF rfl c10 ?_
          refine cw_exit ?_
          repeat (first | with_reducible refine thn_e ?_ | with_reducible refine blk_e rfl ?_)
          obtain rfl := Option.some.inj h
          refine lp_exit ?_
          rintro rfl
          refine thn_x ?_
          exact ⟨_, rfl, fB⟩
    · rintro ρ17 w18 ⟨x6, rfl, fB⟩
      have h := h5
      refine cw_seq ?_
      refine cw_region ?_
      refine ol_val (v := .bool true) (by exact xr_assign rfl rfl) rfl rfl rfl ?_
      refine ol_nil ?_
      refine cw_ret ?_
      repeat (first | with_reducible refine thn_r ?_ | with_reducible refine blk_r ?_)
      obtain rfl := Option.some.inj h
      refine fin_ret1 Try.results66 rfl ?_
      exact ⟨_, rfl, rfl, fB⟩
end Go.Proofs.Ytjhajfkfhdnciaa

/- rickyard/rickyardref13.Same: its model, and that the Go function computes it: written by gen.py. -/
set_option linter.unusedVariables false
namespace Go.Proofs.Ytjhajfkfhdnciaa
open Go Go.Xw
def rickyardref13_Same.f (fu : Nat) (a0 : S_api_Super) (a1 : S_api_Super) : Option Bool := (((if (decide (a0.Epoch = a1.Epoch)) = true then (if (decide (a0.Tickets.Geometry = a1.Tickets.Geometry)) = true then (if (decide (a0.Tickets.High = a1.Tickets.High)) = true then (if (decide (a0.Tickets.Free = a1.Tickets.Free)) = true then (if (decide (a0.Tickets.Top = a1.Tickets.Top)) = true then (if (decide (a0.Dir = a1.Dir)) = true then ((rickyardref01_Ints.f fu a0.Charts a1.Charts : Option Bool).bind fun t22 => some (t22)) else some (false)) else some (false)) else some (false)) else some (false)) else some (false)) else some (false)) : Option Bool).bind fun x14 => some (x14))
set_option maxRecDepth 100000 in
set_option maxHeartbeats 400000 in
theorem rickyardref13_Same.ok (fu : Nat) (w : World) (a0 : S_api_Super) (V0_0 : Value) (R0_0 : Rd (kI .i64) w V0_0 a0.Charts) (a1 : S_api_Super) (V1_0 : Value) (R1_0 : Rd (kI .i64) w V1_0 a1.Charts) (r : Bool) (h : rickyardref13_Same.f fu a0 a1 = some r) :
    Calls Try.prog 89 (([aggV [Seg.cell (.int .i64 a0.Epoch), Seg.cell (.int .i64 a0.Tickets.Geometry.Blocks), Seg.cell (.int .i64 a0.Tickets.Geometry.Slots), Seg.cell (.int .i64 a0.Tickets.Geometry.Gens), Seg.cell (.int .i64 a0.Tickets.Top), Seg.cell (.int .i64 a0.Tickets.High), Seg.cell (.int .i64 a0.Tickets.Free), Seg.cell (.int .i64 a0.Dir), Seg.cell V0_0 R0_0.one], aggV [Seg.cell (.int .i64 a1.Epoch), Seg.cell (.int .i64 a1.Tickets.Geometry.Blocks), Seg.cell (.int .i64 a1.Tickets.Geometry.Slots), Seg.cell (.int .i64 a1.Tickets.Geometry.Gens), Seg.cell (.int .i64 a1.Tickets.Top), Seg.cell (.int .i64 a1.Tickets.High), Seg.cell (.int .i64 a1.Tickets.Free), Seg.cell (.int .i64 a1.Dir), Seg.cell V1_0 R1_0.one]] : List Value).toArray) w (fun e w' => ∃ v, e = .returned v ∧ v = .bool r ∧ Gr w w') := by
  unfold rickyardref13_Same.f at h
  have fB : Gr w w := Fr.refl _ _
  refine calls_cw Try.func89 rfl Try.ntmps89 rfl ?_
  refine cw_seq ?_
  refine cw_region ?_
  refine ol_op (by exact opv_box (ss := [Seg.cell (.int .i64 a0.Epoch), Seg.cell (.int .i64 a0.Tickets.Geometry.Blocks), Seg.cell (.int .i64 a0.Tickets.Geometry.Slots), Seg.cell (.int .i64 a0.Tickets.Geometry.Gens), Seg.cell (.int .i64 a0.Tickets.Top), Seg.cell (.int .i64 a0.Tickets.High), Seg.cell (.int .i64 a0.Tickets.Free), Seg.cell (.int .i64 a0.Dir), Seg.cell V0_0 R0_0.one]) rfl rfl rfl) rfl rfl rfl ?_
  rintro _ w6 ⟨G1, rfl, b2, q3, z4⟩
  have z4 := Nat.le_trans fB.size z4
  have fB := fB.gr q3
  refine ol_op (by exact opv_box (ss := [Seg.cell (.int .i64 a1.Epoch), Seg.cell (.int .i64 a1.Tickets.Geometry.Blocks), Seg.cell (.int .i64 a1.Tickets.Geometry.Slots), Seg.cell (.int .i64 a1.Tickets.Geometry.Gens), Seg.cell (.int .i64 a1.Tickets.Top), Seg.cell (.int .i64 a1.Tickets.High), Seg.cell (.int .i64 a1.Tickets.Free), Seg.cell (.int .i64 a1.Dir), Seg.cell V1_0 R1_0.one]) rfl rfl rfl) rfl rfl rfl ?_
  rintro _ w12 ⟨G7, rfl, b8, q9, z10⟩
  have n13 := b2.ne z10
  have z10 := Nat.le_trans fB.size z10
  have b2 := b2.gr q9
  have fB := fB.gr q9
  refine ol_val (v := .bool false) (by exact xr_assign rfl rfl) rfl rfl rfl ?_
  refine ol_nil ?_
  refine cw_seq ?_
  obtain ⟨x14, j15, h⟩ := bs h
  refine cw_mid (fun ρ' w' => ρ' 4 = .bool x14 ∧ Gr w12 w') ?_ ?_
  · skip
    refine cw_region ?_
    refine ol_val (v := .pointer (some ⟨G1, 0, none⟩)) (by exact xr_fieldAddr (p := 0) (q := 0) rfl fl120_0 rfl) rfl rfl rfl ?_
    refine ol_val (v := .int .i64 a0.Epoch) (by exact xr_load1 (v := .int .i64 a0.Epoch) rfl ag3 rfl (b2.seg 0 rfl rfl)) rfl rfl rfl ?_
    refine ol_val (v := .pointer (some ⟨G7, 0, none⟩)) (by exact xr_fieldAddr (p := 0) (q := 0) rfl fl120_0 rfl) rfl rfl rfl ?_
    refine ol_val (v := .int .i64 a1.Epoch) (by exact xr_load1 (v := .int .i64 a1.Epoch) rfl ag3 rfl (b8.seg 0 rfl rfl)) rfl rfl rfl ?_
    refine ol_val (v := .bool (decide (a0.Epoch = a1.Epoch))) (by exact xr_eqI rfl Try.underlying3 rfl rfl rfl) rfl rfl rfl ?_
    refine ol_val (v := .bool (decide (a0.Epoch = a1.Epoch))) (by exact xr_move rfl rfl) rfl rfl rfl ?_
    rcases is j15 with ⟨c16, j15⟩ | ⟨c16, j15⟩
    · skip
      refine ol_gval (v := .pointer (some ⟨G1, 1, none⟩)) (by exact xr_fieldAddr (p := 0) (q := 1) rfl fl120_1 rfl) rfl rfl rfl rfl rfl c16 ?_
      refine ol_gval (v := .pointer (some ⟨G1, 1, none⟩)) (by exact xr_fieldAddr (p := 1) (q := 0) rfl fl118_0 rfl) rfl rfl rfl rfl rfl c16 ?_
      refine ol_gval (v := aggV [Seg.cell (.int .i64 a0.Tickets.Geometry.Blocks), Seg.cell (.int .i64 a0.Tickets.Geometry.Slots), Seg.cell (.int .i64 a0.Tickets.Geometry.Gens)]) (by exact xr_loadS (ss := [Seg.cell (.int .i64 a0.Tickets.Geometry.Blocks), Seg.cell (.int .i64 a0.Tickets.Geometry.Slots), Seg.cell (.int .i64 a0.Tickets.Geometry.Gens)]) rfl ag116 sz116 rfl rfl (b2.segs 1 3 rfl)) rfl rfl rfl rfl rfl c16 ?_
      refine ol_gval (v := .pointer (some ⟨G7, 1, none⟩)) (by exact xr_fieldAddr (p := 0) (q := 1) rfl fl120_1 rfl) rfl rfl rfl rfl rfl c16 ?_
      refine ol_gval (v := .pointer (some ⟨G7, 1, none⟩)) (by exact xr_fieldAddr (p := 1) (q := 0) rfl fl118_0 rfl) rfl rfl rfl rfl rfl c16 ?_
      refine ol_gval (v := aggV [Seg.cell (.int .i64 a1.Tickets.Geometry.Blocks), Seg.cell (.int .i64 a1.Tickets.Geometry.Slots), Seg.cell (.int .i64 a1.Tickets.Geometry.Gens)]) (by exact xr_loadS (ss := [Seg.cell (.int .i64 a1.Tickets.Geometry.Blocks), Seg.cell (.int .i64 a1.Tickets.Geometry.Slots), Seg.cell (.int .i64 a1.Tickets.Geometry.Gens)]) rfl ag116 sz116 rfl rfl (b8.segs 1 3 rfl)) rfl rfl rfl rfl rfl c16 ?_
      refine ol_gval (v := .bool (decide (a0.Tickets.Geometry = a1.Tickets.Geometry))) (by exact xr_eqA (a := a0.Tickets.Geometry) (b := a1.Tickets.Geometry) rfl eqa116 rfl Try.eqGuardType115 rfl rfl rfl rfl) rfl rfl rfl rfl rfl c16 ?_
      refine ol_val (v := .bool (decide (a0.Tickets.Geometry = a1.Tickets.Geometry))) (by exact xr_pickT rfl rfl c16 rfl) rfl rfl rfl ?_
      refine ol_val (v := .bool (decide (a0.Tickets.Geometry = a1.Tickets.Geometry))) (by exact xr_move rfl rfl) rfl rfl rfl ?_
      rcases is j15 with ⟨c17, j15⟩ | ⟨c17, j15⟩
      · skip
        refine ol_gval (v := .pointer (some ⟨G1, 1, none⟩)) (by exact xr_fieldAddr (p := 0) (q := 1) rfl fl120_1 rfl) rfl rfl rfl rfl rfl c17 ?_
        refine ol_gval (v := .pointer (some ⟨G1, 5, none⟩)) (by exact xr_fieldAddr (p := 1) (q := 4) rfl fl118_2 rfl) rfl rfl rfl rfl rfl c17 ?_
        refine ol_gval (v := .int .i64 a0.Tickets.High) (by exact xr_load1 (v := .int .i64 a0.Tickets.High) rfl ag3 rfl (b2.seg 5 rfl rfl)) rfl rfl rfl rfl rfl c17 ?_
        refine ol_gval (v := .pointer (some ⟨G7, 1, none⟩)) (by exact xr_fieldAddr (p := 0) (q := 1) rfl fl120_1 rfl) rfl rfl rfl rfl rfl c17 ?_
        refine ol_gval (v := .pointer (some ⟨G7, 5, none⟩)) (by exact xr_fieldAddr (p := 1) (q := 4) rfl fl118_2 rfl) rfl rfl rfl rfl rfl c17 ?_
        refine ol_gval (v := .int .i64 a1.Tickets.High) (by exact xr_load1 (v := .int .i64 a1.Tickets.High) rfl ag3 rfl (b8.seg 5 rfl rfl)) rfl rfl rfl rfl rfl c17 ?_
        refine ol_gval (v := .bool (decide (a0.Tickets.High = a1.Tickets.High))) (by exact xr_eqI rfl Try.underlying3 rfl rfl rfl) rfl rfl rfl rfl rfl c17 ?_
        refine ol_val (v := .bool (decide (a0.Tickets.High = a1.Tickets.High))) (by exact xr_pickT rfl rfl c17 rfl) rfl rfl rfl ?_
        refine ol_val (v := .bool (decide (a0.Tickets.High = a1.Tickets.High))) (by exact xr_move rfl rfl) rfl rfl rfl ?_
        rcases is j15 with ⟨c18, j15⟩ | ⟨c18, j15⟩
        · skip
          refine ol_gval (v := .pointer (some ⟨G1, 1, none⟩)) (by exact xr_fieldAddr (p := 0) (q := 1) rfl fl120_1 rfl) rfl rfl rfl rfl rfl c18 ?_
          refine ol_gval (v := .pointer (some ⟨G1, 6, none⟩)) (by exact xr_fieldAddr (p := 1) (q := 5) rfl fl118_3 rfl) rfl rfl rfl rfl rfl c18 ?_
          refine ol_gval (v := .int .i64 a0.Tickets.Free) (by exact xr_load1 (v := .int .i64 a0.Tickets.Free) rfl ag3 rfl (b2.seg 6 rfl rfl)) rfl rfl rfl rfl rfl c18 ?_
          refine ol_gval (v := .pointer (some ⟨G7, 1, none⟩)) (by exact xr_fieldAddr (p := 0) (q := 1) rfl fl120_1 rfl) rfl rfl rfl rfl rfl c18 ?_
          refine ol_gval (v := .pointer (some ⟨G7, 6, none⟩)) (by exact xr_fieldAddr (p := 1) (q := 5) rfl fl118_3 rfl) rfl rfl rfl rfl rfl c18 ?_
          refine ol_gval (v := .int .i64 a1.Tickets.Free) (by exact xr_load1 (v := .int .i64 a1.Tickets.Free) rfl ag3 rfl (b8.seg 6 rfl rfl)) rfl rfl rfl rfl rfl c18 ?_
          refine ol_gval (v := .bool (decide (a0.Tickets.Free = a1.Tickets.Free))) (by exact xr_eqI rfl Try.underlying3 rfl rfl rfl) rfl rfl rfl rfl rfl c18 ?_
          refine ol_val (v := .bool (decide (a0.Tickets.Free = a1.Tickets.Free))) (by exact xr_pickT rfl rfl c18 rfl) rfl rfl rfl ?_
          refine ol_val (v := .bool (decide (a0.Tickets.Free = a1.Tickets.Free))) (by exact xr_move rfl rfl) rfl rfl rfl ?_
          rcases is j15 with ⟨c19, j15⟩ | ⟨c19, j15⟩
          · skip
            refine ol_gval (v := .pointer (some ⟨G1, 1, none⟩)) (by exact xr_fieldAddr (p := 0) (q := 1) rfl fl120_1 rfl) rfl rfl rfl rfl rfl c19 ?_
            refine ol_gval (v := .pointer (some ⟨G1, 4, none⟩)) (by exact xr_fieldAddr (p := 1) (q := 3) rfl fl118_1 rfl) rfl rfl rfl rfl rfl c19 ?_
            refine ol_gval (v := .int .i64 a0.Tickets.Top) (by exact xr_load1 (v := .int .i64 a0.Tickets.Top) rfl ag3 rfl (b2.seg 4 rfl rfl)) rfl rfl rfl rfl rfl c19 ?_
            refine ol_gval (v := .pointer (some ⟨G7, 1, none⟩)) (by exact xr_fieldAddr (p := 0) (q := 1) rfl fl120_1 rfl) rfl rfl rfl rfl rfl c19 ?_
            refine ol_gval (v := .pointer (some ⟨G7, 4, none⟩)) (by exact xr_fieldAddr (p := 1) (q := 3) rfl fl118_1 rfl) rfl rfl rfl rfl rfl c19 ?_
            refine ol_gval (v := .int .i64 a1.Tickets.Top) (by exact xr_load1 (v := .int .i64 a1.Tickets.Top) rfl ag3 rfl (b8.seg 4 rfl rfl)) rfl rfl rfl rfl rfl c19 ?_
            refine ol_gval (v := .bool (decide (a0.Tickets.Top = a1.Tickets.Top))) (by exact xr_eqI rfl Try.underlying3 rfl rfl rfl) rfl rfl rfl rfl rfl c19 ?_
            refine ol_val (v := .bool (decide (a0.Tickets.Top = a1.Tickets.Top))) (by exact xr_pickT rfl rfl c19 rfl) rfl rfl rfl ?_
            refine ol_val (v := .bool (decide (a0.Tickets.Top = a1.Tickets.Top))) (by exact xr_move rfl rfl) rfl rfl rfl ?_
            rcases is j15 with ⟨c20, j15⟩ | ⟨c20, j15⟩
            · skip
              refine ol_gval (v := .pointer (some ⟨G1, 7, none⟩)) (by exact xr_fieldAddr (p := 0) (q := 7) rfl fl120_2 rfl) rfl rfl rfl rfl rfl c20 ?_
              refine ol_gval (v := .int .i64 a0.Dir) (by exact xr_load1 (v := .int .i64 a0.Dir) rfl ag3 rfl (b2.seg 7 rfl rfl)) rfl rfl rfl rfl rfl c20 ?_
              refine ol_gval (v := .pointer (some ⟨G7, 7, none⟩)) (by exact xr_fieldAddr (p := 0) (q := 7) rfl fl120_2 rfl) rfl rfl rfl rfl rfl c20 ?_
              refine ol_gval (v := .int .i64 a1.Dir) (by exact xr_load1 (v := .int .i64 a1.Dir) rfl ag3 rfl (b8.seg 7 rfl rfl)) rfl rfl rfl rfl rfl c20 ?_
              refine ol_gval (v := .bool (decide (a0.Dir = a1.Dir))) (by exact xr_eqI rfl Try.underlying3 rfl rfl rfl) rfl rfl rfl rfl rfl c20 ?_
              refine ol_val (v := .bool (decide (a0.Dir = a1.Dir))) (by exact xr_pickT rfl rfl c20 rfl) rfl rfl rfl ?_
              refine ol_val (v := .bool (decide (a0.Dir = a1.Dir))) (by exact xr_move rfl rfl) rfl rfl rfl ?_
              rcases is j15 with ⟨c21, j15⟩ | ⟨c21, j15⟩
              · skip
                refine ol_gval (v := .pointer (some ⟨G1, 8, none⟩)) (by exact xr_fieldAddr (p := 0) (q := 8) rfl fl120_3 rfl) rfl rfl rfl rfl rfl c21 ?_
                refine ol_gval (v := V0_0) (by exact xr_load1 (v := V0_0) rfl ag45 rfl (b2.seg 8 rfl rfl)) rfl rfl rfl rfl rfl c21 ?_
                refine ol_gval (v := .pointer (some ⟨G7, 8, none⟩)) (by exact xr_fieldAddr (p := 0) (q := 8) rfl fl120_3 rfl) rfl rfl rfl rfl rfl c21 ?_
                refine ol_gval (v := V1_0) (by exact xr_load1 (v := V1_0) rfl ag45 rfl (b8.seg 8 rfl rfl)) rfl rfl rfl rfl rfl c21 ?_
                obtain ⟨t22, k23, j15⟩ := bs j15
                refine ol_gop (by exact opv_call rfl cal66 (ac rfl (ac rfl an)) (rickyardref01_Ints.ok fu _ a0.Charts V0_0 (R0_0.gr fB) a1.Charts V1_0 (R1_0.gr fB) _ k23)) rfl rfl rfl rfl rfl c21 ?_
                rintro _ w25 ⟨rfl, q24⟩
                have fB := fB.gr q24
                refine ol_val (v := .bool t22) (by exact xr_pickT rfl rfl c21 rfl) rfl rfl rfl ?_
                refine ol_val (v := .bool t22) (by exact xr_assign rfl rfl) rfl rfl rfl ?_
                refine ol_nil ?_
                obtain rfl := Option.some.inj j15
                refine thn_i ?_
                exact ⟨rfl, q24⟩
              · skip
                refine ol_gskip rfl rfl rfl rfl rfl c21 ?_
                refine ol_gskip rfl rfl rfl rfl rfl c21 ?_
                refine ol_gskip rfl rfl rfl rfl rfl c21 ?_
                refine ol_gskip rfl rfl rfl rfl rfl c21 ?_
                refine ol_gskip rfl rfl rfl rfl rfl c21 ?_
                refine ol_val (v := .bool false) (by exact xr_pickF rfl rfl c21 rfl) rfl rfl rfl ?_
                refine ol_val (v := .bool false) (by exact xr_assign rfl rfl) rfl rfl rfl ?_
                refine ol_nil ?_
                obtain rfl := Option.some.inj j15
                refine thn_i ?_
                exact ⟨rfl, Fr.refl _ _⟩
            · skip
              refine ol_gskip rfl rfl rfl rfl rfl c20 ?_
              refine ol_gskip rfl rfl rfl rfl rfl c20 ?_
              refine ol_gskip rfl rfl rfl rfl rfl c20 ?_
              refine ol_gskip rfl rfl rfl rfl rfl c20 ?_
              refine ol_gskip rfl rfl rfl rfl rfl c20 ?_
              refine ol_val (v := .bool false) (by exact xr_pickF rfl rfl c20 rfl) rfl rfl rfl ?_
              refine ol_val (v := .bool false) (by exact xr_move rfl rfl) rfl rfl rfl ?_
              refine ol_gskip rfl rfl rfl rfl rfl rfl ?_
              refine ol_gskip rfl rfl rfl rfl rfl rfl ?_
              refine ol_gskip rfl rfl rfl rfl rfl rfl ?_
              refine ol_gskip rfl rfl rfl rfl rfl rfl ?_
              refine ol_gskip rfl rfl rfl rfl rfl rfl ?_
              refine ol_val (v := .bool false) (by exact xr_pickF rfl rfl rfl rfl) rfl rfl rfl ?_
              refine ol_val (v := .bool false) (by exact xr_assign rfl rfl) rfl rfl rfl ?_
              refine ol_nil ?_
              obtain rfl := Option.some.inj j15
              refine thn_i ?_
              exact ⟨rfl, Fr.refl _ _⟩
          · skip
            refine ol_gskip rfl rfl rfl rfl rfl c19 ?_
            refine ol_gskip rfl rfl rfl rfl rfl c19 ?_
            refine ol_gskip rfl rfl rfl rfl rfl c19 ?_
            refine ol_gskip rfl rfl rfl rfl rfl c19 ?_
            refine ol_gskip rfl rfl rfl rfl rfl c19 ?_
            refine ol_gskip rfl rfl rfl rfl rfl c19 ?_
            refine ol_gskip rfl rfl rfl rfl rfl c19 ?_
            refine ol_val (v := .bool false) (by exact xr_pickF rfl rfl c19 rfl) rfl rfl rfl ?_
            refine ol_val (v := .bool false) (by exact xr_move rfl rfl) rfl rfl rfl ?_
            refine ol_gskip rfl rfl rfl rfl rfl rfl ?_
            refine ol_gskip rfl rfl rfl rfl rfl rfl ?_
            refine ol_gskip rfl rfl rfl rfl rfl rfl ?_
            refine ol_gskip rfl rfl rfl rfl rfl rfl ?_
            refine ol_gskip rfl rfl rfl rfl rfl rfl ?_
            refine ol_val (v := .bool false) (by exact xr_pickF rfl rfl rfl rfl) rfl rfl rfl ?_
            refine ol_val (v := .bool false) (by exact xr_move rfl rfl) rfl rfl rfl ?_
            refine ol_gskip rfl rfl rfl rfl rfl rfl ?_
            refine ol_gskip rfl rfl rfl rfl rfl rfl ?_
            refine ol_gskip rfl rfl rfl rfl rfl rfl ?_
            refine ol_gskip rfl rfl rfl rfl rfl rfl ?_
            refine ol_gskip rfl rfl rfl rfl rfl rfl ?_
            refine ol_val (v := .bool false) (by exact xr_pickF rfl rfl rfl rfl) rfl rfl rfl ?_
            refine ol_val (v := .bool false) (by exact xr_assign rfl rfl) rfl rfl rfl ?_
            refine ol_nil ?_
            obtain rfl := Option.some.inj j15
            refine thn_i ?_
            exact ⟨rfl, Fr.refl _ _⟩
        · skip
          refine ol_gskip rfl rfl rfl rfl rfl c18 ?_
          refine ol_gskip rfl rfl rfl rfl rfl c18 ?_
          refine ol_gskip rfl rfl rfl rfl rfl c18 ?_
          refine ol_gskip rfl rfl rfl rfl rfl c18 ?_
          refine ol_gskip rfl rfl rfl rfl rfl c18 ?_
          refine ol_gskip rfl rfl rfl rfl rfl c18 ?_
          refine ol_gskip rfl rfl rfl rfl rfl c18 ?_
          refine ol_val (v := .bool false) (by exact xr_pickF rfl rfl c18 rfl) rfl rfl rfl ?_
          refine ol_val (v := .bool false) (by exact xr_move rfl rfl) rfl rfl rfl ?_
          refine ol_gskip rfl rfl rfl rfl rfl rfl ?_
          refine ol_gskip rfl rfl rfl rfl rfl rfl ?_
          refine ol_gskip rfl rfl rfl rfl rfl rfl ?_
          refine ol_gskip rfl rfl rfl rfl rfl rfl ?_
          refine ol_gskip rfl rfl rfl rfl rfl rfl ?_
          refine ol_gskip rfl rfl rfl rfl rfl rfl ?_
          refine ol_gskip rfl rfl rfl rfl rfl rfl ?_
          refine ol_val (v := .bool false) (by exact xr_pickF rfl rfl rfl rfl) rfl rfl rfl ?_
          refine ol_val (v := .bool false) (by exact xr_move rfl rfl) rfl rfl rfl ?_
          refine ol_gskip rfl rfl rfl rfl rfl rfl ?_
          refine ol_gskip rfl rfl rfl rfl rfl rfl ?_
          refine ol_gskip rfl rfl rfl rfl rfl rfl ?_
          refine ol_gskip rfl rfl rfl rfl rfl rfl ?_
          refine ol_gskip rfl rfl rfl rfl rfl rfl ?_
          refine ol_val (v := .bool false) (by exact xr_pickF rfl rfl rfl rfl) rfl rfl rfl ?_
          refine ol_val (v := .bool false) (by exact xr_move rfl rfl) rfl rfl rfl ?_
          refine ol_gskip rfl rfl rfl rfl rfl rfl ?_
          refine ol_gskip rfl rfl rfl rfl rfl rfl ?_
          refine ol_gskip rfl rfl rfl rfl rfl rfl ?_
          refine ol_gskip rfl rfl rfl rfl rfl rfl ?_
          refine ol_gskip rfl rfl rfl rfl rfl rfl ?_
          refine ol_val (v := .bool false) (by exact xr_pickF rfl rfl rfl rfl) rfl rfl rfl ?_
          refine ol_val (v := .bool false) (by exact xr_assign rfl rfl) rfl rfl rfl ?_
          refine ol_nil ?_
          obtain rfl := Option.some.inj j15
          refine thn_i ?_
          exact ⟨rfl, Fr.refl _ _⟩
      · skip
        refine ol_gskip rfl rfl rfl rfl rfl c17 ?_
        refine ol_gskip rfl rfl rfl rfl rfl c17 ?_
        refine ol_gskip rfl rfl rfl rfl rfl c17 ?_
        refine ol_gskip rfl rfl rfl rfl rfl c17 ?_
        refine ol_gskip rfl rfl rfl rfl rfl c17 ?_
        refine ol_gskip rfl rfl rfl rfl rfl c17 ?_
        refine ol_gskip rfl rfl rfl rfl rfl c17 ?_
        refine ol_val (v := .bool false) (by exact xr_pickF rfl rfl c17 rfl) rfl rfl rfl ?_
        refine ol_val (v := .bool false) (by exact xr_move rfl rfl) rfl rfl rfl ?_
        refine ol_gskip rfl rfl rfl rfl rfl rfl ?_
        refine ol_gskip rfl rfl rfl rfl rfl rfl ?_
        refine ol_gskip rfl rfl rfl rfl rfl rfl ?_
        refine ol_gskip rfl rfl rfl rfl rfl rfl ?_
        refine ol_gskip rfl rfl rfl rfl rfl rfl ?_
        refine ol_gskip rfl rfl rfl rfl rfl rfl ?_
        refine ol_gskip rfl rfl rfl rfl rfl rfl ?_
        refine ol_val (v := .bool false) (by exact xr_pickF rfl rfl rfl rfl) rfl rfl rfl ?_
        refine ol_val (v := .bool false) (by exact xr_move rfl rfl) rfl rfl rfl ?_
        refine ol_gskip rfl rfl rfl rfl rfl rfl ?_
        refine ol_gskip rfl rfl rfl rfl rfl rfl ?_
        refine ol_gskip rfl rfl rfl rfl rfl rfl ?_
        refine ol_gskip rfl rfl rfl rfl rfl rfl ?_
        refine ol_gskip rfl rfl rfl rfl rfl rfl ?_
        refine ol_gskip rfl rfl rfl rfl rfl rfl ?_
        refine ol_gskip rfl rfl rfl rfl rfl rfl ?_
        refine ol_val (v := .bool false) (by exact xr_pickF rfl rfl rfl rfl) rfl rfl rfl ?_
        refine ol_val (v := .bool false) (by exact xr_move rfl rfl) rfl rfl rfl ?_
        refine ol_gskip rfl rfl rfl rfl rfl rfl ?_
        refine ol_gskip rfl rfl rfl rfl rfl rfl ?_
        refine ol_gskip rfl rfl rfl rfl rfl rfl ?_
        refine ol_gskip rfl rfl rfl rfl rfl rfl ?_
        refine ol_gskip rfl rfl rfl rfl rfl rfl ?_
        refine ol_val (v := .bool false) (by exact xr_pickF rfl rfl rfl rfl) rfl rfl rfl ?_
        refine ol_val (v := .bool false) (by exact xr_move rfl rfl) rfl rfl rfl ?_
        refine ol_gskip rfl rfl rfl rfl rfl rfl ?_
        refine ol_gskip rfl rfl rfl rfl rfl rfl ?_
        refine ol_gskip rfl rfl rfl rfl rfl rfl ?_
        refine ol_gskip rfl rfl rfl rfl rfl rfl ?_
        refine ol_gskip rfl rfl rfl rfl rfl rfl ?_
        refine ol_val (v := .bool false) (by exact xr_pickF rfl rfl rfl rfl) rfl rfl rfl ?_
        refine ol_val (v := .bool false) (by exact xr_assign rfl rfl) rfl rfl rfl ?_
        refine ol_nil ?_
        obtain rfl := Option.some.inj j15
        refine thn_i ?_
        exact ⟨rfl, Fr.refl _ _⟩
    · skip
      refine ol_gskip rfl rfl rfl rfl rfl c16 ?_
      refine ol_gskip rfl rfl rfl rfl rfl c16 ?_
      refine ol_gskip rfl rfl rfl rfl rfl c16 ?_
      refine ol_gskip rfl rfl rfl rfl rfl c16 ?_
      refine ol_gskip rfl rfl rfl rfl rfl c16 ?_
      refine ol_gskip rfl rfl rfl rfl rfl c16 ?_
      refine ol_gskip rfl rfl rfl rfl rfl c16 ?_
      refine ol_val (v := .bool false) (by exact xr_pickF rfl rfl c16 rfl) rfl rfl rfl ?_
      refine ol_val (v := .bool false) (by exact xr_move rfl rfl) rfl rfl rfl ?_
      refine ol_gskip rfl rfl rfl rfl rfl rfl ?_
      refine ol_gskip rfl rfl rfl rfl rfl rfl ?_
      refine ol_gskip rfl rfl rfl rfl rfl rfl ?_
      refine ol_gskip rfl rfl rfl rfl rfl rfl ?_
      refine ol_gskip rfl rfl rfl rfl rfl rfl ?_
      refine ol_gskip rfl rfl rfl rfl rfl rfl ?_
      refine ol_gskip rfl rfl rfl rfl rfl rfl ?_
      refine ol_val (v := .bool false) (by exact xr_pickF rfl rfl rfl rfl) rfl rfl rfl ?_
      refine ol_val (v := .bool false) (by exact xr_move rfl rfl) rfl rfl rfl ?_
      refine ol_gskip rfl rfl rfl rfl rfl rfl ?_
      refine ol_gskip rfl rfl rfl rfl rfl rfl ?_
      refine ol_gskip rfl rfl rfl rfl rfl rfl ?_
      refine ol_gskip rfl rfl rfl rfl rfl rfl ?_
      refine ol_gskip rfl rfl rfl rfl rfl rfl ?_
      refine ol_gskip rfl rfl rfl rfl rfl rfl ?_
      refine ol_gskip rfl rfl rfl rfl rfl rfl ?_
      refine ol_val (v := .bool false) (by exact xr_pickF rfl rfl rfl rfl) rfl rfl rfl ?_
      refine ol_val (v := .bool false) (by exact xr_move rfl rfl) rfl rfl rfl ?_
      refine ol_gskip rfl rfl rfl rfl rfl rfl ?_
      refine ol_gskip rfl rfl rfl rfl rfl rfl ?_
      refine ol_gskip rfl rfl rfl rfl rfl rfl ?_
      refine ol_gskip rfl rfl rfl rfl rfl rfl ?_
      refine ol_gskip rfl rfl rfl rfl rfl rfl ?_
      refine ol_gskip rfl rfl rfl rfl rfl rfl ?_
      refine ol_gskip rfl rfl rfl rfl rfl rfl ?_
      refine ol_val (v := .bool false) (by exact xr_pickF rfl rfl rfl rfl) rfl rfl rfl ?_
      refine ol_val (v := .bool false) (by exact xr_move rfl rfl) rfl rfl rfl ?_
      refine ol_gskip rfl rfl rfl rfl rfl rfl ?_
      refine ol_gskip rfl rfl rfl rfl rfl rfl ?_
      refine ol_gskip rfl rfl rfl rfl rfl rfl ?_
      refine ol_gskip rfl rfl rfl rfl rfl rfl ?_
      refine ol_gskip rfl rfl rfl rfl rfl rfl ?_
      refine ol_val (v := .bool false) (by exact xr_pickF rfl rfl rfl rfl) rfl rfl rfl ?_
      refine ol_val (v := .bool false) (by exact xr_move rfl rfl) rfl rfl rfl ?_
      refine ol_gskip rfl rfl rfl rfl rfl rfl ?_
      refine ol_gskip rfl rfl rfl rfl rfl rfl ?_
      refine ol_gskip rfl rfl rfl rfl rfl rfl ?_
      refine ol_gskip rfl rfl rfl rfl rfl rfl ?_
      refine ol_gskip rfl rfl rfl rfl rfl rfl ?_
      refine ol_val (v := .bool false) (by exact xr_pickF rfl rfl rfl rfl) rfl rfl rfl ?_
      refine ol_val (v := .bool false) (by exact xr_assign rfl rfl) rfl rfl rfl ?_
      refine ol_nil ?_
      obtain rfl := Option.some.inj j15
      refine thn_i ?_
      exact ⟨rfl, Fr.refl _ _⟩
  · skip
    rintro ρ26 w27 ⟨e4, q28⟩
    have fB := fB.gr q28
    refine cw_ret ?_
    repeat (first | with_reducible refine thn_r ?_ | with_reducible refine blk_r ?_)
    obtain rfl := Option.some.inj h
    refine fin_ret1 Try.results89 e4 ?_
    exact ⟨_, rfl, rfl, fB⟩
end Go.Proofs.Ytjhajfkfhdnciaa

/- rickyard/rickyardref12.Right: its model, and that the Go function computes it: written by gen.py. -/
set_option linter.unusedVariables false
namespace Go.Proofs.Ytjhajfkfhdnciaa
open Go Go.Xw
def rickyardref12_Right.f (fu : Nat) (a0 : S_api_Geometry) : Option Bool := some ((if (decide (a0.Blocks ≥ 16)) = true then (if (decide (a0.Blocks ≤ 3072)) = true then (if (decide (a0.Slots ≥ 1)) = true then (if (decide (a0.Slots ≤ 1792)) = true then (if (decide (a0.Gens ≥ 1)) = true then (decide (a0.Gens ≤ 4294967295)) else false) else false) else false) else false) else false))
set_option maxRecDepth 100000 in
set_option maxHeartbeats 400000 in
theorem rickyardref12_Right.ok (fu : Nat) (w : World) (a0 : S_api_Geometry) (r : Bool) (h : rickyardref12_Right.f fu a0 = some r) :
    Calls Try.prog 124 (([aggV [Seg.cell (.int .i64 a0.Blocks), Seg.cell (.int .i64 a0.Slots), Seg.cell (.int .i64 a0.Gens)]] : List Value).toArray) w (fun e w' => ∃ v, e = .returned v ∧ v = .bool r ∧ Gr w w') := by
  unfold rickyardref12_Right.f at h
  have fB : Gr w w := Fr.refl _ _
  refine calls_cw Try.func124 rfl Try.ntmps124 rfl ?_
  refine cw_seq ?_
  refine cw_region ?_
  refine ol_op (by exact opv_box (ss := [Seg.cell (.int .i64 a0.Blocks), Seg.cell (.int .i64 a0.Slots), Seg.cell (.int .i64 a0.Gens)]) rfl rfl rfl) rfl rfl rfl ?_
  rintro _ w6 ⟨G1, rfl, b2, q3, z4⟩
  have z4 := Nat.le_trans fB.size z4
  have fB := fB.gr q3
  refine ol_val (v := .bool false) (by exact xr_assign rfl rfl) rfl rfl rfl ?_
  refine ol_nil ?_
  refine cw_seq ?_
  refine cw_mid (fun ρ' w' => ρ' 2 = .bool (if (decide (a0.Blocks ≥ 16)) = true then (if (decide (a0.Blocks ≤ 3072)) = true then (if (decide (a0.Slots ≥ 1)) = true then (if (decide (a0.Slots ≤ 1792)) = true then (if (decide (a0.Gens ≥ 1)) = true then (decide (a0.Gens ≤ 4294967295)) else false) else false) else false) else false) else false) ∧ w6 = w') ?_ ?_
  · skip
    refine cw_region ?_
    refine ol_val (v := .pointer (some ⟨G1, 0, none⟩)) (by exact xr_fieldAddr (p := 0) (q := 0) rfl fl116_0 rfl) rfl rfl rfl ?_
    refine ol_val (v := .int .i64 a0.Blocks) (by exact xr_load1 (v := .int .i64 a0.Blocks) rfl ag3 rfl (b2.seg 0 rfl rfl)) rfl rfl rfl ?_
    refine ol_val (v := .bool (decide (a0.Blocks ≥ 16))) (by exact xr_geq rfl rfl rfl) rfl rfl rfl ?_
    refine ol_val (v := .bool (decide (a0.Blocks ≥ 16))) (by exact xr_move rfl rfl) rfl rfl rfl ?_
    rcases bt (decide (a0.Blocks ≥ 16)) with c7 | c7
    · skip
      refine ol_gval (v := .pointer (some ⟨G1, 0, none⟩)) (by exact xr_fieldAddr (p := 0) (q := 0) rfl fl116_0 rfl) rfl rfl rfl rfl rfl c7 ?_
      refine ol_gval (v := .int .i64 a0.Blocks) (by exact xr_load1 (v := .int .i64 a0.Blocks) rfl ag3 rfl (b2.seg 0 rfl rfl)) rfl rfl rfl rfl rfl c7 ?_
      refine ol_gval (v := .bool (decide (a0.Blocks ≤ 3072))) (by exact xr_leq rfl rfl rfl) rfl rfl rfl rfl rfl c7 ?_
      refine ol_val (v := .bool (decide (a0.Blocks ≤ 3072))) (by exact xr_pickT rfl rfl c7 rfl) rfl rfl rfl ?_
      refine ol_val (v := .bool (decide (a0.Blocks ≤ 3072))) (by exact xr_move rfl rfl) rfl rfl rfl ?_
      rcases bt (decide (a0.Blocks ≤ 3072)) with c8 | c8
      · skip
        refine ol_gval (v := .pointer (some ⟨G1, 1, none⟩)) (by exact xr_fieldAddr (p := 0) (q := 1) rfl fl116_1 rfl) rfl rfl rfl rfl rfl c8 ?_
        refine ol_gval (v := .int .i64 a0.Slots) (by exact xr_load1 (v := .int .i64 a0.Slots) rfl ag3 rfl (b2.seg 1 rfl rfl)) rfl rfl rfl rfl rfl c8 ?_
        refine ol_gval (v := .bool (decide (a0.Slots ≥ 1))) (by exact xr_geq rfl rfl rfl) rfl rfl rfl rfl rfl c8 ?_
        refine ol_val (v := .bool (decide (a0.Slots ≥ 1))) (by exact xr_pickT rfl rfl c8 rfl) rfl rfl rfl ?_
        refine ol_val (v := .bool (decide (a0.Slots ≥ 1))) (by exact xr_move rfl rfl) rfl rfl rfl ?_
        rcases bt (decide (a0.Slots ≥ 1)) with c9 | c9
        · skip
          refine ol_gval (v := .pointer (some ⟨G1, 1, none⟩)) (by exact xr_fieldAddr (p := 0) (q := 1) rfl fl116_1 rfl) rfl rfl rfl rfl rfl c9 ?_
          refine ol_gval (v := .int .i64 a0.Slots) (by exact xr_load1 (v := .int .i64 a0.Slots) rfl ag3 rfl (b2.seg 1 rfl rfl)) rfl rfl rfl rfl rfl c9 ?_
          refine ol_gval (v := .bool (decide (a0.Slots ≤ 1792))) (by exact xr_leq rfl rfl rfl) rfl rfl rfl rfl rfl c9 ?_
          refine ol_val (v := .bool (decide (a0.Slots ≤ 1792))) (by exact xr_pickT rfl rfl c9 rfl) rfl rfl rfl ?_
          refine ol_val (v := .bool (decide (a0.Slots ≤ 1792))) (by exact xr_move rfl rfl) rfl rfl rfl ?_
          rcases bt (decide (a0.Slots ≤ 1792)) with c10 | c10
          · skip
            refine ol_gval (v := .pointer (some ⟨G1, 2, none⟩)) (by exact xr_fieldAddr (p := 0) (q := 2) rfl fl116_2 rfl) rfl rfl rfl rfl rfl c10 ?_
            refine ol_gval (v := .int .i64 a0.Gens) (by exact xr_load1 (v := .int .i64 a0.Gens) rfl ag3 rfl (b2.seg 2 rfl rfl)) rfl rfl rfl rfl rfl c10 ?_
            refine ol_gval (v := .bool (decide (a0.Gens ≥ 1))) (by exact xr_geq rfl rfl rfl) rfl rfl rfl rfl rfl c10 ?_
            refine ol_val (v := .bool (decide (a0.Gens ≥ 1))) (by exact xr_pickT rfl rfl c10 rfl) rfl rfl rfl ?_
            refine ol_val (v := .bool (decide (a0.Gens ≥ 1))) (by exact xr_move rfl rfl) rfl rfl rfl ?_
            rcases bt (decide (a0.Gens ≥ 1)) with c11 | c11
            · skip
              refine ol_gval (v := .pointer (some ⟨G1, 2, none⟩)) (by exact xr_fieldAddr (p := 0) (q := 2) rfl fl116_2 rfl) rfl rfl rfl rfl rfl c11 ?_
              refine ol_gval (v := .int .i64 a0.Gens) (by exact xr_load1 (v := .int .i64 a0.Gens) rfl ag3 rfl (b2.seg 2 rfl rfl)) rfl rfl rfl rfl rfl c11 ?_
              refine ol_gval (v := .bool (decide (a0.Gens ≤ 4294967295))) (by exact xr_leq rfl rfl rfl) rfl rfl rfl rfl rfl c11 ?_
              refine ol_val (v := .bool (decide (a0.Gens ≤ 4294967295))) (by exact xr_pickT rfl rfl c11 rfl) rfl rfl rfl ?_
              refine ol_val (v := .bool (decide (a0.Gens ≤ 4294967295))) (by exact xr_assign rfl rfl) rfl rfl rfl ?_
              refine ol_nil ?_
              refine thn_i ?_
              exact ⟨(rfl).trans (congrArg (fun z => (.bool z : Value)) (show (decide (a0.Gens ≤ 4294967295)) = (if (decide (a0.Blocks ≥ 16)) = true then (if (decide (a0.Blocks ≤ 3072)) = true then (if (decide (a0.Slots ≥ 1)) = true then (if (decide (a0.Slots ≤ 1792)) = true then (if (decide (a0.Gens ≥ 1)) = true then (decide (a0.Gens ≤ 4294967295)) else false) else false) else false) else false) else false) from by rw [ite_t c7, ite_t c8, ite_t c9, ite_t c10, ite_t c11])), rfl⟩
            · skip
              refine ol_gskip rfl rfl rfl rfl rfl c11 ?_
              refine ol_gskip rfl rfl rfl rfl rfl c11 ?_
              refine ol_gskip rfl rfl rfl rfl rfl c11 ?_
              refine ol_val (v := .bool false) (by exact xr_pickF rfl rfl c11 rfl) rfl rfl rfl ?_
              refine ol_val (v := .bool false) (by exact xr_assign rfl rfl) rfl rfl rfl ?_
              refine ol_nil ?_
              refine thn_i ?_
              exact ⟨(rfl).trans (congrArg (fun z => (.bool z : Value)) (show false = (if (decide (a0.Blocks ≥ 16)) = true then (if (decide (a0.Blocks ≤ 3072)) = true then (if (decide (a0.Slots ≥ 1)) = true then (if (decide (a0.Slots ≤ 1792)) = true then (if (decide (a0.Gens ≥ 1)) = true then (decide (a0.Gens ≤ 4294967295)) else false) else false) else false) else false) else false) from by rw [ite_t c7, ite_t c8, ite_t c9, ite_t c10, ite_f c11])), rfl⟩
          · skip
            refine ol_gskip rfl rfl rfl rfl rfl c10 ?_
            refine ol_gskip rfl rfl rfl rfl rfl c10 ?_
            refine ol_gskip rfl rfl rfl rfl rfl c10 ?_
            refine ol_val (v := .bool false) (by exact xr_pickF rfl rfl c10 rfl) rfl rfl rfl ?_
            refine ol_val (v := .bool false) (by exact xr_move rfl rfl) rfl rfl rfl ?_
            refine ol_gskip rfl rfl rfl rfl rfl rfl ?_
            refine ol_gskip rfl rfl rfl rfl rfl rfl ?_
            refine ol_gskip rfl rfl rfl rfl rfl rfl ?_
            refine ol_val (v := .bool false) (by exact xr_pickF rfl rfl rfl rfl) rfl rfl rfl ?_
            refine ol_val (v := .bool false) (by exact xr_assign rfl rfl) rfl rfl rfl ?_
            refine ol_nil ?_
            refine thn_i ?_
            exact ⟨(rfl).trans (congrArg (fun z => (.bool z : Value)) (show false = (if (decide (a0.Blocks ≥ 16)) = true then (if (decide (a0.Blocks ≤ 3072)) = true then (if (decide (a0.Slots ≥ 1)) = true then (if (decide (a0.Slots ≤ 1792)) = true then (if (decide (a0.Gens ≥ 1)) = true then (decide (a0.Gens ≤ 4294967295)) else false) else false) else false) else false) else false) from by rw [ite_t c7, ite_t c8, ite_t c9, ite_f c10])), rfl⟩
        · skip
          refine ol_gskip rfl rfl rfl rfl rfl c9 ?_
          refine ol_gskip rfl rfl rfl rfl rfl c9 ?_
          refine ol_gskip rfl rfl rfl rfl rfl c9 ?_
          refine ol_val (v := .bool false) (by exact xr_pickF rfl rfl c9 rfl) rfl rfl rfl ?_
          refine ol_val (v := .bool false) (by exact xr_move rfl rfl) rfl rfl rfl ?_
          refine ol_gskip rfl rfl rfl rfl rfl rfl ?_
          refine ol_gskip rfl rfl rfl rfl rfl rfl ?_
          refine ol_gskip rfl rfl rfl rfl rfl rfl ?_
          refine ol_val (v := .bool false) (by exact xr_pickF rfl rfl rfl rfl) rfl rfl rfl ?_
          refine ol_val (v := .bool false) (by exact xr_move rfl rfl) rfl rfl rfl ?_
          refine ol_gskip rfl rfl rfl rfl rfl rfl ?_
          refine ol_gskip rfl rfl rfl rfl rfl rfl ?_
          refine ol_gskip rfl rfl rfl rfl rfl rfl ?_
          refine ol_val (v := .bool false) (by exact xr_pickF rfl rfl rfl rfl) rfl rfl rfl ?_
          refine ol_val (v := .bool false) (by exact xr_assign rfl rfl) rfl rfl rfl ?_
          refine ol_nil ?_
          refine thn_i ?_
          exact ⟨(rfl).trans (congrArg (fun z => (.bool z : Value)) (show false = (if (decide (a0.Blocks ≥ 16)) = true then (if (decide (a0.Blocks ≤ 3072)) = true then (if (decide (a0.Slots ≥ 1)) = true then (if (decide (a0.Slots ≤ 1792)) = true then (if (decide (a0.Gens ≥ 1)) = true then (decide (a0.Gens ≤ 4294967295)) else false) else false) else false) else false) else false) from by rw [ite_t c7, ite_t c8, ite_f c9])), rfl⟩
      · skip
        refine ol_gskip rfl rfl rfl rfl rfl c8 ?_
        refine ol_gskip rfl rfl rfl rfl rfl c8 ?_
        refine ol_gskip rfl rfl rfl rfl rfl c8 ?_
        refine ol_val (v := .bool false) (by exact xr_pickF rfl rfl c8 rfl) rfl rfl rfl ?_
        refine ol_val (v := .bool false) (by exact xr_move rfl rfl) rfl rfl rfl ?_
        refine ol_gskip rfl rfl rfl rfl rfl rfl ?_
        refine ol_gskip rfl rfl rfl rfl rfl rfl ?_
        refine ol_gskip rfl rfl rfl rfl rfl rfl ?_
        refine ol_val (v := .bool false) (by exact xr_pickF rfl rfl rfl rfl) rfl rfl rfl ?_
        refine ol_val (v := .bool false) (by exact xr_move rfl rfl) rfl rfl rfl ?_
        refine ol_gskip rfl rfl rfl rfl rfl rfl ?_
        refine ol_gskip rfl rfl rfl rfl rfl rfl ?_
        refine ol_gskip rfl rfl rfl rfl rfl rfl ?_
        refine ol_val (v := .bool false) (by exact xr_pickF rfl rfl rfl rfl) rfl rfl rfl ?_
        refine ol_val (v := .bool false) (by exact xr_move rfl rfl) rfl rfl rfl ?_
        refine ol_gskip rfl rfl rfl rfl rfl rfl ?_
        refine ol_gskip rfl rfl rfl rfl rfl rfl ?_
        refine ol_gskip rfl rfl rfl rfl rfl rfl ?_
        refine ol_val (v := .bool false) (by exact xr_pickF rfl rfl rfl rfl) rfl rfl rfl ?_
        refine ol_val (v := .bool false) (by exact xr_assign rfl rfl) rfl rfl rfl ?_
        refine ol_nil ?_
        refine thn_i ?_
        exact ⟨(rfl).trans (congrArg (fun z => (.bool z : Value)) (show false = (if (decide (a0.Blocks ≥ 16)) = true then (if (decide (a0.Blocks ≤ 3072)) = true then (if (decide (a0.Slots ≥ 1)) = true then (if (decide (a0.Slots ≤ 1792)) = true then (if (decide (a0.Gens ≥ 1)) = true then (decide (a0.Gens ≤ 4294967295)) else false) else false) else false) else false) else false) from by rw [ite_t c7, ite_f c8])), rfl⟩
    · skip
      refine ol_gskip rfl rfl rfl rfl rfl c7 ?_
      refine ol_gskip rfl rfl rfl rfl rfl c7 ?_
      refine ol_gskip rfl rfl rfl rfl rfl c7 ?_
      refine ol_val (v := .bool false) (by exact xr_pickF rfl rfl c7 rfl) rfl rfl rfl ?_
      refine ol_val (v := .bool false) (by exact xr_move rfl rfl) rfl rfl rfl ?_
      refine ol_gskip rfl rfl rfl rfl rfl rfl ?_
      refine ol_gskip rfl rfl rfl rfl rfl rfl ?_
      refine ol_gskip rfl rfl rfl rfl rfl rfl ?_
      refine ol_val (v := .bool false) (by exact xr_pickF rfl rfl rfl rfl) rfl rfl rfl ?_
      refine ol_val (v := .bool false) (by exact xr_move rfl rfl) rfl rfl rfl ?_
      refine ol_gskip rfl rfl rfl rfl rfl rfl ?_
      refine ol_gskip rfl rfl rfl rfl rfl rfl ?_
      refine ol_gskip rfl rfl rfl rfl rfl rfl ?_
      refine ol_val (v := .bool false) (by exact xr_pickF rfl rfl rfl rfl) rfl rfl rfl ?_
      refine ol_val (v := .bool false) (by exact xr_move rfl rfl) rfl rfl rfl ?_
      refine ol_gskip rfl rfl rfl rfl rfl rfl ?_
      refine ol_gskip rfl rfl rfl rfl rfl rfl ?_
      refine ol_gskip rfl rfl rfl rfl rfl rfl ?_
      refine ol_val (v := .bool false) (by exact xr_pickF rfl rfl rfl rfl) rfl rfl rfl ?_
      refine ol_val (v := .bool false) (by exact xr_move rfl rfl) rfl rfl rfl ?_
      refine ol_gskip rfl rfl rfl rfl rfl rfl ?_
      refine ol_gskip rfl rfl rfl rfl rfl rfl ?_
      refine ol_gskip rfl rfl rfl rfl rfl rfl ?_
      refine ol_val (v := .bool false) (by exact xr_pickF rfl rfl rfl rfl) rfl rfl rfl ?_
      refine ol_val (v := .bool false) (by exact xr_assign rfl rfl) rfl rfl rfl ?_
      refine ol_nil ?_
      refine thn_i ?_
      exact ⟨(rfl).trans (congrArg (fun z => (.bool z : Value)) (show false = (if (decide (a0.Blocks ≥ 16)) = true then (if (decide (a0.Blocks ≤ 3072)) = true then (if (decide (a0.Slots ≥ 1)) = true then (if (decide (a0.Slots ≤ 1792)) = true then (if (decide (a0.Gens ≥ 1)) = true then (decide (a0.Gens ≤ 4294967295)) else false) else false) else false) else false) else false) from by rw [ite_f c7])), rfl⟩
  · skip
    rintro ρ12 _ ⟨e2, rfl⟩
    refine cw_ret ?_
    repeat (first | with_reducible refine thn_r ?_ | with_reducible refine blk_r ?_)
    obtain rfl := Option.some.inj h
    refine fin_ret1 Try.results124 e2 ?_
    exact ⟨_, rfl, rfl, fB⟩
end Go.Proofs.Ytjhajfkfhdnciaa

/- rickyard/rickyardref12.Need: its model, and that the Go function computes it: written by gen.py. -/
set_option linter.unusedVariables false
namespace Go.Proofs.Ytjhajfkfhdnciaa
open Go Go.Xw
def rickyardref12_Need.s0 (fu : Nat) (a0 : Int) (a1 : Int) : Int → Option (Sum Int Int) := fun s1 => (if (decide ((IntKind.i64.wrap (s1 * a1)) < a0)) = true then some (Sum.inr ((IntKind.i64.wrap (s1 + 1)))) else some (Sum.inl (s1)))
def rickyardref12_Need.f (fu : Nat) (a0 : Int) (a1 : Int) : Option Int := ((loopM (rickyardref12_Need.s0 fu a0 a1) fu (0)).bind fun e2 => some (e2))
set_option maxRecDepth 100000 in
set_option maxHeartbeats 400000 in
theorem rickyardref12_Need.ok (fu : Nat) (w : World) (a0 : Int) (a1 : Int) (r : Int) (h : rickyardref12_Need.f fu a0 a1 = some r) :
    Calls Try.prog 143 (([.int .i64 a0, .int .i64 a1] : List Value).toArray) w (fun e w' => ∃ v, e = .returned v ∧ v = .int .i64 r ∧ Gr w w') := by
  unfold rickyardref12_Need.f at h
  have fB : Gr w w := Fr.refl _ _
  refine calls_cw Try.func143 rfl Try.ntmps143 rfl ?_
  refine cw_seq ?_
  refine cw_region ?_
  refine ol_val (v := .int .i64 0) (by exact xr_assign rfl rfl) rfl rfl rfl ?_
  refine ol_nil ?_
  refine cw_seq ?_
  refine cw_region ?_
  refine ol_val (v := .int .i64 0) (by exact xr_assign rfl rfl) rfl rfl rfl ?_
  refine ol_nil ?_
  refine cw_seq ?_
  obtain ⟨e2, l3, h4⟩ := bs h
  refine cw_mid (fun ρ' w' => ρ' 5 = .int .i64 e2 ∧ Gr w w') ?_ ?_
  · refine cw_block ?_
    refine cw_round (fun (s1 : Int) ρ' w' => ρ' 0 = .int .i64 a0 ∧ ρ' 1 = .int .i64 a1 ∧ ρ' 5 = .int .i64 s1 ∧ Gr w w') l3 ?_ ?_
    · skip
      exact ⟨rfl, rfl, rfl, fB⟩
    · rintro s1 x7 ρ5 w6 ⟨e0, e1, e5, fB⟩ h
      unfold rickyardref12_Need.s0 at h
      refine cw_seq ?_
      refine cw_seq ?_
      refine cw_region ?_
      refine ol_val (v := .int .i64 s1) (by exact xr_move rfl e5) rfl rfl rfl ?_
      refine ol_val (v := .int .i64 a1) (by exact xr_move rfl e1) rfl rfl rfl ?_
      refine ol_val (v := .int .i64 (IntKind.i64.wrap (s1 * a1))) (by exact xr_mul rfl rfl rfl) rfl rfl rfl ?_
      refine ol_val (v := .int .i64 a0) (by exact xr_move rfl e0) rfl rfl rfl ?_
      refine ol_val (v := .bool (decide ((IntKind.i64.wrap (s1 * a1)) < a0))) (by exact xr_lss rfl rfl rfl) rfl rfl rfl ?_
      refine ol_nil ?_
      rcases is h with ⟨c8, h⟩ | ⟨c8, h⟩
      · refine cw_condT rfl c8 ?_
        refine cw_skip ?_
        refine cw_block ?_
        refine cw_region ?_
        refine ol_val (v := .int .i64 s1) (by exact xr_move rfl e5) rfl rfl rfl ?_
        refine ol_val (v := .int .i64 (IntKind.i64.wrap (s1 + 1))) (by exact xr_add rfl rfl rfl) rfl rfl rfl ?_
        refine ol_val (v := .int .i64 (IntKind.i64.wrap (s1 + 1))) (by exact xr_assign rfl rfl) rfl rfl rfl ?_
        refine ol_nil ?_
        refine blk_i ?_
        obtain rfl := Option.some.inj h
        refine lp_in ?_
        exact ⟨e0, e1, rfl, fB⟩
      · refine cw_condF rfl c8 ?_
        refine cw_exit ?_
        repeat (first | with_reducible refine thn_e ?_ | with_reducible refine blk_e rfl ?_)
        obtain rfl := Option.some.inj h
        refine lp_exit ?_
        rintro rfl
        refine thn_x ?_
        exact ⟨e5, fB⟩
  · rintro ρ9 w10 ⟨e5, fB⟩
    have h := h4
    refine cw_seq ?_
    refine cw_region ?_
    refine ol_val (v := .int .i64 e2) (by exact xr_move rfl e5) rfl rfl rfl ?_
    refine ol_val (v := .int .i64 e2) (by exact xr_assign rfl rfl) rfl rfl rfl ?_
    refine ol_nil ?_
    refine cw_ret ?_
    repeat (first | with_reducible refine thn_r ?_ | with_reducible refine blk_r ?_)
    obtain rfl := Option.some.inj h
    refine fin_ret1 Try.results143 rfl ?_
    exact ⟨_, rfl, rfl, fB⟩
end Go.Proofs.Ytjhajfkfhdnciaa
