/- SuperSames: texts merged, part 7 of 7. The last part proves that the law SuperSames holds for every input. -/
import Derived.Test.YtjhajfkfhdnciaaPkSuperSames6
/- rickyard/rickyardref13.Get: its model, and that the Go function computes it: written by gen.py. -/
set_option linter.unusedVariables false
namespace Go.Proofs.Ytjhajfkfhdnciaa
open Go Go.Xw
def rickyardref13_Get.s0 (fu : Nat) (t10 : Int × Int × (List UInt8) × Bool) : (Int × (List Int)) → Option (Sum (List Int) (Int × (List Int))) := fun s83 => (if (decide (s83.1 < t10.2.1)) = true then (if (0 : Int) ≤ (IntKind.i64.wrap (32 + (IntKind.i64.wrap (2 * s83.1)))) ∧ (IntKind.i64.wrap (32 + (IntKind.i64.wrap (2 * s83.1)))) ≤ (IntKind.i64.wrap (34 + (IntKind.i64.wrap (2 * s83.1)))) ∧ (IntKind.i64.wrap (34 + (IntKind.i64.wrap (2 * s83.1)))) ≤ (List.length t10.2.2.1 : Int) then ((rickyardref01_Int.f fu (cut t10.2.2.1 (IntKind.i64.wrap (32 + (IntKind.i64.wrap (2 * s83.1)))) (IntKind.i64.wrap (34 + (IntKind.i64.wrap (2 * s83.1))))) : Option Int).bind fun t98 => (if List.length s83.2 + List.length [t98] ≤ LIM then some (Sum.inr ((IntKind.i64.wrap (s83.1 + 1)), (s83.2 ++ [t98]))) else none)) else none) else some (Sum.inl (s83.2)))
def rickyardref13_Get.f (fu : Nat) (a0 : List Int) : Option (S_api_Super × Bool) := ((rickyardref07_Open.f fu a0 : Option (Int × Int × (List UInt8) × Bool)).bind fun t10 => (if (if (!t10.2.2.2) = true then true else (if (!decide (t10.1 = 7)) = true then true else (decide (t10.2.1 > 8)))) = true then some ((⟨(0 : Int), (⟨(⟨(0 : Int), (0 : Int), (0 : Int)⟩ : S_api_Geometry), (0 : Int), (0 : Int), (0 : Int)⟩ : S_api_Tickets), (0 : Int), []⟩ : S_api_Super), false) else (if (8 : Int) ≤ (List.length t10.2.2.1 : Int) then ((rickyardref01_Int.f fu (cut t10.2.2.1 0 8) : Option Int).bind fun t28 => (if (12 : Int) ≤ (List.length t10.2.2.1 : Int) then ((rickyardref01_Int.f fu (cut t10.2.2.1 8 12) : Option Int).bind fun t35 => (if (16 : Int) ≤ (List.length t10.2.2.1 : Int) then ((rickyardref01_Int.f fu (cut t10.2.2.1 12 16) : Option Int).bind fun t42 => (if (20 : Int) ≤ (List.length t10.2.2.1 : Int) then ((rickyardref01_Int.f fu (cut t10.2.2.1 16 20) : Option Int).bind fun t49 => (if (24 : Int) ≤ (List.length t10.2.2.1 : Int) then ((rickyardref01_Int.f fu (cut t10.2.2.1 20 24) : Option Int).bind fun t56 => (if (28 : Int) ≤ (List.length t10.2.2.1 : Int) then ((rickyardref01_Int.f fu (cut t10.2.2.1 24 28) : Option Int).bind fun t63 => (if (30 : Int) ≤ (List.length t10.2.2.1 : Int) then ((rickyardref01_Int.f fu (cut t10.2.2.1 28 30) : Option Int).bind fun t70 => (if (32 : Int) ≤ (List.length t10.2.2.1 : Int) then ((rickyardref01_Int.f fu (cut t10.2.2.1 30 32) : Option Int).bind fun t77 => ((loopM (rickyardref13_Get.s0 fu t10) fu (0, [])).bind fun e84 => ((((rickyardref13_Right.f fu (⟨t28, (⟨(⟨t35, t42, t49⟩ : S_api_Geometry), t70, t56, t63⟩ : S_api_Tickets), t77, e84⟩ : S_api_Super) : Option Bool).bind fun t129 => (if (!t129) = true then some (true) else ((rickyardref13_Put.f fu (⟨t28, (⟨(⟨t35, t42, t49⟩ : S_api_Geometry), t70, t56, t63⟩ : S_api_Tickets), t77, e84⟩ : S_api_Super) : Option (List UInt8)).bind fun t136 => some ((!decide (t136 = (List.map toB a0))))))) : Option Bool).bind fun x127 => (if x127 = true then some ((⟨(0 : Int), (⟨(⟨(0 : Int), (0 : Int), (0 : Int)⟩ : S_api_Geometry), (0 : Int), (0 : Int), (0 : Int)⟩ : S_api_Tickets), (0 : Int), []⟩ : S_api_Super), false) else some ((⟨t28, (⟨(⟨t35, t42, t49⟩ : S_api_Geometry), t70, t56, t63⟩ : S_api_Tickets), t77, e84⟩ : S_api_Super), true))))) else none)) else none)) else none)) else none)) else none)) else none)) else none)) else none)))
set_option maxRecDepth 100000 in
set_option maxHeartbeats 400000 in
theorem rickyardref13_Get.ok (fu : Nat) (w : World) (a0 : List Int) (V0_0 : Value) (R0_0 : Rd (kI .u8) w V0_0 a0) (r : S_api_Super × Bool) (h : rickyardref13_Get.f fu a0 = some r) :
    Calls Try.prog 88 (([V0_0] : List Value).toArray) w (fun e w' => ∃ v, e = .returned v ∧ ∃ u1 : Value, ∃ o2 : Own (kI .i64) 3 w' w.heap.size u1 r.1.Charts, v = .tuple #[aggV [Seg.cell (.int .i64 r.1.Epoch), Seg.cell (.int .i64 r.1.Tickets.Geometry.Blocks), Seg.cell (.int .i64 r.1.Tickets.Geometry.Slots), Seg.cell (.int .i64 r.1.Tickets.Geometry.Gens), Seg.cell (.int .i64 r.1.Tickets.Top), Seg.cell (.int .i64 r.1.Tickets.High), Seg.cell (.int .i64 r.1.Tickets.Free), Seg.cell (.int .i64 r.1.Dir), Seg.cell u1 o2.one], .bool r.2] ∧ Gr w w') := by
  unfold rickyardref13_Get.f at h
  have fB : Gr w w := Fr.refl _ _
  refine calls_cw Try.func88 rfl Try.ntmps88 rfl ?_
  refine cw_seq ?_
  refine cw_region ?_
  refine ol_op (by exact opv_alloc (ss := [Seg.cell (.int .i64 (0 : Int)), Seg.cell (.int .i64 (0 : Int)), Seg.cell (.int .i64 (0 : Int)), Seg.cell (.int .i64 (0 : Int)), Seg.cell (.int .i64 (0 : Int)), Seg.cell (.int .i64 (0 : Int)), Seg.cell (.int .i64 (0 : Int)), Seg.cell (.int .i64 (0 : Int)), Seg.cell (.slice none 0 0) (by rfl)]) rfl ze120 rfl) rfl rfl rfl ?_
  rintro _ w9 ⟨G4, rfl, b5, q6, z7⟩
  have z7 := Nat.le_trans fB.size z7
  have fB := fB.gr q6
  refine ol_val (v := .bool false) (by exact xr_assign rfl rfl) rfl rfl rfl ?_
  refine ol_nil ?_
  refine cw_seq ?_
  refine cw_region ?_
  refine ol_val (v := V0_0) (by exact xr_move rfl rfl) rfl rfl rfl ?_
  obtain ⟨t10, k11, h⟩ := bs h
  refine ol_op (by exact opv_call rfl cal32 (ac rfl an) (rickyardref07_Open.ok fu _ a0 V0_0 (R0_0.gr fB) _ k11)) rfl rfl rfl ?_
  rintro _ w13 ⟨rfl, q12⟩
  have b5 := b5.gr q12
  have fB := fB.gr q12
  refine ol_val (v := .tuple #[.int .i64 t10.1, .int .i64 t10.2.1, sv t10.2.2.1, .bool t10.2.2.2]) (by exact xr_move rfl rfl) rfl rfl rfl ?_
  refine ol_val (v := .int .i64 t10.1) (by exact xr_extract rfl rfl rfl) rfl rfl rfl ?_
  refine ol_val (v := .int .i64 t10.2.1) (by exact xr_extract rfl rfl rfl) rfl rfl rfl ?_
  refine ol_val (v := sv t10.2.2.1) (by exact xr_extract rfl rfl rfl) rfl rfl rfl ?_
  refine ol_val (v := .bool t10.2.2.2) (by exact xr_extract rfl rfl rfl) rfl rfl rfl ?_
  refine ol_val (v := .int .i64 t10.1) (by exact xr_assign rfl rfl) rfl rfl rfl ?_
  refine ol_val (v := .int .i64 t10.2.1) (by exact xr_assign rfl rfl) rfl rfl rfl ?_
  refine ol_val (v := sv t10.2.2.1) (by exact xr_assign rfl rfl) rfl rfl rfl ?_
  refine ol_val (v := .bool t10.2.2.2) (by exact xr_assign rfl rfl) rfl rfl rfl ?_
  refine ol_nil ?_
  refine cw_seq ?_
  refine cw_seq ?_
  refine cw_mid (fun ρ' w' => ρ' 0 = V0_0 ∧ ρ' 2 = .pointer (some ⟨G4, 0, none⟩) ∧ ρ' 5 = .int .i64 t10.2.1 ∧ ρ' 6 = sv t10.2.2.1 ∧ ρ' 26 = .bool (if (!t10.2.2.2) = true then true else (if (!decide (t10.1 = 7)) = true then true else (decide (t10.2.1 > 8)))) ∧ w13 = w') ?_ ?_
  · skip
    refine cw_region ?_
    refine ol_val (v := .bool t10.2.2.2) (by exact xr_move rfl rfl) rfl rfl rfl ?_
    refine ol_val (v := .bool (!t10.2.2.2)) (by exact xr_not rfl rfl) rfl rfl rfl ?_
    refine ol_val (v := .bool (!t10.2.2.2)) (by exact xr_move rfl rfl) rfl rfl rfl ?_
    rcases bt (!t10.2.2.2) with c14 | c14
    · skip
      refine ol_gskip rfl rfl rfl rfl rfl c14 ?_
      refine ol_gskip rfl rfl rfl rfl rfl c14 ?_
      refine ol_val (v := .bool true) (by exact xr_pickT rfl rfl c14 rfl) rfl rfl rfl ?_
      refine ol_val (v := .bool true) (by exact xr_move rfl rfl) rfl rfl rfl ?_
      refine ol_gskip rfl rfl rfl rfl rfl rfl ?_
      refine ol_gskip rfl rfl rfl rfl rfl rfl ?_
      refine ol_val (v := .bool true) (by exact xr_pickT rfl rfl rfl rfl) rfl rfl rfl ?_
      refine ol_nil ?_
      refine thn_i ?_
      exact ⟨rfl, rfl, rfl, rfl, (rfl).trans (congrArg (fun z => (.bool z : Value)) (show true = (if (!t10.2.2.2) = true then true else (if (!decide (t10.1 = 7)) = true then true else (decide (t10.2.1 > 8)))) from by rw [ite_t c14])), rfl⟩
    · skip
      refine ol_gval (v := .int .i64 t10.1) (by exact xr_move rfl rfl) rfl rfl rfl rfl rfl c14 ?_
      refine ol_gval (v := .bool (!decide (t10.1 = 7))) (by exact xr_neI rfl Try.underlying3 rfl rfl rfl) rfl rfl rfl rfl rfl c14 ?_
      refine ol_val (v := .bool (!decide (t10.1 = 7))) (by exact xr_pickF rfl rfl c14 rfl) rfl rfl rfl ?_
      refine ol_val (v := .bool (!decide (t10.1 = 7))) (by exact xr_move rfl rfl) rfl rfl rfl ?_
      rcases bt (!decide (t10.1 = 7)) with c15 | c15
      · skip
        refine ol_gskip rfl rfl rfl rfl rfl c15 ?_
        refine ol_gskip rfl rfl rfl rfl rfl c15 ?_
        refine ol_val (v := .bool true) (by exact xr_pickT rfl rfl c15 rfl) rfl rfl rfl ?_
        refine ol_nil ?_
        refine thn_i ?_
        exact ⟨rfl, rfl, rfl, rfl, (rfl).trans (congrArg (fun z => (.bool z : Value)) (show true = (if (!t10.2.2.2) = true then true else (if (!decide (t10.1 = 7)) = true then true else (decide (t10.2.1 > 8)))) from by rw [ite_f c14, ite_t c15])), rfl⟩
      · skip
        refine ol_gval (v := .int .i64 t10.2.1) (by exact xr_move rfl rfl) rfl rfl rfl rfl rfl c15 ?_
        refine ol_gval (v := .bool (decide (t10.2.1 > 8))) (by exact xr_gtr rfl rfl rfl) rfl rfl rfl rfl rfl c15 ?_
        refine ol_val (v := .bool (decide (t10.2.1 > 8))) (by exact xr_pickF rfl rfl c15 rfl) rfl rfl rfl ?_
        refine ol_nil ?_
        refine thn_i ?_
        exact ⟨rfl, rfl, rfl, rfl, (rfl).trans (congrArg (fun z => (.bool z : Value)) (show (decide (t10.2.1 > 8)) = (if (!t10.2.2.2) = true then true else (if (!decide (t10.1 = 7)) = true then true else (decide (t10.2.1 > 8)))) from by rw [ite_f c14, ite_f c15])), rfl⟩
  · skip
    rintro ρ16 _ ⟨e0, e2, e5, e6, e26, rfl⟩
    rcases is h with ⟨c17, h⟩ | ⟨c17, h⟩
    · refine cw_condT e26 c17 ?_
      refine cw_seq ?_
      refine cw_region ?_
      refine ol_val (v := aggV [Seg.cell (.int .i64 (0 : Int)), Seg.cell (.int .i64 (0 : Int)), Seg.cell (.int .i64 (0 : Int)), Seg.cell (.int .i64 (0 : Int)), Seg.cell (.int .i64 (0 : Int)), Seg.cell (.int .i64 (0 : Int)), Seg.cell (.int .i64 (0 : Int)), Seg.cell (.int .i64 (0 : Int)), Seg.cell (.slice none 0 0) (by rfl)]) (by exact xr_build (vals := []) rfl trivial (bl120_ _)) rfl rfl rfl ?_
      refine ol_op0 (by exact opv_store (ss' := [Seg.cell (.int .i64 (0 : Int)), Seg.cell (.int .i64 (0 : Int)), Seg.cell (.int .i64 (0 : Int)), Seg.cell (.int .i64 (0 : Int)), Seg.cell (.int .i64 (0 : Int)), Seg.cell (.int .i64 (0 : Int)), Seg.cell (.int .i64 (0 : Int)), Seg.cell (.int .i64 (0 : Int)), Seg.cell (.slice none 0 0) (by rfl)]) (xs := cellsOf [Seg.cell (.int .i64 (0 : Int)), Seg.cell (.int .i64 (0 : Int)), Seg.cell (.int .i64 (0 : Int)), Seg.cell (.int .i64 (0 : Int)), Seg.cell (.int .i64 (0 : Int)), Seg.cell (.int .i64 (0 : Int)), Seg.cell (.int .i64 (0 : Int)), Seg.cell (.int .i64 (0 : Int)), Seg.cell (.slice none 0 0) (by rfl)]) rfl sz120 e2 rfl rfl (len_cellsOf _) (one_cellsOf _) b5 (Spl.segs _ 0 9 [Seg.cell (.int .i64 (0 : Int)), Seg.cell (.int .i64 (0 : Int)), Seg.cell (.int .i64 (0 : Int)), Seg.cell (.int .i64 (0 : Int)), Seg.cell (.int .i64 (0 : Int)), Seg.cell (.int .i64 (0 : Int)), Seg.cell (.int .i64 (0 : Int)), Seg.cell (.int .i64 (0 : Int)), Seg.cell (.slice none 0 0) (by rfl)] rfl rfl)) rfl rfl ?_
      rintro _ w19 ⟨b5, q18⟩
      have fB := fB.wr q18 z7
      refine ol_val (v := .bool false) (by exact xr_assign rfl rfl) rfl rfl rfl ?_
      refine ol_nil ?_
      refine cw_ret ?_
      repeat (first | with_reducible refine thn_r ?_ | with_reducible refine blk_r ?_)
      obtain rfl := Option.some.inj h
      refine fin_cell_tmp Try.results88 e2 ag120 sz120 b5 (by rfl) rfl ?_
      exact ⟨_, rfl, (.slice none 0 0), Own.nil _ _ _ _, rfl, fB⟩
    · refine cw_condF e26 c17 ?_
      refine cw_skip ?_
      refine cw_seq ?_
      refine cw_region ?_
      refine ol_op (by exact opv_alloc (ss := [Seg.cell (.int .i64 (0 : Int)), Seg.cell (.int .i64 (0 : Int)), Seg.cell (.int .i64 (0 : Int)), Seg.cell (.int .i64 (0 : Int)), Seg.cell (.int .i64 (0 : Int)), Seg.cell (.int .i64 (0 : Int)), Seg.cell (.int .i64 (0 : Int)), Seg.cell (.int .i64 (0 : Int)), Seg.cell (.slice none 0 0) (by rfl)]) rfl ze120 rfl) rfl rfl rfl ?_
      rintro _ w25 ⟨G20, rfl, b21, q22, z23⟩
      have n26 := b5.ne z23
      have z23 := Nat.le_trans fB.size z23
      have b5 := b5.gr q22
      have fB := fB.gr q22
      refine ol_nil ?_
      refine cw_seq ?_
      refine cw_region ?_
      refine ol_val (v := sv t10.2.2.1) (by exact xr_move rfl e6) rfl rfl rfl ?_
      obtain ⟨g27, h⟩ := gs h
      refine ol_val (v := sv (cut t10.2.2.1 0 8)) (by exact xr_str_h rfl Try.underlying9 rfl rfl (by decide) g27) rfl rfl rfl ?_
      obtain ⟨t28, k29, h⟩ := bs h
      refine ol_op (by exact opv_call rfl cal103 (ac rfl an) (rickyardref01_Int.ok fu _ (cut t10.2.2.1 0 8) _ k29)) rfl rfl rfl ?_
      rintro _ w31 ⟨rfl, q30⟩
      have b5 := b5.gr q30
      have b21 := b21.gr q30
      have fB := fB.gr q30
      refine ol_val (v := .pointer (some ⟨G20, 0, none⟩)) (by exact xr_fieldAddr (p := 0) (q := 0) rfl fl120_0 rfl) rfl rfl rfl ?_
      refine ol_op0 (by exact opv_store (ss' := [Seg.cell (.int .i64 t28), Seg.cell (.int .i64 (0 : Int)), Seg.cell (.int .i64 (0 : Int)), Seg.cell (.int .i64 (0 : Int)), Seg.cell (.int .i64 (0 : Int)), Seg.cell (.int .i64 (0 : Int)), Seg.cell (.int .i64 (0 : Int)), Seg.cell (.int .i64 (0 : Int)), Seg.cell (.slice none 0 0) (by rfl)]) (xs := cellsOf [Seg.cell (.int .i64 t28)]) rfl sz3 rfl rfl rfl (len_cellsOf _) (one_cellsOf _) b21 (Spl.segs _ 0 1 [Seg.cell (.int .i64 t28)] rfl rfl)) rfl rfl ?_
      rintro _ w33 ⟨b21, q32⟩
      have b5 := b5.wr q32 n26
      have fB := fB.wr q32 z23
      refine ol_nil ?_
      refine cw_seq ?_
      refine cw_region ?_
      refine ol_val (v := sv t10.2.2.1) (by exact xr_move rfl e6) rfl rfl rfl ?_
      obtain ⟨g34, h⟩ := gs h
      refine ol_val (v := sv (cut t10.2.2.1 8 12)) (by exact xr_str_lh rfl Try.underlying9 rfl rfl rfl (by decide) (by decide) g34) rfl rfl rfl ?_
      obtain ⟨t35, k36, h⟩ := bs h
      refine ol_op (by exact opv_call rfl cal103 (ac rfl an) (rickyardref01_Int.ok fu _ (cut t10.2.2.1 8 12) _ k36)) rfl rfl rfl ?_
      rintro _ w38 ⟨rfl, q37⟩
      have b5 := b5.gr q37
      have b21 := b21.gr q37
      have fB := fB.gr q37
      refine ol_val (v := .pointer (some ⟨G20, 1, none⟩)) (by exact xr_fieldAddr (p := 0) (q := 1) rfl fl120_1 rfl) rfl rfl rfl ?_
      refine ol_val (v := .pointer (some ⟨G20, 1, none⟩)) (by exact xr_fieldAddr (p := 1) (q := 0) rfl fl118_0 rfl) rfl rfl rfl ?_
      refine ol_val (v := .pointer (some ⟨G20, 1, none⟩)) (by exact xr_fieldAddr (p := 1) (q := 0) rfl fl116_0 rfl) rfl rfl rfl ?_
      refine ol_op0 (by exact opv_store (ss' := [Seg.cell (.int .i64 t28), Seg.cell (.int .i64 t35), Seg.cell (.int .i64 (0 : Int)), Seg.cell (.int .i64 (0 : Int)), Seg.cell (.int .i64 (0 : Int)), Seg.cell (.int .i64 (0 : Int)), Seg.cell (.int .i64 (0 : Int)), Seg.cell (.int .i64 (0 : Int)), Seg.cell (.slice none 0 0) (by rfl)]) (xs := cellsOf [Seg.cell (.int .i64 t35)]) rfl sz3 rfl rfl rfl (len_cellsOf _) (one_cellsOf _) b21 (Spl.segs _ 1 1 [Seg.cell (.int .i64 t35)] rfl rfl)) rfl rfl ?_
      rintro _ w40 ⟨b21, q39⟩
      have b5 := b5.wr q39 n26
      have fB := fB.wr q39 z23
      refine ol_nil ?_
      refine cw_seq ?_
      refine cw_region ?_
      refine ol_val (v := sv t10.2.2.1) (by exact xr_move rfl e6) rfl rfl rfl ?_
      obtain ⟨g41, h⟩ := gs h
      refine ol_val (v := sv (cut t10.2.2.1 12 16)) (by exact xr_str_lh rfl Try.underlying9 rfl rfl rfl (by decide) (by decide) g41) rfl rfl rfl ?_
      obtain ⟨t42, k43, h⟩ := bs h
      refine ol_op (by exact opv_call rfl cal103 (ac rfl an) (rickyardref01_Int.ok fu _ (cut t10.2.2.1 12 16) _ k43)) rfl rfl rfl ?_
      rintro _ w45 ⟨rfl, q44⟩
      have b5 := b5.gr q44
      have b21 := b21.gr q44
      have fB := fB.gr q44
      refine ol_val (v := .pointer (some ⟨G20, 1, none⟩)) (by exact xr_fieldAddr (p := 0) (q := 1) rfl fl120_1 rfl) rfl rfl rfl ?_
      refine ol_val (v := .pointer (some ⟨G20, 1, none⟩)) (by exact xr_fieldAddr (p := 1) (q := 0) rfl fl118_0 rfl) rfl rfl rfl ?_
      refine ol_val (v := .pointer (some ⟨G20, 2, none⟩)) (by exact xr_fieldAddr (p := 1) (q := 1) rfl fl116_1 rfl) rfl rfl rfl ?_
      refine ol_op0 (by exact opv_store (ss' := [Seg.cell (.int .i64 t28), Seg.cell (.int .i64 t35), Seg.cell (.int .i64 t42), Seg.cell (.int .i64 (0 : Int)), Seg.cell (.int .i64 (0 : Int)), Seg.cell (.int .i64 (0 : Int)), Seg.cell (.int .i64 (0 : Int)), Seg.cell (.int .i64 (0 : Int)), Seg.cell (.slice none 0 0) (by rfl)]) (xs := cellsOf [Seg.cell (.int .i64 t42)]) rfl sz3 rfl rfl rfl (len_cellsOf _) (one_cellsOf _) b21 (Spl.segs _ 2 1 [Seg.cell (.int .i64 t42)] rfl rfl)) rfl rfl ?_
      rintro _ w47 ⟨b21, q46⟩
      have b5 := b5.wr q46 n26
      have fB := fB.wr q46 z23
      refine ol_nil ?_
      refine cw_seq ?_
      refine cw_region ?_
      refine ol_val (v := sv t10.2.2.1) (by exact xr_move rfl e6) rfl rfl rfl ?_
      obtain ⟨g48, h⟩ := gs h
      refine ol_val (v := sv (cut t10.2.2.1 16 20)) (by exact xr_str_lh rfl Try.underlying9 rfl rfl rfl (by decide) (by decide) g48) rfl rfl rfl ?_
      obtain ⟨t49, k50, h⟩ := bs h
      refine ol_op (by exact opv_call rfl cal103 (ac rfl an) (rickyardref01_Int.ok fu _ (cut t10.2.2.1 16 20) _ k50)) rfl rfl rfl ?_
      rintro _ w52 ⟨rfl, q51⟩
      have b5 := b5.gr q51
      have b21 := b21.gr q51
      have fB := fB.gr q51
      refine ol_val (v := .pointer (some ⟨G20, 1, none⟩)) (by exact xr_fieldAddr (p := 0) (q := 1) rfl fl120_1 rfl) rfl rfl rfl ?_
      refine ol_val (v := .pointer (some ⟨G20, 1, none⟩)) (by exact xr_fieldAddr (p := 1) (q := 0) rfl fl118_0 rfl) rfl rfl rfl ?_
      refine ol_val (v := .pointer (some ⟨G20, 3, none⟩)) (by exact xr_fieldAddr (p := 1) (q := 2) rfl fl116_2 rfl) rfl rfl rfl ?_
      refine ol_op0 (by exact opv_store (ss' := [Seg.cell (.int .i64 t28), Seg.cell (.int .i64 t35), Seg.cell (.int .i64 t42), Seg.cell (.int .i64 t49), Seg.cell (.int .i64 (0 : Int)), Seg.cell (.int .i64 (0 : Int)), Seg.cell (.int .i64 (0 : Int)), Seg.cell (.int .i64 (0 : Int)), Seg.cell (.slice none 0 0) (by rfl)]) (xs := cellsOf [Seg.cell (.int .i64 t49)]) rfl sz3 rfl rfl rfl (len_cellsOf _) (one_cellsOf _) b21 (Spl.segs _ 3 1 [Seg.cell (.int .i64 t49)] rfl rfl)) rfl rfl ?_
      rintro _ w54 ⟨b21, q53⟩
      have b5 := b5.wr q53 n26
      have fB := fB.wr q53 z23
      refine ol_nil ?_
      refine cw_seq ?_
      refine cw_region ?_
      refine ol_val (v := sv t10.2.2.1) (by exact xr_move rfl e6) rfl rfl rfl ?_
      obtain ⟨g55, h⟩ := gs h
      refine ol_val (v := sv (cut t10.2.2.1 20 24)) (by exact xr_str_lh rfl Try.underlying9 rfl rfl rfl (by decide) (by decide) g55) rfl rfl rfl ?_
      obtain ⟨t56, k57, h⟩ := bs h
      refine ol_op (by exact opv_call rfl cal103 (ac rfl an) (rickyardref01_Int.ok fu _ (cut t10.2.2.1 20 24) _ k57)) rfl rfl rfl ?_
      rintro _ w59 ⟨rfl, q58⟩
      have b5 := b5.gr q58
      have b21 := b21.gr q58
      have fB := fB.gr q58
      refine ol_val (v := .pointer (some ⟨G20, 1, none⟩)) (by exact xr_fieldAddr (p := 0) (q := 1) rfl fl120_1 rfl) rfl rfl rfl ?_
      refine ol_val (v := .pointer (some ⟨G20, 5, none⟩)) (by exact xr_fieldAddr (p := 1) (q := 4) rfl fl118_2 rfl) rfl rfl rfl ?_
      refine ol_op0 (by exact opv_store (ss' := [Seg.cell (.int .i64 t28), Seg.cell (.int .i64 t35), Seg.cell (.int .i64 t42), Seg.cell (.int .i64 t49), Seg.cell (.int .i64 (0 : Int)), Seg.cell (.int .i64 t56), Seg.cell (.int .i64 (0 : Int)), Seg.cell (.int .i64 (0 : Int)), Seg.cell (.slice none 0 0) (by rfl)]) (xs := cellsOf [Seg.cell (.int .i64 t56)]) rfl sz3 rfl rfl rfl (len_cellsOf _) (one_cellsOf _) b21 (Spl.segs _ 5 1 [Seg.cell (.int .i64 t56)] rfl rfl)) rfl rfl ?_
      rintro _ w61 ⟨b21, q60⟩
      have b5 := b5.wr q60 n26
      have fB := fB.wr q60 z23
      refine ol_nil ?_
      refine cw_seq ?_
      refine cw_region ?_
      refine ol_val (v := sv t10.2.2.1) (by exact xr_move rfl e6) rfl rfl rfl ?_
      obtain ⟨g62, h⟩ := gs h
      refine ol_val (v := sv (cut t10.2.2.1 24 28)) (by exact xr_str_lh rfl Try.underlying9 rfl rfl rfl (by decide) (by decide) g62) rfl rfl rfl ?_
      obtain ⟨t63, k64, h⟩ := bs h
      refine ol_op (by exact opv_call rfl cal103 (ac rfl an) (rickyardref01_Int.ok fu _ (cut t10.2.2.1 24 28) _ k64)) rfl rfl rfl ?_
      rintro _ w66 ⟨rfl, q65⟩
      have b5 := b5.gr q65
      have b21 := b21.gr q65
      have fB := fB.gr q65
      refine ol_val (v := .pointer (some ⟨G20, 1, none⟩)) (by exact xr_fieldAddr (p := 0) (q := 1) rfl fl120_1 rfl) rfl rfl rfl ?_
      refine ol_val (v := .pointer (some ⟨G20, 6, none⟩)) (by exact xr_fieldAddr (p := 1) (q := 5) rfl fl118_3 rfl) rfl rfl rfl ?_
      refine ol_op0 (by exact opv_store (ss' := [Seg.cell (.int .i64 t28), Seg.cell (.int .i64 t35), Seg.cell (.int .i64 t42), Seg.cell (.int .i64 t49), Seg.cell (.int .i64 (0 : Int)), Seg.cell (.int .i64 t56), Seg.cell (.int .i64 t63), Seg.cell (.int .i64 (0 : Int)), Seg.cell (.slice none 0 0) (by rfl)]) (xs := cellsOf [Seg.cell (.int .i64 t63)]) rfl sz3 rfl rfl rfl (len_cellsOf _) (one_cellsOf _) b21 (Spl.segs _ 6 1 [Seg.cell (.int .i64 t63)] rfl rfl)) rfl rfl ?_
      rintro _ w68 ⟨b21, q67⟩
      have b5 := b5.wr q67 n26
      have fB := fB.wr q67 z23
      refine ol_nil ?_
      refine cw_seq ?_
      refine cw_region ?_
      refine ol_val (v := sv t10.2.2.1) (by exact xr_move rfl e6) rfl rfl rfl ?_
      obtain ⟨g69, h⟩ := gs h
      refine ol_val (v := sv (cut t10.2.2.1 28 30)) (by exact xr_str_lh rfl Try.underlying9 rfl rfl rfl (by decide) (by decide) g69) rfl rfl rfl ?_
      obtain ⟨t70, k71, h⟩ := bs h
      refine ol_op (by exact opv_call rfl cal103 (ac rfl an) (rickyardref01_Int.ok fu _ (cut t10.2.2.1 28 30) _ k71)) rfl rfl rfl ?_
      rintro _ w73 ⟨rfl, q72⟩
      have b5 := b5.gr q72
      have b21 := b21.gr q72
      have fB := fB.gr q72
      refine ol_val (v := .pointer (some ⟨G20, 1, none⟩)) (by exact xr_fieldAddr (p := 0) (q := 1) rfl fl120_1 rfl) rfl rfl rfl ?_
      refine ol_val (v := .pointer (some ⟨G20, 4, none⟩)) (by exact xr_fieldAddr (p := 1) (q := 3) rfl fl118_1 rfl) rfl rfl rfl ?_
      refine ol_op0 (by exact opv_store (ss' := [Seg.cell (.int .i64 t28), Seg.cell (.int .i64 t35), Seg.cell (.int .i64 t42), Seg.cell (.int .i64 t49), Seg.cell (.int .i64 t70), Seg.cell (.int .i64 t56), Seg.cell (.int .i64 t63), Seg.cell (.int .i64 (0 : Int)), Seg.cell (.slice none 0 0) (by rfl)]) (xs := cellsOf [Seg.cell (.int .i64 t70)]) rfl sz3 rfl rfl rfl (len_cellsOf _) (one_cellsOf _) b21 (Spl.segs _ 4 1 [Seg.cell (.int .i64 t70)] rfl rfl)) rfl rfl ?_
      rintro _ w75 ⟨b21, q74⟩
      have b5 := b5.wr q74 n26
      have fB := fB.wr q74 z23
      refine ol_nil ?_
      refine cw_seq ?_
      refine cw_region ?_
      refine ol_val (v := sv t10.2.2.1) (by exact xr_move rfl e6) rfl rfl rfl ?_
      obtain ⟨g76, h⟩ := gs h
      refine ol_val (v := sv (cut t10.2.2.1 30 32)) (by exact xr_str_lh rfl Try.underlying9 rfl rfl rfl (by decide) (by decide) g76) rfl rfl rfl ?_
      obtain ⟨t77, k78, h⟩ := bs h
      refine ol_op (by exact opv_call rfl cal103 (ac rfl an) (rickyardref01_Int.ok fu _ (cut t10.2.2.1 30 32) _ k78)) rfl rfl rfl ?_
      rintro _ w80 ⟨rfl, q79⟩
      have b5 := b5.gr q79
      have b21 := b21.gr q79
      have fB := fB.gr q79
      refine ol_val (v := .pointer (some ⟨G20, 7, none⟩)) (by exact xr_fieldAddr (p := 0) (q := 7) rfl fl120_2 rfl) rfl rfl rfl ?_
      refine ol_op0 (by exact opv_store (ss' := [Seg.cell (.int .i64 t28), Seg.cell (.int .i64 t35), Seg.cell (.int .i64 t42), Seg.cell (.int .i64 t49), Seg.cell (.int .i64 t70), Seg.cell (.int .i64 t56), Seg.cell (.int .i64 t63), Seg.cell (.int .i64 t77), Seg.cell (.slice none 0 0) (by rfl)]) (xs := cellsOf [Seg.cell (.int .i64 t77)]) rfl sz3 rfl rfl rfl (len_cellsOf _) (one_cellsOf _) b21 (Spl.segs _ 7 1 [Seg.cell (.int .i64 t77)] rfl rfl)) rfl rfl ?_
      rintro _ w82 ⟨b21, q81⟩
      have b5 := b5.wr q81 n26
      have fB := fB.wr q81 z23
      refine ol_nil ?_
      refine cw_seq ?_
      refine cw_seq ?_
      refine cw_region ?_
      refine ol_val (v := .int .i64 0) (by exact xr_assign rfl rfl) rfl rfl rfl ?_
      refine ol_nil ?_
      obtain ⟨e84, l85, h86⟩ := bs h
      refine cw_mid (fun ρ' w' => ∃ v87 : Value, ∃ o88 : Own (kI .i64) 3 w' w.heap.size v87 e84, ρ' 0 = V0_0 ∧ ρ' 2 = .pointer (some ⟨G4, 0, none⟩) ∧ ρ' 8 = .pointer (some ⟨G20, 0, none⟩) ∧ Blk w' G4 120 [Seg.cell (.int .i64 (0 : Int)), Seg.cell (.int .i64 (0 : Int)), Seg.cell (.int .i64 (0 : Int)), Seg.cell (.int .i64 (0 : Int)), Seg.cell (.int .i64 (0 : Int)), Seg.cell (.int .i64 (0 : Int)), Seg.cell (.int .i64 (0 : Int)), Seg.cell (.int .i64 (0 : Int)), Seg.cell (.slice none 0 0) (by rfl)] ∧ Blk w' G20 120 [Seg.cell (.int .i64 t28), Seg.cell (.int .i64 t35), Seg.cell (.int .i64 t42), Seg.cell (.int .i64 t49), Seg.cell (.int .i64 t70), Seg.cell (.int .i64 t56), Seg.cell (.int .i64 t63), Seg.cell (.int .i64 t77), Seg.cell v87 o88.one] ∧ Gr w w') ?_ ?_
      · refine cw_block ?_
        refine cw_round (fun (s83 : Int × (List Int)) ρ' w' => ∃ v90 : Value, ∃ o91 : Own (kI .i64) 3 w' w.heap.size v90 s83.2, ρ' 0 = V0_0 ∧ ρ' 2 = .pointer (some ⟨G4, 0, none⟩) ∧ ρ' 5 = .int .i64 t10.2.1 ∧ ρ' 6 = sv t10.2.2.1 ∧ ρ' 8 = .pointer (some ⟨G20, 0, none⟩) ∧ ρ' 9 = .int .i64 s83.1 ∧ Blk w' G4 120 [Seg.cell (.int .i64 (0 : Int)), Seg.cell (.int .i64 (0 : Int)), Seg.cell (.int .i64 (0 : Int)), Seg.cell (.int .i64 (0 : Int)), Seg.cell (.int .i64 (0 : Int)), Seg.cell (.int .i64 (0 : Int)), Seg.cell (.int .i64 (0 : Int)), Seg.cell (.int .i64 (0 : Int)), Seg.cell (.slice none 0 0) (by rfl)] ∧ Blk w' G20 120 [Seg.cell (.int .i64 t28), Seg.cell (.int .i64 t35), Seg.cell (.int .i64 t42), Seg.cell (.int .i64 t49), Seg.cell (.int .i64 t70), Seg.cell (.int .i64 t56), Seg.cell (.int .i64 t63), Seg.cell (.int .i64 t77), Seg.cell v90 o91.one] ∧ Gr w w') l85 ?_ ?_
        · skip
          exact ⟨(.slice none 0 0), Own.nil _ _ _ _, e0, e2, e5, e6, rfl, rfl, b5, b21, fB⟩
        · rintro s83 x95 ρ93 w94 ⟨v90, o91, e0, e2, e5, e6, e8, e9, b5, b21, fB⟩ h
          unfold rickyardref13_Get.s0 at h
          refine cw_seq ?_
          refine cw_seq ?_
          refine cw_region ?_
          refine ol_val (v := .int .i64 s83.1) (by exact xr_move rfl e9) rfl rfl rfl ?_
          refine ol_val (v := .int .i64 t10.2.1) (by exact xr_move rfl e5) rfl rfl rfl ?_
          refine ol_val (v := .bool (decide (s83.1 < t10.2.1))) (by exact xr_lss rfl rfl rfl) rfl rfl rfl ?_
          refine ol_nil ?_
          rcases is h with ⟨c96, h⟩ | ⟨c96, h⟩
          · refine cw_condT rfl c96 ?_
            refine cw_skip ?_
            refine cw_seq ?_
            refine cw_block ?_
            obtain ⟨g97, h⟩ := gs h
            obtain ⟨t98, k99, h⟩ := bs h
            refine cw_drawL 12 [fun vz wz => vz = (.pointer (some ⟨G20, 8, none⟩) : Value), fun vz wz => vz = (v90 : Value), fun vz wz => vz = (sv t10.2.2.1 : Value), fun vz wz => vz = (.int .i64 s83.1 : Value), fun vz wz => vz = (.int .i64 (IntKind.i64.wrap (2 * s83.1)) : Value), fun vz wz => vz = (.int .i64 (IntKind.i64.wrap (32 + (IntKind.i64.wrap (2 * s83.1)))) : Value), fun vz wz => vz = (.int .i64 s83.1 : Value), fun vz wz => vz = (.int .i64 (IntKind.i64.wrap (2 * s83.1)) : Value), fun vz wz => vz = (.int .i64 (IntKind.i64.wrap (34 + (IntKind.i64.wrap (2 * s83.1)))) : Value), fun vz wz => vz = (sv (cut t10.2.2.1 (IntKind.i64.wrap (32 + (IntKind.i64.wrap (2 * s83.1)))) (IntKind.i64.wrap (34 + (IntKind.i64.wrap (2 * s83.1))))) : Value), fun vz wz => vz = (.int .i64 t98 : Value), fun vz wz => ∃ v101 : Value, ∃ o103 : Own (kI .i64) 3 wz w.heap.size v101 [t98], vz = (v101 : Value)] mo rfl ⟨fun _ _ _ h _ => h, fun _ _ _ h _ => h, fun _ _ _ h _ => h, fun _ _ _ h _ => h, fun _ _ _ h _ => h, fun _ _ _ h _ => h, fun _ _ _ h _ => h, fun _ _ _ h _ => h, fun _ _ _ h _ => h, fun _ _ _ h _ => h, fun _ _ _ h _ => h, fun _ _ _ ⟨v101, o103, h⟩ q => ⟨v101, o103.gr q, h⟩, trivial⟩ ?_ ?_
            · refine ⟨?_, ?_, ?_, ?_, ?_, ?_, ?_, ?_, ?_, ?_, ?_, ?_, trivial⟩
              · intro ρz wz hz hk hd
                exact sk_val (v := .pointer (some ⟨G20, 8, none⟩)) (by exact xr_fieldAddr (p := 0) (q := 8) rfl fl120_3 ((hk 8 rfl).trans e8)) rfl rfl
              · intro ρz wz hz hk hd
                have d74 := hd 0 rfl 74 rfl
                exact sk_val (v := v90) (by exact xr_load1 (v := v90) rfl ag45 d74 ((b21.gr hz).seg 8 rfl rfl)) rfl rfl
              · intro ρz wz hz hk hd
                exact sk_val (v := sv t10.2.2.1) (by exact xr_move rfl ((hk 6 rfl).trans e6)) rfl rfl
              · intro ρz wz hz hk hd
                exact sk_val (v := .int .i64 s83.1) (by exact xr_move rfl ((hk 9 rfl).trans e9)) rfl rfl
              · intro ρz wz hz hk hd
                have d77 := hd 3 rfl 77 rfl
                exact sk_val (v := .int .i64 (IntKind.i64.wrap (2 * s83.1))) (by exact xr_mul rfl rfl d77) rfl rfl
              · intro ρz wz hz hk hd
                have d78 := hd 4 rfl 78 rfl
                exact sk_val (by exact xr_add rfl rfl d78) rfl rfl
              · intro ρz wz hz hk hd
                exact sk_val (v := .int .i64 s83.1) (by exact xr_move rfl ((hk 9 rfl).trans e9)) rfl rfl
              · intro ρz wz hz hk hd
                have d80 := hd 6 rfl 80 rfl
                exact sk_val (v := .int .i64 (IntKind.i64.wrap (2 * s83.1))) (by exact xr_mul rfl rfl d80) rfl rfl
              · intro ρz wz hz hk hd
                have d81 := hd 7 rfl 81 rfl
                exact sk_val (by exact xr_add rfl rfl d81) rfl rfl
              · intro ρz wz hz hk hd
                have d76 := hd 2 rfl 76 rfl
                have d79 := hd 5 rfl 79 rfl
                have d82 := hd 8 rfl 82 rfl
                exact sk_val (by exact xr_str_lh rfl Try.underlying9 d76 d79 d82 g97.1 g97.2.1 g97.2.2) rfl rfl
              · intro ρz wz hz hk hd
                have d83 := hd 9 rfl 83 rfl
                refine sk_op (by exact opv_call rfl cal103 (ac d83 an) (rickyardref01_Int.ok fu _ (cut t10.2.2.1 (IntKind.i64.wrap (32 + (IntKind.i64.wrap (2 * s83.1)))) (IntKind.i64.wrap (34 + (IntKind.i64.wrap (2 * s83.1))))) _ k99)) rfl ?_
                rintro _ wy ⟨rfl, q100⟩
                exact ⟨rfl, q100⟩
              · intro ρz wz hz hk hd
                have d84 := hd 10 rfl 84 rfl
                refine sk_op (by exact opv_buildSlice (K := (kI .i64)) (xs := [t98]) (vals := [.int .i64 t98]) rfl Try.underlying45 el3 rfl rfl ⟨rfl, d84, trivial⟩ rfl rfl rfl (Nat.le_trans fB.size hz.size)) rfl ?_
                rintro v101 wy ⟨o103, q102, z104⟩
                exact ⟨⟨v101, o103, rfl⟩, q102⟩
            · intro ρ106 w107 q108 hk hd
              have e0 := (hk 0 rfl).trans e0
              have e2 := (hk 2 rfl).trans e2
              have e5 := (hk 5 rfl).trans e5
              have e6 := (hk 6 rfl).trans e6
              have e8 := (hk 8 rfl).trans e8
              have e9 := (hk 9 rfl).trans e9
              have e75 := hd 1 rfl 75 rfl
              obtain ⟨v109, o110, e85⟩ := hd 11 rfl 85 rfl
              have b5 := b5.gr q108
              have b21 := b21.gr q108
              have o91 := o91.gr q108
              have fB := fB.gr q108
              obtain ⟨g116, h⟩ := gs h
              have f118 := off_ty b5 o91 (by decide)
              have f119 := off_ty b21 o91 (by decide)
              have f120 := o91.geO
              refine ol_op (by exact opv_append (K := (kI .i64)) rfl Try.underlying45 el3 rfl rfl rfl e75 e85 o91 o110.rd g116 fB.size) rfl rfl rfl ?_
              rintro v112 w121 ⟨o113, q114, n115⟩
              have b5 := b5.wrO q114 f118
              have b21 := b21.wrO q114 f119
              have fB := fB.wrO q114 f120
              refine ol_val (v := .pointer (some ⟨G20, 8, none⟩)) (by exact xr_fieldAddr (p := 0) (q := 8) rfl fl120_3 e8) rfl rfl rfl ?_
              have f123 := off_ty b21 o113 (by decide)
              refine ol_op0 (by exact opv_store (ss' := [Seg.cell (.int .i64 t28), Seg.cell (.int .i64 t35), Seg.cell (.int .i64 t42), Seg.cell (.int .i64 t49), Seg.cell (.int .i64 t70), Seg.cell (.int .i64 t56), Seg.cell (.int .i64 t63), Seg.cell (.int .i64 t77), Seg.cell v112 o113.one]) (xs := cellsOf [Seg.cell v112 o113.one]) rfl sz45 rfl rfl (cells_one o113.one) (len_cellsOf _) (one_cellsOf _) b21 (Spl.segs _ 8 1 [Seg.cell v112 o113.one] rfl rfl)) rfl rfl ?_
              rintro _ w124 ⟨b21, q122⟩
              have b5 := b5.wr q122 n26
              have o113 := o113.wr q122 f123
              have fB := fB.wr q122 z23
              refine ol_nil ?_
              refine blk_i ?_
              refine cw_region ?_
              refine ol_val (v := .int .i64 s83.1) (by exact xr_move rfl e9) rfl rfl rfl ?_
              refine ol_val (v := .int .i64 (IntKind.i64.wrap (s83.1 + 1))) (by exact xr_add rfl rfl rfl) rfl rfl rfl ?_
              refine ol_val (v := .int .i64 (IntKind.i64.wrap (s83.1 + 1))) (by exact xr_assign rfl rfl) rfl rfl rfl ?_
              refine ol_nil ?_
              obtain rfl := Option.some.inj h
              refine lp_in ?_
              exact ⟨v112, o113, e0, e2, e5, e6, e8, rfl, b5, b21, fB⟩
          · refine cw_condF rfl c96 ?_
            refine cw_exit ?_
            repeat (first | with_reducible refine thn_e ?_ | with_reducible refine blk_e rfl ?_)
            obtain rfl := Option.some.inj h
            refine lp_exit ?_
            rintro rfl
            refine thn_x ?_
            exact ⟨v90, o91, e0, e2, e8, b5, b21, fB⟩
      · rintro ρ125 w126 ⟨v87, o88, e0, e2, e8, b5, b21, fB⟩
        have h := h86
        refine cw_seq ?_
        refine cw_seq ?_
        obtain ⟨x127, j128, h⟩ := bs h
        refine cw_mid (fun ρ' w' => ρ' 2 = .pointer (some ⟨G4, 0, none⟩) ∧ ρ' 8 = .pointer (some ⟨G20, 0, none⟩) ∧ ρ' 97 = .bool x127 ∧ Gr w126 w') ?_ ?_
        · skip
          obtain ⟨t129, k130, j128⟩ := bs j128
          rcases is j128 with ⟨c132, j128⟩ | ⟨c132, j128⟩
          · skip
            refine cw_drawL 9 [fun vz wz => vz = (aggV [Seg.cell (.int .i64 t28), Seg.cell (.int .i64 t35), Seg.cell (.int .i64 t42), Seg.cell (.int .i64 t49), Seg.cell (.int .i64 t70), Seg.cell (.int .i64 t56), Seg.cell (.int .i64 t63), Seg.cell (.int .i64 t77), Seg.cell v87 o88.one] : Value), fun vz wz => vz = (.bool t129 : Value), fun vz wz => vz = (.bool (!t129) : Value), fun vz wz => vz = (.bool (!t129) : Value), fun vz _ => vz = undef, fun vz _ => vz = undef, fun vz _ => vz = undef, fun vz _ => vz = undef, fun vz _ => vz = undef] mo rfl ⟨fun _ _ _ h _ => h, fun _ _ _ h _ => h, fun _ _ _ h _ => h, fun _ _ _ h _ => h, fun _ _ _ h _ => h, fun _ _ _ h _ => h, fun _ _ _ h _ => h, fun _ _ _ h _ => h, fun _ _ _ h _ => h, trivial⟩ ?_ ?_
            · refine ⟨?_, ?_, ?_, ?_, ?_, ?_, ?_, ?_, ?_, trivial⟩
              · intro ρz wz hz hk hd
                exact sk_val (by exact xr_loadS (ss := [Seg.cell (.int .i64 t28), Seg.cell (.int .i64 t35), Seg.cell (.int .i64 t42), Seg.cell (.int .i64 t49), Seg.cell (.int .i64 t70), Seg.cell (.int .i64 t56), Seg.cell (.int .i64 t63), Seg.cell (.int .i64 t77), Seg.cell v87 o88.one]) rfl ag120 sz120 rfl ((hk 8 rfl).trans e8) ((b21.gr hz).segs 0 9 rfl)) rfl rfl
              · intro ρz wz hz hk hd
                have d88 := hd 0 rfl 88 rfl
                refine sk_op (by exact opv_call rfl cal90 (ac d88 an) (rickyardref13_Right.ok fu _ (⟨t28, (⟨(⟨t35, t42, t49⟩ : S_api_Geometry), t70, t56, t63⟩ : S_api_Tickets), t77, e84⟩ : S_api_Super) v87 (o88.gr hz).rd _ k130)) rfl ?_
                rintro _ wy ⟨rfl, q131⟩
                exact ⟨rfl, q131⟩
              · intro ρz wz hz hk hd
                have d89 := hd 1 rfl 89 rfl
                exact sk_val (v := .bool (!t129)) (by exact xr_not rfl d89) rfl rfl
              · intro ρz wz hz hk hd
                have d90 := hd 2 rfl 90 rfl
                exact sk_val (v := .bool (!t129)) (by exact xr_move rfl d90) rfl rfl
              · intro ρz wz hz hk hd
                have d91 := hd 3 rfl 91 rfl
                exact sk_skip rfl rfl d91 c132 rfl
              · intro ρz wz hz hk hd
                have d91 := hd 3 rfl 91 rfl
                exact sk_skip rfl rfl d91 c132 rfl
              · intro ρz wz hz hk hd
                have d91 := hd 3 rfl 91 rfl
                exact sk_skip rfl rfl d91 c132 rfl
              · intro ρz wz hz hk hd
                have d91 := hd 3 rfl 91 rfl
                exact sk_skip rfl rfl d91 c132 rfl
              · intro ρz wz hz hk hd
                have d91 := hd 3 rfl 91 rfl
                exact sk_skip rfl rfl d91 c132 rfl
            · intro ρ133 w134 q135 hk hd
              have e2 := (hk 2 rfl).trans e2
              have e8 := (hk 8 rfl).trans e8
              have e91 := hd 3 rfl 91 rfl
              have b5 := b5.gr q135
              have b21 := b21.gr q135
              have o88 := o88.gr q135
              have fB := fB.gr q135
              refine ol_val (v := .bool true) (by exact xr_pickT rfl e91 c132 rfl) rfl rfl rfl ?_
              refine ol_nil ?_
              obtain rfl := Option.some.inj j128
              refine thn_i ?_
              exact ⟨e2, e8, rfl, q135⟩
          · skip
            obtain ⟨t136, k137, j128⟩ := bs j128
            refine cw_drawL 9 [fun vz wz => vz = (aggV [Seg.cell (.int .i64 t28), Seg.cell (.int .i64 t35), Seg.cell (.int .i64 t42), Seg.cell (.int .i64 t49), Seg.cell (.int .i64 t70), Seg.cell (.int .i64 t56), Seg.cell (.int .i64 t63), Seg.cell (.int .i64 t77), Seg.cell v87 o88.one] : Value), fun vz wz => vz = (.bool t129 : Value), fun vz wz => vz = (.bool (!t129) : Value), fun vz wz => vz = (.bool (!t129) : Value), fun vz wz => vz = (aggV [Seg.cell (.int .i64 t28), Seg.cell (.int .i64 t35), Seg.cell (.int .i64 t42), Seg.cell (.int .i64 t49), Seg.cell (.int .i64 t70), Seg.cell (.int .i64 t56), Seg.cell (.int .i64 t63), Seg.cell (.int .i64 t77), Seg.cell v87 o88.one] : Value), fun vz wz => vz = (sv t136 : Value), fun vz wz => vz = (V0_0 : Value), fun vz wz => vz = (sv (List.map toB a0) : Value), fun vz wz => vz = (.bool (!decide (t136 = (List.map toB a0))) : Value)] mo rfl ⟨fun _ _ _ h _ => h, fun _ _ _ h _ => h, fun _ _ _ h _ => h, fun _ _ _ h _ => h, fun _ _ _ h _ => h, fun _ _ _ h _ => h, fun _ _ _ h _ => h, fun _ _ _ h _ => h, fun _ _ _ h _ => h, trivial⟩ ?_ ?_
            · refine ⟨?_, ?_, ?_, ?_, ?_, ?_, ?_, ?_, ?_, trivial⟩
              · intro ρz wz hz hk hd
                exact sk_val (by exact xr_loadS (ss := [Seg.cell (.int .i64 t28), Seg.cell (.int .i64 t35), Seg.cell (.int .i64 t42), Seg.cell (.int .i64 t49), Seg.cell (.int .i64 t70), Seg.cell (.int .i64 t56), Seg.cell (.int .i64 t63), Seg.cell (.int .i64 t77), Seg.cell v87 o88.one]) rfl ag120 sz120 rfl ((hk 8 rfl).trans e8) ((b21.gr hz).segs 0 9 rfl)) rfl rfl
              · intro ρz wz hz hk hd
                have d88 := hd 0 rfl 88 rfl
                refine sk_op (by exact opv_call rfl cal90 (ac d88 an) (rickyardref13_Right.ok fu _ (⟨t28, (⟨(⟨t35, t42, t49⟩ : S_api_Geometry), t70, t56, t63⟩ : S_api_Tickets), t77, e84⟩ : S_api_Super) v87 (o88.gr hz).rd _ k130)) rfl ?_
                rintro _ wy ⟨rfl, q131⟩
                exact ⟨rfl, q131⟩
              · intro ρz wz hz hk hd
                have d89 := hd 1 rfl 89 rfl
                exact sk_val (v := .bool (!t129)) (by exact xr_not rfl d89) rfl rfl
              · intro ρz wz hz hk hd
                have d90 := hd 2 rfl 90 rfl
                exact sk_val (v := .bool (!t129)) (by exact xr_move rfl d90) rfl rfl
              · intro ρz wz hz hk hd
                have d91 := hd 3 rfl 91 rfl
                exact sk_gval (by exact xr_loadS (ss := [Seg.cell (.int .i64 t28), Seg.cell (.int .i64 t35), Seg.cell (.int .i64 t42), Seg.cell (.int .i64 t49), Seg.cell (.int .i64 t70), Seg.cell (.int .i64 t56), Seg.cell (.int .i64 t63), Seg.cell (.int .i64 t77), Seg.cell v87 o88.one]) rfl ag120 sz120 rfl ((hk 8 rfl).trans e8) ((b21.gr hz).segs 0 9 rfl)) rfl rfl d91 c132 rfl
              · intro ρz wz hz hk hd
                have d92 := hd 4 rfl 92 rfl
                have d91 := hd 3 rfl 91 rfl
                refine sk_gop (by exact opv_call rfl cal93 (ac d92 an) (rickyardref13_Put.ok fu _ (⟨t28, (⟨(⟨t35, t42, t49⟩ : S_api_Geometry), t70, t56, t63⟩ : S_api_Tickets), t77, e84⟩ : S_api_Super) v87 (o88.gr hz).rd _ k137)) rfl rfl d91 c132 ?_
                rintro _ wy ⟨rfl, q138⟩
                exact ⟨rfl, q138⟩
              · intro ρz wz hz hk hd
                have d91 := hd 3 rfl 91 rfl
                exact sk_gval (v := V0_0) (by exact xr_move rfl ((hk 0 rfl).trans e0)) rfl rfl d91 c132 rfl
              · intro ρz wz hz hk hd
                have d94 := hd 6 rfl 94 rfl
                have d91 := hd 3 rfl 91 rfl
                exact sk_gval (v := sv (List.map toB a0)) (by exact xr_toStr rfl Try.underlying22 Try.underlying5 Try.underlying9 d94 (R0_0.gr (fB.gr hz))) rfl rfl d91 c132 rfl
              · intro ρz wz hz hk hd
                have d93 := hd 5 rfl 93 rfl
                have d95 := hd 7 rfl 95 rfl
                have d91 := hd 3 rfl 91 rfl
                exact sk_gval (v := .bool (!decide (t136 = (List.map toB a0)))) (by exact xr_neStr rfl Try.underlying9 d93 d95) rfl rfl d91 c132 rfl
            · intro ρ139 w140 q141 hk hd
              have e2 := (hk 2 rfl).trans e2
              have e8 := (hk 8 rfl).trans e8
              have e91 := hd 3 rfl 91 rfl
              have e96 := hd 8 rfl 96 rfl
              have b5 := b5.gr q141
              have b21 := b21.gr q141
              have o88 := o88.gr q141
              have fB := fB.gr q141
              refine ol_val (v := .bool (!decide (t136 = (List.map toB a0)))) (by exact xr_pickF rfl e91 c132 e96) rfl rfl rfl ?_
              refine ol_nil ?_
              obtain rfl := Option.some.inj j128
              refine thn_i ?_
              exact ⟨e2, e8, rfl, q141⟩
        · skip
          rintro ρ142 w143 ⟨e2, e8, e97, q144⟩
          have b5 := b5.gr q144
          have b21 := b21.gr q144
          have o88 := o88.gr q144
          have fB := fB.gr q144
          rcases is h with ⟨c145, h⟩ | ⟨c145, h⟩
          · refine cw_condT e97 c145 ?_
            refine cw_seq ?_
            refine cw_region ?_
            refine ol_val (v := aggV [Seg.cell (.int .i64 (0 : Int)), Seg.cell (.int .i64 (0 : Int)), Seg.cell (.int .i64 (0 : Int)), Seg.cell (.int .i64 (0 : Int)), Seg.cell (.int .i64 (0 : Int)), Seg.cell (.int .i64 (0 : Int)), Seg.cell (.int .i64 (0 : Int)), Seg.cell (.int .i64 (0 : Int)), Seg.cell (.slice none 0 0) (by rfl)]) (by exact xr_build (vals := []) rfl trivial (bl120_ _)) rfl rfl rfl ?_
            refine ol_op0 (by exact opv_store (ss' := [Seg.cell (.int .i64 (0 : Int)), Seg.cell (.int .i64 (0 : Int)), Seg.cell (.int .i64 (0 : Int)), Seg.cell (.int .i64 (0 : Int)), Seg.cell (.int .i64 (0 : Int)), Seg.cell (.int .i64 (0 : Int)), Seg.cell (.int .i64 (0 : Int)), Seg.cell (.int .i64 (0 : Int)), Seg.cell (.slice none 0 0) (by rfl)]) (xs := cellsOf [Seg.cell (.int .i64 (0 : Int)), Seg.cell (.int .i64 (0 : Int)), Seg.cell (.int .i64 (0 : Int)), Seg.cell (.int .i64 (0 : Int)), Seg.cell (.int .i64 (0 : Int)), Seg.cell (.int .i64 (0 : Int)), Seg.cell (.int .i64 (0 : Int)), Seg.cell (.int .i64 (0 : Int)), Seg.cell (.slice none 0 0) (by rfl)]) rfl sz120 e2 rfl rfl (len_cellsOf _) (one_cellsOf _) b5 (Spl.segs _ 0 9 [Seg.cell (.int .i64 (0 : Int)), Seg.cell (.int .i64 (0 : Int)), Seg.cell (.int .i64 (0 : Int)), Seg.cell (.int .i64 (0 : Int)), Seg.cell (.int .i64 (0 : Int)), Seg.cell (.int .i64 (0 : Int)), Seg.cell (.int .i64 (0 : Int)), Seg.cell (.int .i64 (0 : Int)), Seg.cell (.slice none 0 0) (by rfl)] rfl rfl)) rfl rfl ?_
            rintro _ w147 ⟨b5, q146⟩
            have fB := fB.wr q146 z7
            refine ol_val (v := .bool false) (by exact xr_assign rfl rfl) rfl rfl rfl ?_
            refine ol_nil ?_
            refine cw_ret ?_
            repeat (first | with_reducible refine thn_r ?_ | with_reducible refine blk_r ?_)
            obtain rfl := Option.some.inj h
            refine fin_cell_tmp Try.results88 e2 ag120 sz120 b5 (by rfl) rfl ?_
            exact ⟨_, rfl, (.slice none 0 0), Own.nil _ _ _ _, rfl, fB⟩
          · refine cw_condF e97 c145 ?_
            refine cw_skip ?_
            refine cw_seq ?_
            refine cw_region ?_
            refine ol_val (v := aggV [Seg.cell (.int .i64 t28), Seg.cell (.int .i64 t35), Seg.cell (.int .i64 t42), Seg.cell (.int .i64 t49), Seg.cell (.int .i64 t70), Seg.cell (.int .i64 t56), Seg.cell (.int .i64 t63), Seg.cell (.int .i64 t77), Seg.cell v87 o88.one]) (by exact xr_loadS (ss := [Seg.cell (.int .i64 t28), Seg.cell (.int .i64 t35), Seg.cell (.int .i64 t42), Seg.cell (.int .i64 t49), Seg.cell (.int .i64 t70), Seg.cell (.int .i64 t56), Seg.cell (.int .i64 t63), Seg.cell (.int .i64 t77), Seg.cell v87 o88.one]) rfl ag120 sz120 rfl e8 (b21.segs 0 9 rfl)) rfl rfl rfl ?_
            have f149 := off_ty b5 o88 (by decide)
            refine ol_op0 (by exact opv_store (ss' := [Seg.cell (.int .i64 t28), Seg.cell (.int .i64 t35), Seg.cell (.int .i64 t42), Seg.cell (.int .i64 t49), Seg.cell (.int .i64 t70), Seg.cell (.int .i64 t56), Seg.cell (.int .i64 t63), Seg.cell (.int .i64 t77), Seg.cell v87 o88.one]) (xs := cellsOf [Seg.cell (.int .i64 t28), Seg.cell (.int .i64 t35), Seg.cell (.int .i64 t42), Seg.cell (.int .i64 t49), Seg.cell (.int .i64 t70), Seg.cell (.int .i64 t56), Seg.cell (.int .i64 t63), Seg.cell (.int .i64 t77), Seg.cell v87 o88.one]) rfl sz120 e2 rfl rfl (len_cellsOf _) (one_cellsOf _) b5 (Spl.segs _ 0 9 [Seg.cell (.int .i64 t28), Seg.cell (.int .i64 t35), Seg.cell (.int .i64 t42), Seg.cell (.int .i64 t49), Seg.cell (.int .i64 t70), Seg.cell (.int .i64 t56), Seg.cell (.int .i64 t63), Seg.cell (.int .i64 t77), Seg.cell v87 o88.one] rfl rfl)) rfl rfl ?_
            rintro _ w150 ⟨b5, q148⟩
            have o88 := o88.wr q148 f149
            have fB := fB.wr q148 z7
            refine ol_val (v := .bool true) (by exact xr_assign rfl rfl) rfl rfl rfl ?_
            refine ol_nil ?_
            refine cw_ret ?_
            repeat (first | with_reducible refine thn_r ?_ | with_reducible refine blk_r ?_)
            obtain rfl := Option.some.inj h
            refine fin_cell_tmp Try.results88 e2 ag120 sz120 b5 (by rfl) rfl ?_
            exact ⟨_, rfl, v87, o88, rfl, fB⟩
end Go.Proofs.Ytjhajfkfhdnciaa

/- Superblocks in plain words. -/
set_option linter.unusedVariables false
set_option linter.unusedSimpArgs false
namespace Go.Proofs.Ytjhajfkfhdnciaa.Pure
open Go Go.Xw
/-! ### Among -/
theorem contains_eq {fu : Nat} {l : List Int} {x : Int} (hl : l.length ≤ 9000000000000000000) (hf : l.length < fu) : slices_Contains.f fu l x = some (decide (x ∈ l)) := by
  unfold slices_Contains.f
  have hs : ∀ j : Nat, j < l.length → slices_Index.s0 fu l x (j : Int) = some (if x ≠ ix l (j : Int) then .inr ((j + 1 : Nat) : Int) else .inl (.inl (j : Int))) := by
    intro j hj
    unfold slices_Index.s0
    have h1 : (j : Int) < (l.length : Int) := by omega
    have c0 : 0 ≤ (j : Int) := by omega
    have w3 : IntKind.i64.wrap ((j : Int) + 1) = ((j + 1 : Nat) : Int) := by rw [w64 (by omega) (by omega)]; omega
    simp only [h1, c0, and_self, decide_true, if_true, w3]
    by_cases e : x = ix l (j : Int) <;> simp [e]
  have hi : ∃ r : Int, slices_Index.f fu l x = some r ∧ (r ≥ 0 ↔ x ∈ l) := by
    unfold slices_Index.f
    by_cases hk : x ∈ l
    · have hmin : ∀ m j, j ≤ m → (j < l.length ∧ x = ix l (j : Int)) → ∃ q, (q < l.length ∧ x = ix l (q : Int)) ∧ ∀ i, i < q → x ≠ ix l (i : Int) := by
        intro m
        induction m with
        | zero =>
          intro j hj hjj
          exact ⟨j, hjj, fun i hi => by omega⟩
        | succ m ih =>
          intro j hj hjj
          by_cases hx : ∃ i, i < j ∧ x = ix l (i : Int)
          · obtain ⟨i, hi, hgi⟩ := hx
            exact ih i (by omega) ⟨by omega, hgi⟩
          · exact ⟨j, hjj, fun i hi hg => hx ⟨i, hi, hg⟩⟩
      obtain ⟨j, hj, hjx⟩ := List.getElem_of_mem hk
      obtain ⟨q, ⟨hq, hg⟩, hall⟩ := hmin j j (Nat.le_refl _) ⟨hj, by rw [ix_nat hj, hjx]⟩
      have : loopM (slices_Index.s0 fu l x) fu 0 = some (.inl (q : Int)) :=
        loopM_run (S := fun j => (j : Int)) q rfl (fun i hi => by rw [hs i (by omega), if_pos (hall i hi)]) (by rw [hs q hq, if_neg (fun h => h hg)]) (by omega)
      rw [this]
      refine ⟨(q : Int), rfl, ?_⟩
      simp only [hk, iff_true]
      omega
    · have : loopM (slices_Index.s0 fu l x) fu 0 = some (.inr ()) := by
        refine loopM_run (S := fun j => (j : Int)) l.length rfl (fun j hj => ?_) ?_ hf
        · rw [hs j hj, if_pos]
          intro e
          rw [ix_nat hj] at e
          exact hk (by rw [e]; exact List.getElem_mem hj)
        · unfold slices_Index.s0
          simp
      rw [this]
      exact ⟨-1, rfl, by simp [hk]⟩
  obtain ⟨r, hr, hrk⟩ := hi
  rw [hr]
  exact congrArg some (decide_eq_decide.2 hrk)
/-! ### Right ones -/
def geoOk (g : S_api_Geometry) : Prop := (16 ≤ g.Blocks ∧ g.Blocks ≤ 3072) ∧ (1 ≤ g.Slots ∧ g.Slots ≤ 1792) ∧ (1 ≤ g.Gens ∧ g.Gens ≤ 4294967295)
instance (g : S_api_Geometry) : Decidable (geoOk g) := inferInstanceAs (Decidable (_ ∧ _))
theorem geo_form (g : S_api_Geometry) : (if (decide (g.Blocks ≥ 16)) = true then (if (decide (g.Blocks ≤ 3072)) = true then (if (decide (g.Slots ≥ 1)) = true then (if (decide (g.Slots ≤ 1792)) = true then (if (decide (g.Gens ≥ 1)) = true then (decide (g.Gens ≤ 4294967295)) else false) else false) else false) else false) else false) = decide (geoOk g) := by
  rw [Bool.eq_iff_iff]
  unfold geoOk
  simp only [decide_eq_true_eq, ge_iff_le]
  by_cases c1 : 16 ≤ g.Blocks
  · by_cases c2 : g.Blocks ≤ 3072
    · by_cases c3 : 1 ≤ g.Slots
      · by_cases c4 : g.Slots ≤ 1792
        · by_cases c5 : 1 ≤ g.Gens <;> simp [c1, c2, c3, c4, c5]
        · simp [c1, c2, c3, c4]
      · simp [c1, c2, c3]
    · simp [c1, c2]
  · simp [c1]
theorem geom_eq (fu : Nat) (g : S_api_Geometry) : geom_Right.f fu g = some (decide (geoOk g)) := congrArg some (geo_form g)
theorem rgeom_eq (fu : Nat) (g : S_api_Geometry) : rickyardref12_Right.f fu g = some (decide (geoOk g)) := congrArg some (geo_form g)
def chartsN (g : S_api_Geometry) : Int := (g.Blocks + 383) / 384
theorem charts_eq {fu : Nat} {g : S_api_Geometry} (h : geoOk g) : geom_Charts.f fu g = some (chartsN g) := by
  unfold geom_Charts.f geom_up.f
  rw [geom_eq, decide_eq_true h]
  unfold geoOk at h
  have w1 : IntKind.i64.wrap (g.Blocks + 384) = g.Blocks + 384 := w64 (by omega) (by omega)
  have w2 : IntKind.i64.wrap (g.Blocks + 384 - 1) = g.Blocks + 383 := by rw [w64 (by omega) (by omega)]; omega
  have e1 : Int.tdiv (g.Blocks + 383) 384 = (g.Blocks + 383) / 384 := Int.tdiv_eq_ediv_of_nonneg (by omega)
  have w3 : IntKind.i64.wrap ((g.Blocks + 383) / 384) = (g.Blocks + 383) / 384 := w64 (by omega) (by omega)
  simp [w1, w2, e1, w3, chartsN]
theorem rcharts_eq {fu : Nat} {g : S_api_Geometry} (h : geoOk g) (hf : 100 < fu) : rickyardref12_Charts.f fu g = some (chartsN g) := by
  unfold rickyardref12_Charts.f rickyardref12_Need.f
  unfold geoOk at h
  obtain ⟨n, hn⟩ : ∃ n : Nat, chartsN g = (n : Int) := ⟨(chartsN g).toNat, by unfold chartsN; omega⟩
  have hn' := hn
  unfold chartsN at hn'
  have : loopM (rickyardref12_Need.s0 fu g.Blocks 384) fu 0 = some (n : Int) := by
    refine loopM_run (S := fun j => (j : Int)) n rfl (fun j hj => ?_) ?_ (by omega)
    · unfold rickyardref12_Need.s0
      have w1 : IntKind.i64.wrap ((j : Int) * 384) = (j : Int) * 384 := w64 (by omega) (by omega)
      have w3 : IntKind.i64.wrap ((j : Int) + 1) = ((j + 1 : Nat) : Int) := by rw [w64 (by omega) (by omega)]; omega
      have h1 : (j : Int) * 384 < g.Blocks := by omega
      simp only [w1, w3, h1, decide_true, if_true]
    · unfold rickyardref12_Need.s0
      have w1 : IntKind.i64.wrap ((n : Int) * 384) = (n : Int) * 384 := w64 (by omega) (by omega)
      have h1 : ¬ (n : Int) * 384 < g.Blocks := by omega
      simp only [w1, h1, decide_false, Bool.false_eq_true, if_false]
  rw [this, hn]
  rfl
def inB (s : S_api_Super) (x : Int) : Prop := 2 ≤ x ∧ x < s.Tickets.Geometry.Blocks
instance (s : S_api_Super) (x : Int) : Decidable (inB s x) := inferInstanceAs (Decidable (_ ∧ _))
def supA (s : S_api_Super) : Prop := (1 ≤ s.Epoch ∧ s.Epoch ≤ 4611686018427387904) ∧ geoOk s.Tickets.Geometry
instance (s : S_api_Super) : Decidable (supA s) := inferInstanceAs (Decidable (_ ∧ _))
def supB (s : S_api_Super) : Prop := (0 ≤ s.Tickets.High ∧ s.Tickets.High ≤ s.Tickets.Geometry.Slots) ∧ (0 ≤ s.Tickets.Free ∧ s.Tickets.Free ≤ s.Tickets.High)
instance (s : S_api_Super) : Decidable (supB s) := inferInstanceAs (Decidable (_ ∧ _))
def topOk (s : S_api_Super) : Prop := (s.Tickets.High = 0 → s.Tickets.Top = 0) ∧ (s.Tickets.High ≠ 0 → inB s s.Tickets.Top)
instance (s : S_api_Super) : Decidable (topOk s) := inferInstanceAs (Decidable (_ ∧ _))
def dirOk (s : S_api_Super) : Prop := s.Dir ≠ 0 → inB s s.Dir
instance (s : S_api_Super) : Decidable (dirOk s) := inferInstanceAs (Decidable (_ → _))
def apartC (l : List Int) : Prop := ∀ j, j < l.length → ix l (j : Int) ∉ l.take j
instance (l : List Int) : Decidable (apartC l) := inferInstanceAs (Decidable (∀ j, j < l.length → _))
def insC (s : S_api_Super) : Prop := ∀ j, j < s.Charts.length → inB s (ix s.Charts (j : Int))
instance (s : S_api_Super) : Decidable (insC s) := inferInstanceAs (Decidable (∀ j, j < s.Charts.length → _))
def SupOk (s : S_api_Super) : Prop := supA s ∧ supB s ∧ topOk s ∧ dirOk s ∧ (s.Charts.length : Int) = chartsN s.Tickets.Geometry ∧ insC s ∧ apartC s.Charts
instance (s : S_api_Super) : Decidable (SupOk s) := inferInstanceAs (Decidable (_ ∧ _))
theorem SupOk.len {s : S_api_Super} (h : SupOk s) : s.Charts.length ≤ 8 ∧ 1 ≤ s.Charts.length := by
  have h1 := h.1.2
  have h2 := h.2.2.2.2.1
  unfold geoOk at h1
  unfold chartsN at h2
  omega
theorem in_eq (fu : Nat) (x : Int) (s : S_api_Super) : super_Right_1__c.f fu x s = some (decide (inB s x)) := by
  unfold super_Right_1__c.f inB
  by_cases h : 2 ≤ x <;> simp [h]
theorem sup_g1 (fu : Nat) (s : S_api_Super) : (if (decide (s.Epoch < 1)) = true then some (true) else (if (decide (s.Epoch > 4611686018427387904)) = true then some (true) else ((geom_Right.f fu s.Tickets.Geometry : Option Bool).bind fun t11 => (if (!t11) = true then some (true) else (if (decide (s.Tickets.High < 0)) = true then some (true) else (if (decide (s.Tickets.High > s.Tickets.Geometry.Slots)) = true then some (true) else (if (decide (s.Tickets.Free < 0)) = true then some (true) else some ((decide (s.Tickets.Free > s.Tickets.High)))))))))) = some (!decide (supA s ∧ supB s)) := by
  rw [geom_eq, Option.bind_some]
  by_cases hA : supA s
  · have hA' := hA
    unfold supA at hA'
    have c1 : ¬ s.Epoch < 1 := by omega
    have c2 : ¬ s.Epoch > 4611686018427387904 := by omega
    rw [decide_eq_false c1, decide_eq_false c2, decide_eq_true hA'.2]
    by_cases hB : supB s
    · have hB' := hB
      unfold supB at hB'
      have c3 : ¬ s.Tickets.High < 0 := by omega
      have c4 : ¬ s.Tickets.High > s.Tickets.Geometry.Slots := by omega
      have c5 : ¬ s.Tickets.Free < 0 := by omega
      have c6 : ¬ s.Tickets.Free > s.Tickets.High := by omega
      rw [decide_eq_false c3, decide_eq_false c4, decide_eq_false c5, decide_eq_false c6, decide_eq_true (⟨hA, hB⟩ : supA s ∧ supB s)]
      rfl
    · rw [decide_eq_false (fun x : supA s ∧ supB s => hB x.2)]
      unfold supB at hB
      by_cases c3 : s.Tickets.High < 0
      · rw [decide_eq_true c3]
        rfl
      · by_cases c4 : s.Tickets.High > s.Tickets.Geometry.Slots
        · rw [decide_eq_false c3, decide_eq_true c4]
          rfl
        · by_cases c5 : s.Tickets.Free < 0
          · rw [decide_eq_false c3, decide_eq_false c4, decide_eq_true c5]
            rfl
          · have c6 : s.Tickets.Free > s.Tickets.High := by omega
            rw [decide_eq_false c3, decide_eq_false c4, decide_eq_false c5, decide_eq_true c6]
            rfl
  · rw [decide_eq_false (fun x : supA s ∧ supB s => hA x.1)]
    unfold supA at hA
    by_cases c1 : s.Epoch < 1
    · rw [decide_eq_true c1]
      rfl
    · by_cases c2 : s.Epoch > 4611686018427387904
      · rw [decide_eq_false c1, decide_eq_true c2]
        rfl
      · have c3 : ¬ geoOk s.Tickets.Geometry := fun x => hA ⟨by omega, x⟩
        rw [decide_eq_false c1, decide_eq_false c2, decide_eq_false c3]
        rfl
def lenOk (s : S_api_Super) : Prop := (s.Charts.length : Int) = chartsN s.Tickets.Geometry
instance (s : S_api_Super) : Decidable (lenOk s) := inferInstanceAs (Decidable (_ = _))
theorem sup_loop {fu : Nat} {s : S_api_Super} (hl : s.Charts.length ≤ 50) (hf : 100 < fu) : loopM (super_Right.s0 fu s) fu 0 = some (if insC s ∧ apartC s.Charts then .inr () else .inl false) := by
  have hs : ∀ j : Nat, j < s.Charts.length → super_Right.s0 fu s (j : Int) = some (if inB s (ix s.Charts (j : Int)) ∧ ix s.Charts (j : Int) ∉ s.Charts.take j then .inr ((j + 1 : Nat) : Int) else .inl (.inl false)) := by
    intro j hj
    unfold super_Right.s0
    have h1 : (j : Int) < (s.Charts.length : Int) := by omega
    have h2 : (j : Int) ≤ (s.Charts.length : Int) := by omega
    have c0 : 0 ≤ (j : Int) := by omega
    have w3 : IntKind.i64.wrap ((j : Int) + 1) = ((j + 1 : Nat) : Int) := by rw [w64 (by omega) (by omega)]; omega
    have ec : cut s.Charts 0 (j : Int) = s.Charts.take j := by unfold cut; simp
    have hc : slices_Contains.f fu (s.Charts.take j) (ix s.Charts (j : Int)) = some (decide (ix s.Charts (j : Int) ∈ s.Charts.take j)) := contains_eq (by rw [List.length_take]; omega) (by rw [List.length_take]; omega)
    simp only [h1, h2, c0, and_self, decide_true, if_true, w3, in_eq, Option.bind_some, ec, hc]
    by_cases g1 : inB s (ix s.Charts (j : Int))
    · by_cases g2 : ix s.Charts (j : Int) ∈ s.Charts.take j <;> simp [g1, g2]
    · simp [g1]
  by_cases h : insC s ∧ apartC s.Charts
  · rw [if_pos h]
    refine loopM_run (S := fun j => (j : Int)) s.Charts.length rfl (fun j hj => by rw [hs j hj, if_pos ⟨h.1 j hj, h.2 j hj⟩]) ?_ (by omega)
    unfold super_Right.s0
    simp
  · rw [if_neg h]
    refine loopM_bad (S := fun j => (j : Int)) s.Charts.length (fun j => inB s (ix s.Charts (j : Int)) ∧ ix s.Charts (j : Int) ∉ s.Charts.take j) rfl ?_ (fun j hj _ hg => by rw [hs j hj, if_pos hg]) (fun j hj _ hg => by rw [hs j hj, if_neg hg]) (by omega)
    apply Classical.byContradiction
    intro hx
    exact h ⟨fun i hi => Classical.byContradiction fun hg => hx ⟨i, hi, fun q => hg q.1⟩, fun i hi => Classical.byContradiction fun hg => hx ⟨i, hi, fun q => hg q.2⟩⟩
theorem superRight_eq {fu : Nat} {s : S_api_Super} (hf : 100 < fu) : super_Right.f fu s = some (decide (SupOk s)) := by
  unfold super_Right.f
  rw [sup_g1, Option.bind_some]
  by_cases hAB : supA s ∧ supB s
  · obtain ⟨hA, hB⟩ := hAB
    have hg := hA.2
    have hB' := hB
    unfold supB at hB'
    rw [decide_eq_true (⟨hA, hB⟩ : supA s ∧ supB s), charts_eq hg]
    simp only [Bool.not_true, Bool.false_eq_true, if_false, in_eq, Option.bind_some]
    have key : ∀ (b : Bool), b = decide (topOk s ∧ dirOk s ∧ lenOk s) → (if (!b) = true then some false else ((loopM (super_Right.s0 fu s) fu (0)).bind fun e131 => match e131 with | Sum.inl p => some p | Sum.inr x134 => some (true))) = some (decide (SupOk s)) := by
      intro b hb
      by_cases hT : topOk s ∧ dirOk s ∧ lenOk s
      · rw [hb, decide_eq_true hT]
        have hlen : s.Charts.length ≤ 50 := by
          have h1 := hT.2.2
          unfold lenOk chartsN at h1
          unfold geoOk at hg
          omega
        rw [sup_loop hlen hf]
        by_cases hq : insC s ∧ apartC s.Charts
        · have hS : SupOk s := ⟨hA, hB, hT.1, hT.2.1, hT.2.2, hq.1, hq.2⟩
          rw [if_pos hq, decide_eq_true hS]
          rfl
        · rw [if_neg hq, decide_eq_false (fun x : SupOk s => hq ⟨x.2.2.2.2.2.1, x.2.2.2.2.2.2⟩)]
          rfl
      · rw [hb, decide_eq_false hT, decide_eq_false (fun x : SupOk s => hT ⟨x.2.2.1, x.2.2.2.1, x.2.2.2.2.1⟩)]
        rfl
    by_cases h0 : s.Tickets.High = 0
    · have h1 : ¬ s.Tickets.High > 0 := by omega
      rw [decide_eq_true h0, decide_eq_false h1]
      by_cases ht : s.Tickets.Top = 0
      · rw [decide_eq_true ht]
        have hT : topOk s := ⟨fun _ => ht, fun x => absurd h0 x⟩
        by_cases hd : s.Dir = 0
        · rw [decide_eq_true hd]
          have hD : dirOk s := fun x => absurd hd x
          exact key (decide (lenOk s)) (decide_eq_decide.2 ⟨fun x => ⟨hT, hD, x⟩, fun x => x.2.2⟩)
        · rw [decide_eq_false hd]
          by_cases hi : inB s s.Dir
          · rw [decide_eq_true hi]
            exact key (decide (lenOk s)) (decide_eq_decide.2 ⟨fun x => ⟨hT, fun _ => hi, x⟩, fun x => x.2.2⟩)
          · rw [decide_eq_false hi]
            exact key false (decide_eq_false (fun x => hi (x.2.1 hd))).symm
      · rw [decide_eq_false ht]
        exact key false (decide_eq_false (fun x => ht (x.1.1 h0))).symm
    · have h1 : s.Tickets.High > 0 := by omega
      rw [decide_eq_false h0, decide_eq_true h1]
      by_cases ht : inB s s.Tickets.Top
      · rw [decide_eq_true ht]
        have hT : topOk s := ⟨fun x => absurd x h0, fun _ => ht⟩
        by_cases hd : s.Dir = 0
        · rw [decide_eq_true hd]
          have hD : dirOk s := fun x => absurd hd x
          exact key (decide (lenOk s)) (decide_eq_decide.2 ⟨fun x => ⟨hT, hD, x⟩, fun x => x.2.2⟩)
        · rw [decide_eq_false hd]
          by_cases hi : inB s s.Dir
          · rw [decide_eq_true hi]
            exact key (decide (lenOk s)) (decide_eq_decide.2 ⟨fun x => ⟨hT, fun _ => hi, x⟩, fun x => x.2.2⟩)
          · rw [decide_eq_false hi]
            exact key false (decide_eq_false (fun x => hi (x.2.1 hd))).symm
      · rw [decide_eq_false ht]
        exact key false (decide_eq_false (fun x => ht (x.1.2 h0))).symm
  · rw [decide_eq_false hAB, decide_eq_false (fun x : SupOk s => hAB ⟨x.1, x.2.1⟩)]
    rfl
end Go.Proofs.Ytjhajfkfhdnciaa.Pure

/- Superblocks in plain words: what the document answers; octets. -/
set_option linter.unusedVariables false
set_option linter.unusedSimpArgs false
namespace Go.Proofs.Ytjhajfkfhdnciaa.Pure
open Go Go.Xw
def needL (s : S_api_Super) : List Int := (if s.Tickets.High = 0 then [] else [s.Tickets.Top]) ++ (if s.Dir = 0 then [] else [s.Dir])
theorem needL_len (s : S_api_Super) : (needL s).length ≤ 2 := by
  unfold needL
  split <;> split <;> simp
theorem mem_ix {l : List Int} {p : Int → Prop} : (∀ x ∈ l, p x) ↔ ∀ j, j < l.length → p (ix l (j : Int)) := by
  constructor
  · intro h j hj
    rw [ix_nat hj]
    exact h _ (List.getElem_mem hj)
  · intro h x hx
    obtain ⟨j, hj, rfl⟩ := List.getElem_of_mem hx
    have := h j hj
    rwa [ix_nat hj] at this
theorem rs2_eq {fu : Nat} {s : S_api_Super} {nd : List Int} {j : Nat} (hj : j < s.Charts.length) (hl : s.Charts.length ≤ 50) (hf : 100 < fu) : loopM (rickyardref13_Right.s2 fu s (nd, (j : Int))) fu 0 = some (if ix s.Charts (j : Int) ∉ s.Charts.take j then .inr () else .inl (.inl (.inl false))) := by
  have hs : ∀ i : Nat, i < j → rickyardref13_Right.s2 fu s (nd, (j : Int)) (i : Int) = some (if ix s.Charts (i : Int) ≠ ix s.Charts (j : Int) then .inr ((i + 1 : Nat) : Int) else .inl (.inl (.inl (.inl false)))) := by
    intro i hi
    unfold rickyardref13_Right.s2
    have h1 : (i : Int) < (j : Int) := by omega
    have h2 : (i : Int) < (s.Charts.length : Int) := by omega
    have h3 : (j : Int) < (s.Charts.length : Int) := by omega
    have c0 : 0 ≤ (i : Int) := by omega
    have c1 : 0 ≤ (j : Int) := by omega
    have w3 : IntKind.i64.wrap ((i : Int) + 1) = ((i + 1 : Nat) : Int) := by rw [w64 (by omega) (by omega)]; omega
    simp only [h1, h2, h3, c0, c1, and_self, decide_true, if_true, w3]
    by_cases e : ix s.Charts (i : Int) = ix s.Charts (j : Int) <;> simp [e]
  have hmem : ix s.Charts (j : Int) ∉ s.Charts.take j ↔ ∀ i, i < j → ix s.Charts (i : Int) ≠ ix s.Charts (j : Int) := by
    constructor
    · intro h i hi e
      apply h
      rw [← e, ix_nat (show i < s.Charts.length by omega)]
      exact List.mem_take_iff_getElem.2 ⟨i, by omega, rfl⟩
    · intro h hm
      obtain ⟨i, hi, he⟩ := List.mem_take_iff_getElem.1 hm
      exact h i (by omega) (by rw [ix_nat (show i < s.Charts.length by omega)]; exact he)
  by_cases h : ix s.Charts (j : Int) ∉ s.Charts.take j
  · rw [if_pos h]
    refine loopM_run (S := fun i => (i : Int)) j rfl (fun i hi => by rw [hs i hi, if_pos (hmem.1 h i hi)]) ?_ (by omega)
    unfold rickyardref13_Right.s2
    simp
  · rw [if_neg h]
    refine loopM_bad (S := fun i => (i : Int)) j (fun i => ix s.Charts (i : Int) ≠ ix s.Charts (j : Int)) rfl ?_ (fun i hi _ hg => by rw [hs i hi, if_pos hg]) (fun i hi _ hg => by rw [hs i hi, if_neg hg]) (by omega)
    apply Classical.byContradiction
    intro hx
    exact h (hmem.2 fun i hi => Classical.byContradiction fun hg => hx ⟨i, hi, hg⟩)
theorem rs1_eq {fu : Nat} {s : S_api_Super} (hl : s.Charts.length ≤ 50) (hf : 100 < fu) : loopM (rickyardref13_Right.s1 fu s) fu (needL s, 0) = some (if apartC s.Charts then .inr (needL s ++ s.Charts) else .inl false) := by
  have hn := needL_len s
  have hs : ∀ j : Nat, j < s.Charts.length → rickyardref13_Right.s1 fu s (needL s ++ s.Charts.take j, (j : Int)) = some (if ix s.Charts (j : Int) ∉ s.Charts.take j then .inr (needL s ++ s.Charts.take (j + 1), ((j + 1 : Nat) : Int)) else .inl (.inl false)) := by
    intro j hj
    unfold rickyardref13_Right.s1
    have h2 : (j : Int) < (s.Charts.length : Int) := by omega
    have c0 : 0 ≤ (j : Int) := by omega
    have w3 : IntKind.i64.wrap ((j : Int) + 1) = ((j + 1 : Nat) : Int) := by rw [w64 (by omega) (by omega)]; omega
    have hlim : (needL s ++ s.Charts.take j).length + ([ix s.Charts (j : Int)] : List Int).length ≤ LIM := lim_of' (by rw [List.length_append, List.length_take]; simp; omega)
    have e : needL s ++ s.Charts.take (j + 1) = needL s ++ s.Charts.take j ++ [ix s.Charts (j : Int)] := by
      rw [List.take_add_one, List.getElem?_eq_getElem hj, ix_nat hj, List.append_assoc]
      rfl
    simp only [h2, c0, and_self, decide_true, if_true, w3, hlim, rs2_eq hj hl hf, e]
    by_cases g : ix s.Charts (j : Int) ∉ s.Charts.take j
    · rw [if_pos g, if_pos g]
      rfl
    · rw [if_neg g, if_neg g]
      rfl
  by_cases h : apartC s.Charts
  · rw [if_pos h]
    refine loopM_run (S := fun j => (needL s ++ s.Charts.take j, (j : Int))) s.Charts.length (by simp) (fun j hj => by rw [hs j hj, if_pos (h j hj)]) ?_ (by omega)
    unfold rickyardref13_Right.s1
    simp
  · rw [if_neg h]
    refine loopM_bad (S := fun j => (needL s ++ s.Charts.take j, (j : Int))) s.Charts.length (fun j => ix s.Charts (j : Int) ∉ s.Charts.take j) (by simp) ?_ (fun j hj _ hg => by rw [hs j hj, if_pos hg]) (fun j hj _ hg => by rw [hs j hj, if_neg hg]) (by omega)
    apply Classical.byContradiction
    intro hx
    exact h fun i hi => Classical.byContradiction fun hg => hx ⟨i, hi, hg⟩
theorem rs3_eq {fu : Nat} {s : S_api_Super} {l : List Int} (hl : l.length ≤ 60) (hf : 100 < fu) : loopM (rickyardref13_Right.s3 fu s l) fu 0 = some (if ∀ j, j < l.length → inB s (ix l (j : Int)) then .inr () else .inl false) := by
  have hs : ∀ j : Nat, j < l.length → rickyardref13_Right.s3 fu s l (j : Int) = some (if inB s (ix l (j : Int)) then .inr ((j + 1 : Nat) : Int) else .inl (.inl false)) := by
    intro j hj
    unfold rickyardref13_Right.s3
    have h2 : (j : Int) < (l.length : Int) := by omega
    have c0 : 0 ≤ (j : Int) := by omega
    have w3 : IntKind.i64.wrap ((j : Int) + 1) = ((j + 1 : Nat) : Int) := by rw [w64 (by omega) (by omega)]; omega
    simp only [h2, c0, and_self, decide_true, if_true, w3]
    by_cases g1 : ix l (j : Int) < 2
    · have g : ¬ inB s (ix l (j : Int)) := fun x => by unfold inB at x; omega
      rw [decide_eq_true g1, if_neg g]
      rfl
    · by_cases g2 : ix l (j : Int) ≥ s.Tickets.Geometry.Blocks
      · have g : ¬ inB s (ix l (j : Int)) := fun x => by unfold inB at x; omega
        rw [decide_eq_false g1, decide_eq_true g2, if_neg g]
        rfl
      · have g : inB s (ix l (j : Int)) := ⟨by omega, by omega⟩
        rw [decide_eq_false g1, decide_eq_false g2, if_pos g]
        rfl
  by_cases h : ∀ j, j < l.length → inB s (ix l (j : Int))
  · rw [if_pos h]
    refine loopM_run (S := fun j => (j : Int)) l.length rfl (fun j hj => by rw [hs j hj, if_pos (h j hj)]) ?_ (by omega)
    unfold rickyardref13_Right.s3
    simp
  · rw [if_neg h]
    refine loopM_bad (S := fun j => (j : Int)) l.length (fun j => inB s (ix l (j : Int))) rfl ?_ (fun j hj _ hg => by rw [hs j hj, if_pos hg]) (fun j hj _ hg => by rw [hs j hj, if_neg hg]) (by omega)
    apply Classical.byContradiction
    intro hx
    exact h fun i hi => Classical.byContradiction fun hg => hx ⟨i, hi, hg⟩
theorem rsuperRight_eq {fu : Nat} {s : S_api_Super} (hf : 100 < fu) : rickyardref13_Right.f fu s = some (decide (SupOk s)) := by
  unfold rickyardref13_Right.f
  rw [rgeom_eq]
  by_cases hA : supA s
  · have hA' := hA
    unfold supA at hA'
    have hg := hA.2
    have hg' := hg
    unfold geoOk at hg'
    have c1 : ¬ s.Epoch < 1 := by omega
    have c2 : ¬ s.Epoch > 4611686018427387904 := by omega
    rw [decide_eq_false c1, decide_eq_false c2, decide_eq_true hg, rcharts_eq hg hf]
    simp only [Bool.false_eq_true, if_false, Option.bind_some, Bool.not_true]
    by_cases hB : supB s
    · have hB' := hB
      unfold supB at hB'
      have c3 : ¬ s.Tickets.High < 0 := by omega
      have c4 : ¬ s.Tickets.High > s.Tickets.Geometry.Slots := by omega
      have c5 : ¬ s.Tickets.Free < 0 := by omega
      have c6 : ¬ s.Tickets.Free > s.Tickets.High := by omega
      rw [decide_eq_false c3, decide_eq_false c4, decide_eq_false c5, decide_eq_false c6]
      simp only [Bool.false_eq_true, if_false, Option.bind_some]
      by_cases hL : (s.Charts.length : Int) = chartsN s.Tickets.Geometry
      · rw [decide_eq_true hL]
        simp only [Bool.not_true, Bool.false_eq_true, if_false]
        have hlen : s.Charts.length ≤ 50 := by unfold chartsN at hL; omega
        have hn := needL_len s
        have fin : (((loopM (rickyardref13_Right.s1 fu s) fu (needL s, 0)).bind fun e99 => match e99 with | Sum.inl p => some p | Sum.inr x102 => ((loopM (rickyardref13_Right.s3 fu s x102) fu (0)).bind fun e150 => match e150 with | Sum.inl p => some p | Sum.inr x153 => some (true)))) = some (decide (apartC s.Charts ∧ ∀ x ∈ needL s ++ s.Charts, inB s x)) := by
          rw [rs1_eq hlen hf]
          by_cases ha : apartC s.Charts
          · rw [if_pos ha]
            simp only [Option.bind_some]
            rw [rs3_eq (by rw [List.length_append]; omega) hf]
            by_cases hi : ∀ j, j < (needL s ++ s.Charts).length → inB s (ix (needL s ++ s.Charts) (j : Int))
            · rw [if_pos hi, decide_eq_true (⟨ha, mem_ix.2 hi⟩ : apartC s.Charts ∧ ∀ x ∈ needL s ++ s.Charts, inB s x)]
              rfl
            · rw [if_neg hi, decide_eq_false (fun x : apartC s.Charts ∧ ∀ x ∈ needL s ++ s.Charts, inB s x => hi (mem_ix.1 x.2))]
              rfl
          · rw [if_neg ha, decide_eq_false (fun x : apartC s.Charts ∧ ∀ x ∈ needL s ++ s.Charts, inB s x => ha x.1)]
            rfl
        have same : (s.Tickets.High = 0 → s.Tickets.Top = 0) → (decide (apartC s.Charts ∧ ∀ x ∈ needL s ++ s.Charts, inB s x)) = decide (SupOk s) := by
          intro ht
          apply decide_eq_decide.2
          constructor
          · rintro ⟨ha, hi⟩
            refine ⟨hA, hB, ⟨ht, fun hh => hi _ ?_⟩, fun hd => hi _ ?_, hL, mem_ix.1 fun x hx => hi x (List.mem_append_right _ hx), ha⟩
            · apply List.mem_append_left
              unfold needL
              rw [if_neg hh]
              simp
            · apply List.mem_append_left
              unfold needL
              rw [if_neg hd]
              simp
          · intro h
            refine ⟨h.2.2.2.2.2.2, fun x hx => ?_⟩
            rcases List.mem_append.1 hx with hx | hx
            · unfold needL at hx
              rcases List.mem_append.1 hx with hx | hx
              · by_cases h0 : s.Tickets.High = 0
                · rw [if_pos h0] at hx
                  simp at hx
                · rw [if_neg h0] at hx
                  rw [List.mem_singleton.1 hx]
                  exact h.2.2.1.2 h0
              · by_cases h0 : s.Dir = 0
                · rw [if_pos h0] at hx
                  simp at hx
                · rw [if_neg h0] at hx
                  rw [List.mem_singleton.1 hx]
                  exact h.2.2.2.1 h0
            · exact mem_ix.2 h.2.2.2.2.2.1 x hx
        have l1 : ([] : List Int).length + ([s.Tickets.Top] : List Int).length ≤ LIM := lim_of' (by simp)
        by_cases h0 : s.Tickets.High = 0
        · rw [decide_eq_true h0]
          simp only [if_true]
          by_cases ht : s.Tickets.Top = 0
          · rw [decide_eq_true ht]
            simp only [Bool.not_true, Bool.false_eq_true, if_false, Option.bind_some]
            have hsame := same (fun _ => ht)
            by_cases hd : s.Dir = 0
            · rw [decide_eq_true hd]
              have hneed : needL s = [] := by unfold needL; rw [if_pos h0, if_pos hd]; rfl
              rw [← hsame, ← fin, hneed]
              rfl
            · rw [decide_eq_false hd]
              have hneed : needL s = [] ++ [s.Dir] := by unfold needL; rw [if_pos h0, if_neg hd]
              have l2 : ([] : List Int).length + ([s.Dir] : List Int).length ≤ LIM := lim_of' (by simp)
              rw [← hsame, ← fin, hneed]
              simp only [Bool.not_false, if_true, if_pos l2, Option.bind_some]
              rfl
          · rw [decide_eq_false ht]
            have : ¬ SupOk s := fun x => ht (x.2.2.1.1 h0)
            rw [decide_eq_false this]
            rfl
        · rw [decide_eq_false h0]
          simp only [Bool.false_eq_true, if_false, if_pos l1, Option.bind_some]
          have hsame := same (fun x => absurd x h0)
          by_cases hd : s.Dir = 0
          · rw [decide_eq_true hd]
            have hneed : needL s = [] ++ [s.Tickets.Top] := by unfold needL; rw [if_neg h0, if_pos hd]; rfl
            rw [← hsame, ← fin, hneed]
            rfl
          · rw [decide_eq_false hd]
            have hneed : needL s = [] ++ [s.Tickets.Top] ++ [s.Dir] := by unfold needL; rw [if_neg h0, if_neg hd]; rfl
            have l2 : ([] ++ [s.Tickets.Top] : List Int).length + ([s.Dir] : List Int).length ≤ LIM := lim_of' (by simp)
            rw [← hsame, ← fin, hneed]
            simp only [Bool.not_false, if_true, if_pos l2, Option.bind_some]
            rfl
      · rw [decide_eq_false hL, decide_eq_false (fun x : SupOk s => hL x.2.2.2.2.1)]
        rfl
    · rw [decide_eq_false (fun x : SupOk s => hB x.2.1)]
      unfold supB at hB
      by_cases c3 : s.Tickets.High < 0
      · rw [decide_eq_true c3]
        rfl
      · by_cases c4 : s.Tickets.High > s.Tickets.Geometry.Slots
        · rw [decide_eq_false c3, decide_eq_true c4]
          rfl
        · by_cases c5 : s.Tickets.Free < 0
          · rw [decide_eq_false c3, decide_eq_false c4, decide_eq_true c5]
            rfl
          · have c6 : s.Tickets.Free > s.Tickets.High := by omega
            rw [decide_eq_false c3, decide_eq_false c4, decide_eq_false c5, decide_eq_true c6]
            rfl
  · rw [decide_eq_false (fun x : SupOk s => hA x.1)]
    unfold supA at hA
    by_cases c1 : s.Epoch < 1
    · rw [decide_eq_true c1]
      rfl
    · by_cases c2 : s.Epoch > 4611686018427387904
      · rw [decide_eq_false c1, decide_eq_true c2]
        rfl
      · have c3 : ¬ geoOk s.Tickets.Geometry := fun x => hA ⟨by omega, x⟩
        rw [decide_eq_false c1, decide_eq_false c2, decide_eq_false c3]
        rfl
/-! ### Octets -/
def supH (s : S_api_Super) : List Int := lay (u64n s.Epoch) 8 ++ (lay (u64n s.Tickets.Geometry.Blocks) 4 ++ (lay (u64n s.Tickets.Geometry.Slots) 4 ++ (lay (u64n s.Tickets.Geometry.Gens) 4 ++ (lay (u64n s.Tickets.High) 4 ++ (lay (u64n s.Tickets.Free) 4 ++ (lay (u64n s.Tickets.Top) 2 ++ lay (u64n s.Dir) 2))))))
theorem supH_len (s : S_api_Super) : (supH s).length = 32 := by simp [supH, lay_len]
theorem supH_bytes (s : S_api_Super) : Bytes (supH s) := (lay_bytes _ _).app ((lay_bytes _ _).app ((lay_bytes _ _).app ((lay_bytes _ _).app ((lay_bytes _ _).app ((lay_bytes _ _).app ((lay_bytes _ _).app (lay_bytes _ _)))))))
def supE (s : S_api_Super) : List Int := supH s ++ rowE s.Charts s.Charts.length
theorem supE_len (s : S_api_Super) : (supE s).length = 32 + 2 * s.Charts.length := by simp [supE, supH_len, rowE_len]
theorem supE_bytes (s : S_api_Super) : Bytes (supE s) := (supH_bytes _).app (rowE_bytes _ _)
theorem octets1_eq {fu : Nat} {x : Int} (hf : 100 < fu) : octet_Octets.f fu [(IntKind.u64.wrap x)] = some (lay (u64n x) 8) := by
  unfold octet_Octets.f
  have hl : ∀ z : Int, octet_Lay.f fu (IntKind.u64.wrap z) 8 = some (lay (u64n z) 8) := fun z => olay64 (n := 8) (by decide) (by omega)
  have : loopM (octet_Octets.s0 fu [(IntKind.u64.wrap x)]) fu ([], 0) = some (lay (u64n x) 8) := by
    refine loopM_run (S := fun j => (if j = 0 then [] else lay (u64n x) 8, (j : Int))) 1 rfl ?_ ?_ (by omega)
    · intro j hj
      obtain rfl : j = 0 := by omega
      unfold octet_Octets.s0
      have l0 : (0 : Nat) + 8 ≤ LIM := lim_of' (by decide)
      simp [hl, ix, lay_len, w64, l0]
    · unfold octet_Octets.s0
      simp
  rw [this]
  rfl
def five (s : S_api_Super) (i : Nat) : Int := if i = 0 then s.Tickets.Geometry.Blocks else if i = 1 then s.Tickets.Geometry.Slots else if i = 2 then s.Tickets.Geometry.Gens else if i = 3 then s.Tickets.High else s.Tickets.Free
theorem superPut_eq {fu : Nat} {s : S_api_Super} (hf : 100 < fu) : super_Put.f fu s = some (if SupOk s then (sealed (summed 7 (s.Charts.length : Int) (supE s)), true) else ([], false)) := by
  unfold super_Put.f
  rw [superRight_eq hf]
  by_cases h : SupOk s
  · have k1 := h.len
    have hl4 : ∀ z : Int, octet_Lay.f fu (IntKind.u64.wrap z) 4 = some (lay (u64n z) 4) := fun z => olay64 (n := 4) (by decide) (by omega)
    have hl2 : ∀ z : Int, octet_Lay.f fu (IntKind.u64.wrap z) 2 = some (lay (u64n z) 2) := fun z => olay64 (n := 2) (by decide) (by omega)
    have hg : ∀ j : Nat, j < 5 → Arr.get (Arr.set (Arr.set (Arr.set (Arr.set (Arr.set (Arr.rep 5 (0 : Int)) 0 s.Tickets.Geometry.Blocks) 1 s.Tickets.Geometry.Slots) 2 s.Tickets.Geometry.Gens) 3 s.Tickets.High) 4 s.Tickets.Free) (j : Int) = five s j := by
      intro j hj
      have : j = 0 ∨ j = 1 ∨ j = 2 ∨ j = 3 ∨ j = 4 := by omega
      rcases this with rfl | rfl | rfl | rfl | rfl <;> rfl
    obtain ⟨A, hA⟩ : ∃ A, A = Arr.set (Arr.set (Arr.set (Arr.set (Arr.set (Arr.rep 5 (0 : Int)) 0 s.Tickets.Geometry.Blocks) 1 s.Tickets.Geometry.Slots) 2 s.Tickets.Geometry.Gens) 3 s.Tickets.High) 4 s.Tickets.Free := ⟨_, rfl⟩
    rw [← hA] at hg
    have loop0 : loopM (super_Put.s0 fu s) fu (lay (u64n s.Epoch) 8, 0) = some (lay (u64n s.Epoch) 8 ++ (List.range 5).flatMap fun i => lay (u64n (five s i)) 4) := by
      refine loopM_run (S := fun j => (lay (u64n s.Epoch) 8 ++ (List.range j).flatMap fun i => lay (u64n (five s i)) 4, (j : Int))) 5 (by simp) ?_ ?_ (by omega)
      · intro j hj
        unfold super_Put.s0
        rw [← hA]
        have h1 : (j : Int) < 5 := by omega
        have w3 : IntKind.i64.wrap ((j : Int) + 1) = ((j + 1 : Nat) : Int) := by rw [w64 (by omega) (by omega)]; omega
        have hfl : ((List.range j).flatMap fun i => lay (u64n (five s i)) 4).length = 4 * j := flat_len (fun i => lay_len _ _) j
        have hlim : (lay (u64n s.Epoch) 8 ++ (List.range j).flatMap fun i => lay (u64n (five s i)) 4).length + (lay (u64n (five s j)) 4).length ≤ LIM := lim_of' (by rw [List.length_append, hfl, lay_len, lay_len]; omega)
        simp only [h1, decide_true, if_true, w3, hg j hj, hl4, Option.bind_some]
        rw [if_pos ⟨by omega, trivial⟩, if_pos hlim, flat_succ, List.append_assoc]
      · unfold super_Put.s0
        simp
    have eH : lay (u64n s.Epoch) 8 ++ ((List.range 5).flatMap fun i => lay (u64n (five s i)) 4) ++ rowE ([s.Tickets.Top, s.Dir] ++ s.Charts) (2 + s.Charts.length) = supE s := by
      have e1 : rowE ([s.Tickets.Top, s.Dir] ++ s.Charts) (2 + s.Charts.length) = lay (u64n s.Tickets.Top) 2 ++ (lay (u64n s.Dir) 2 ++ rowE s.Charts s.Charts.length) := by
        unfold rowE
        rw [List.range_add, List.flatMap_append]
        have e0 : (List.range 2).flatMap (fun (i : Nat) => lay (u64n (ix ([s.Tickets.Top, s.Dir] ++ s.Charts) (i : Int))) 2) = lay (u64n s.Tickets.Top) 2 ++ lay (u64n s.Dir) 2 := by
          show lay _ 2 ++ (lay _ 2 ++ []) = _
          rw [List.append_nil]
          rfl
        rw [e0, List.append_assoc]
        congr 2
        rw [List.flatMap_map]
        apply flat_congr
        intro i hi
        congr 2
        unfold ix
        rw [Int.toNat_natCast, Int.toNat_natCast, List.getD_eq_getElem?_getD, List.getD_eq_getElem?_getD, List.getElem?_append_right (by simp)]
        congr 2
        simp
      rw [e1]
      have e2 : (List.range 5).flatMap (fun i => lay (u64n (five s i)) 4) = lay (u64n s.Tickets.Geometry.Blocks) 4 ++ (lay (u64n s.Tickets.Geometry.Slots) 4 ++ (lay (u64n s.Tickets.Geometry.Gens) 4 ++ (lay (u64n s.Tickets.High) 4 ++ lay (u64n s.Tickets.Free) 4))) := by
        show lay _ 4 ++ (lay _ 4 ++ (lay _ 4 ++ (lay _ 4 ++ (lay _ 4 ++ [])))) = _
        rw [List.append_nil]
        rfl
      rw [e2]
      unfold supE supH
      simp only [List.append_assoc]
    have hlen2 : ([s.Tickets.Top, s.Dir] ++ s.Charts).length = 2 + s.Charts.length := by simp; omega
    have h5 : (lay (u64n s.Epoch) 8 ++ (List.range 5).flatMap fun i => lay (u64n (five s i)) 4).length = 28 := by
      rw [List.length_append, lay_len, flat_len (w := 4) (fun i => lay_len _ _)]
    have loop1 : loopM (super_Put.s1 fu s) fu (lay (u64n s.Epoch) 8 ++ (List.range 5).flatMap fun i => lay (u64n (five s i)) 4, 0) = some (supE s) := by
      refine loopM_run (S := fun j => (lay (u64n s.Epoch) 8 ++ ((List.range 5).flatMap fun i => lay (u64n (five s i)) 4) ++ rowE ([s.Tickets.Top, s.Dir] ++ s.Charts) j, (j : Int))) (2 + s.Charts.length) (by simp [rowE]) ?_ ?_ (by omega)
      · intro j hj
        unfold super_Put.s1
        have h1 : (j : Int) < (([s.Tickets.Top, s.Dir] ++ s.Charts).length : Int) := by omega
        have c0 : 0 ≤ (j : Int) := by omega
        have w3 : IntKind.i64.wrap ((j : Int) + 1) = ((j + 1 : Nat) : Int) := by rw [w64 (by omega) (by omega)]; omega
        have hlim : (lay (u64n s.Epoch) 8 ++ ((List.range 5).flatMap fun i => lay (u64n (five s i)) 4) ++ rowE ([s.Tickets.Top, s.Dir] ++ s.Charts) j).length + (lay (u64n (ix ([s.Tickets.Top, s.Dir] ++ s.Charts) (j : Int))) 2).length ≤ LIM := lim_of' (by rw [List.length_append, h5, rowE_len, lay_len]; omega)
        simp only [h1, c0, and_self, decide_true, if_true, w3, hl2, Option.bind_some]
        rw [if_pos hlim, List.append_assoc]
        congr 4
        rw [rowE, rowE, flat_succ]
      · unfold super_Put.s1
        rw [hlen2, eH]
        simp
    have hlim3 : ([s.Tickets.Top, s.Dir] : List Int).length + s.Charts.length ≤ LIM := lim_of' (by simp; omega)
    have hs := seal_eq (fu := fu) (k := 7) (t := (s.Charts.length : Int)) (supE_bytes s) (by omega) (by omega) (by rw [supE_len]; omega) hf
    simp only [h, decide_true, Bool.not_true, Bool.false_eq_true, if_false, octets1_eq hf, Option.bind_some, loop0, if_pos hlim3, loop1, hs, if_true]
  · simp [h]
theorem rsuperPut_eq {fu : Nat} {s : S_api_Super} (hk : s.Charts.length ≤ 8) (hf : 100 < fu) : rickyardref13_Put.f fu s = some ((sealed (summed 7 (s.Charts.length : Int) (supE s))).map toB) := by
  unfold rickyardref13_Put.f
  have hl8 : ∀ z : Int, rickyardref01_Lay.f fu (IntKind.u64.wrap z) 8 = some ((lay (u64n z) 8).map toB) := fun z => rlay64 (n := 8) (by decide) (by omega)
  have hl4 : ∀ z : Int, rickyardref01_Lay.f fu (IntKind.u64.wrap z) 4 = some ((lay (u64n z) 4).map toB) := fun z => rlay64 (n := 4) (by decide) (by omega)
  have hl2 : ∀ z : Int, rickyardref01_Lay.f fu (IntKind.u64.wrap z) 2 = some ((lay (u64n z) 2).map toB) := fun z => rlay64 (n := 2) (by decide) (by omega)
  have e0 : (lay (u64n s.Epoch) 8).map toB ++ (lay (u64n s.Tickets.Geometry.Blocks) 4).map toB ++ (lay (u64n s.Tickets.Geometry.Slots) 4).map toB ++ (lay (u64n s.Tickets.Geometry.Gens) 4).map toB ++ (lay (u64n s.Tickets.High) 4).map toB ++ (lay (u64n s.Tickets.Free) 4).map toB ++ (lay (u64n s.Tickets.Top) 2).map toB ++ (lay (u64n s.Dir) 2).map toB = (supH s).map toB := by simp [supH]
  have lm : ∀ v n, ((lay v n).map toB).length = n := fun v n => by rw [List.length_map, lay_len]
  have lim : ∀ {a : List UInt8} {b : List UInt8}, a.length + b.length ≤ 1000 → a.length + b.length ≤ LIM := fun h => lim_of' h
  have hloop : loopM (rickyardref13_Put.s0 fu s) fu ((supH s).map toB, 0) = some ((supE s).map toB) := by
    refine loopM_run (S := fun j => ((supH s ++ rowE s.Charts j).map toB, (j : Int))) s.Charts.length (by simp [rowE]) ?_ ?_ (by omega)
    · intro j hj
      unfold rickyardref13_Put.s0
      have h1 : (j : Int) < (s.Charts.length : Int) := by omega
      have c0 : 0 ≤ (j : Int) := by omega
      have w3 : IntKind.i64.wrap ((j : Int) + 1) = ((j + 1 : Nat) : Int) := by rw [w64 (by omega) (by omega)]; omega
      have hlim : ((supH s ++ rowE s.Charts j).map toB).length + ((lay (u64n (ix s.Charts (j : Int))) 2).map toB).length ≤ LIM := lim_of' (by rw [List.length_map, List.length_map, List.length_append, supH_len, rowE_len, lay_len]; omega)
      simp only [h1, c0, and_self, decide_true, if_true, w3, hl2, Option.bind_some, hlim]
      rw [← List.map_append, List.append_assoc]
      congr 5
      rw [rowE, rowE, flat_succ]
    · unfold rickyardref13_Put.s0
      simp [supE]
  have hs := rseal_eq (fu := fu) (k := 7) (t := (s.Charts.length : Int)) (supE_bytes s) (by omega) (by omega) (by rw [supE_len]; omega) hf
  simp only [hl8, hl4, hl2, Option.bind_some]
  rw [if_pos (lim (by simp only [List.length_append, lm]; decide)), if_pos (lim (by simp only [List.length_append, lm]; decide)), if_pos (lim (by simp only [List.length_append, lm]; decide)), if_pos (lim (by simp only [List.length_append, lm]; decide)), if_pos (lim (by simp only [List.length_append, lm]; decide)), if_pos (lim (by simp only [List.length_append, lm]; decide)), if_pos (lim (by simp only [List.length_append, lm]; decide)), e0, hloop, Option.bind_some, hs]
  rfl
end Go.Proofs.Ytjhajfkfhdnciaa.Pure

/- Superblocks in plain words: what octets tell. -/
set_option linter.unusedVariables false
set_option linter.unusedSimpArgs false
namespace Go.Proofs.Ytjhajfkfhdnciaa.Pure
open Go Go.Xw
theorem part_drop (l : List Int) (i n : Nat) : part (l.drop i) 0 n = part l i n := by
  unfold part
  rw [List.drop_zero]
theorem intAt_drop (l : List Int) (i n : Nat) : intAt (l.drop i) 0 n = intAt l i n := by
  unfold intAt
  rw [part_drop]
theorem next_eq {fu : Nat} {b : List Int} {i n : Nat} (hb : Bytes b) (h : i + n ≤ b.length) (hn : n ≤ 8) (hf : 100 < fu) : super_reader_next.f fu ⟨b.drop i⟩ (n : Int) = some (intAt b i n, ⟨b.drop (i + n)⟩) := by
  unfold super_reader_next.f
  have hl : (b.drop i).length = b.length - i := List.length_drop
  have c1 : 0 ≤ (n : Int) ∧ (n : Int) ≤ ((b.drop i).length : Int) := by omega
  have e0 : cut (b.drop i) 0 (n : Int) = part b i n := by unfold cut part; simp
  have e1 : cut (b.drop i) (n : Int) ((b.drop i).length : Int) = b.drop (i + n) := by
    unfold cut
    rw [Int.toNat_natCast, Int.toNat_natCast, List.take_length, List.drop_drop]
  have hr : octet_Read.f fu (part b i n) = some ((num (part b i n) : Nat) : Int) := read_eq (part_bytes hb i n) (by rw [part_len h]; exact hn) (by rw [part_len h]; omega)
  simp only [if_pos c1, e0, e1, hr, Option.bind_some]
  rfl
def chartsOf (body : List Int) (t : Nat) : List Int := (List.range t).map fun i => intAt body (32 + 2 * i) 2
def supOf (body : List Int) (t : Nat) : S_api_Super := ⟨intAt body 0 8, ⟨⟨intAt body 8 4, intAt body 12 4, intAt body 16 4⟩, intAt body 28 2, intAt body 20 4, intAt body 24 4⟩, intAt body 30 2, chartsOf body t⟩
theorem supE_of {body : List Int} (hb : Bytes body) {t : Nat} (h : 32 + 2 * t ≤ body.length) : supE (supOf body t) = body.take (32 + 2 * t) := by
  have e1 : rowE (chartsOf body t) t = (body.drop 32).take (2 * t) := by
    rw [← field_flat (w := 2) t (by rw [List.length_drop]; omega)]
    apply flat_congr
    intro i hi
    unfold chartsOf
    rw [ix_map hi, lay_part hb (by omega) (by decide)]
    unfold part fieldAt
    rw [List.drop_drop]
  have hk : (chartsOf body t).length = t := by simp [chartsOf]
  have e2 : supH (supOf body t) = body.take 32 := by
    unfold supH supOf
    simp only
    rw [lay_part hb (by omega) (by decide), lay_part hb (by omega) (by decide), lay_part hb (by omega) (by decide), lay_part hb (by omega) (by decide), lay_part hb (by omega) (by decide), lay_part hb (by omega) (by decide), lay_part hb (by omega) (by decide), lay_part hb (by omega) (by decide)]
    unfold part
    rw [show (32 : Nat) = 0 + 8 + 4 + 4 + 4 + 4 + 4 + 2 + 2 from rfl, List.take_add, List.take_add, List.take_add, List.take_add, List.take_add, List.take_add, List.take_add, List.take_add]
    simp
  unfold supE
  have hk2 : (supOf body t).Charts = chartsOf body t := rfl
  rw [hk2, hk, e1, e2, List.take_add]
theorem supOf_E {s : S_api_Super} (h : SupOk s) (t : List Int) : supOf (supE s ++ t) s.Charts.length = s := by
  have hlen := h.len
  have hA := h.1
  have hB := h.2.1
  have hT := h.2.2.1
  have hD := h.2.2.2.1
  have hI := h.2.2.2.2.2.1
  unfold supA geoOk at hA
  unfold supB at hB
  have hTop : 0 ≤ s.Tickets.Top ∧ s.Tickets.Top ≤ 3072 := by
    by_cases h0 : s.Tickets.High = 0
    · have := hT.1 h0
      omega
    · have := hT.2 h0
      unfold inB at this
      omega
  have hDir : 0 ≤ s.Dir ∧ s.Dir ≤ 3072 := by
    by_cases h0 : s.Dir = 0
    · omega
    · have := hD h0
      unfold inB at this
      omega
  obtain ⟨R, hR⟩ : ∃ R, R = rowE s.Charts s.Charts.length ++ t := ⟨_, rfl⟩
  have e : supE s ++ t = lay (u64n s.Epoch) 8 ++ (lay (u64n s.Tickets.Geometry.Blocks) 4 ++ (lay (u64n s.Tickets.Geometry.Slots) 4 ++ (lay (u64n s.Tickets.Geometry.Gens) 4 ++ (lay (u64n s.Tickets.High) 4 ++ (lay (u64n s.Tickets.Free) 4 ++ (lay (u64n s.Tickets.Top) 2 ++ (lay (u64n s.Dir) 2 ++ R))))))) := by
    rw [hR]
    simp [supE, supH]
  have l8 : ∀ v, (lay v 8).length = 8 := fun v => lay_len v 8
  have l4 : ∀ v, (lay v 4).length = 4 := fun v => lay_len v 4
  have l2 : ∀ v, (lay v 2).length = 2 := fun v => lay_len v 2
  have d8 : (supE s ++ t).drop 8 = (lay (u64n s.Tickets.Geometry.Blocks) 4 ++ (lay (u64n s.Tickets.Geometry.Slots) 4 ++ (lay (u64n s.Tickets.Geometry.Gens) 4 ++ (lay (u64n s.Tickets.High) 4 ++ (lay (u64n s.Tickets.Free) 4 ++ (lay (u64n s.Tickets.Top) 2 ++ (lay (u64n s.Dir) 2 ++ R))))))) := by rw [e, List.drop_left' (l8 _)]
  have d12 : (supE s ++ t).drop 12 = (lay (u64n s.Tickets.Geometry.Slots) 4 ++ (lay (u64n s.Tickets.Geometry.Gens) 4 ++ (lay (u64n s.Tickets.High) 4 ++ (lay (u64n s.Tickets.Free) 4 ++ (lay (u64n s.Tickets.Top) 2 ++ (lay (u64n s.Dir) 2 ++ R)))))) := by rw [show (12 : Nat) = 8 + 4 from rfl, ← List.drop_drop, d8, List.drop_left' (l4 _)]
  have d16 : (supE s ++ t).drop 16 = (lay (u64n s.Tickets.Geometry.Gens) 4 ++ (lay (u64n s.Tickets.High) 4 ++ (lay (u64n s.Tickets.Free) 4 ++ (lay (u64n s.Tickets.Top) 2 ++ (lay (u64n s.Dir) 2 ++ R))))) := by rw [show (16 : Nat) = 12 + 4 from rfl, ← List.drop_drop, d12, List.drop_left' (l4 _)]
  have d20 : (supE s ++ t).drop 20 = (lay (u64n s.Tickets.High) 4 ++ (lay (u64n s.Tickets.Free) 4 ++ (lay (u64n s.Tickets.Top) 2 ++ (lay (u64n s.Dir) 2 ++ R)))) := by rw [show (20 : Nat) = 16 + 4 from rfl, ← List.drop_drop, d16, List.drop_left' (l4 _)]
  have d24 : (supE s ++ t).drop 24 = (lay (u64n s.Tickets.Free) 4 ++ (lay (u64n s.Tickets.Top) 2 ++ (lay (u64n s.Dir) 2 ++ R))) := by rw [show (24 : Nat) = 20 + 4 from rfl, ← List.drop_drop, d20, List.drop_left' (l4 _)]
  have d28 : (supE s ++ t).drop 28 = (lay (u64n s.Tickets.Top) 2 ++ (lay (u64n s.Dir) 2 ++ R)) := by rw [show (28 : Nat) = 24 + 4 from rfl, ← List.drop_drop, d24, List.drop_left' (l4 _)]
  have d30 : (supE s ++ t).drop 30 = (lay (u64n s.Dir) 2 ++ R) := by rw [show (30 : Nat) = 28 + 2 from rfl, ← List.drop_drop, d28, List.drop_left' (l2 _)]
  have d32 : (supE s ++ t).drop 32 = R := by rw [show (32 : Nat) = 30 + 2 from rfl, ← List.drop_drop, d30, List.drop_left' (l2 _)]
  have q8 : (256 : Nat) ^ 8 = 18446744073709551616 := by decide
  have q4 : (256 : Nat) ^ 4 = 4294967296 := by decide
  have q2 : (256 : Nat) ^ 2 = 65536 := by decide
  have val : ∀ (i n : Nat) (x : Int), part (supE s ++ t) i n = lay (u64n x) n → 0 ≤ x → x < ((256 ^ n : Nat) : Int) → x ≤ 9223372036854775807 → intAt (supE s ++ t) i n = x := by
    intro i n x hp h0 h1 h2
    unfold intAt
    rw [hp, num_lay, u64n_of h0 (by omega), Nat.mod_eq_of_lt (by omega), Int.toNat_of_nonneg h0, w64 (by omega) h2]
  have p0 : part (supE s ++ t) 0 8 = lay (u64n s.Epoch) 8 := by unfold part; rw [List.drop_zero, e, List.take_left' (l8 _)]
  have p8 : part (supE s ++ t) 8 4 = lay (u64n s.Tickets.Geometry.Blocks) 4 := by unfold part; rw [d8, List.take_left' (l4 _)]
  have p12 : part (supE s ++ t) 12 4 = lay (u64n s.Tickets.Geometry.Slots) 4 := by unfold part; rw [d12, List.take_left' (l4 _)]
  have p16 : part (supE s ++ t) 16 4 = lay (u64n s.Tickets.Geometry.Gens) 4 := by unfold part; rw [d16, List.take_left' (l4 _)]
  have p20 : part (supE s ++ t) 20 4 = lay (u64n s.Tickets.High) 4 := by unfold part; rw [d20, List.take_left' (l4 _)]
  have p24 : part (supE s ++ t) 24 4 = lay (u64n s.Tickets.Free) 4 := by unfold part; rw [d24, List.take_left' (l4 _)]
  have p28 : part (supE s ++ t) 28 2 = lay (u64n s.Tickets.Top) 2 := by unfold part; rw [d28, List.take_left' (l2 _)]
  have p30 : part (supE s ++ t) 30 2 = lay (u64n s.Dir) 2 := by unfold part; rw [d30, List.take_left' (l2 _)]
  have i0 := val 0 8 _ p0 (by omega) (by omega) (by omega)
  have i8 := val 8 4 _ p8 (by omega) (by omega) (by omega)
  have i12 := val 12 4 _ p12 (by omega) (by omega) (by omega)
  have i16 := val 16 4 _ p16 (by omega) (by omega) (by omega)
  have i20 := val 20 4 _ p20 (by omega) (by omega) (by omega)
  have i24 := val 24 4 _ p24 (by omega) (by omega) (by omega)
  have i28 := val 28 2 _ p28 (by omega) (by omega) (by omega)
  have i30 := val 30 2 _ p30 (by omega) (by omega) (by omega)
  have ik : chartsOf (supE s ++ t) s.Charts.length = s.Charts := by
    apply ix_ext (by simp [chartsOf])
    intro i hi
    have hi' : i < s.Charts.length := by simpa [chartsOf] using hi
    unfold chartsOf
    rw [ix_map hi']
    have hp : part (supE s ++ t) (32 + 2 * i) 2 = lay (u64n (ix s.Charts (i : Int))) 2 := by
      unfold part
      rw [← List.drop_drop, d32, hR]
      exact flat_field (fun i => lay_len _ _) hi' t
    have := hI i hi'
    unfold inB at this
    exact val _ 2 _ hp (by omega) (by omega) (by omega)
  unfold supOf
  rw [i0, i8, i12, i16, i20, i24, i28, i30, ik]
def noU : S_api_Super := ⟨0, ⟨⟨0, 0, 0⟩, 0, 0, 0⟩, 0, []⟩
def GetU (b : List Int) : Prop := Is b ∧ ix b 4 = 7 ∧ ix b 5 ≤ 8 ∧ SupOk (supOf (b.drop 8) (ix b 5).toNat) ∧ ∀ y ∈ (b.drop 8).drop (32 + 2 * (ix b 5).toNat), y = 0
instance (b : List Int) : Decidable (GetU b) := inferInstanceAs (Decidable (_ ∧ _))
theorem superGet_eq {fu : Nat} {b : List Int} (hb : Bytes b) (hl : b.length ≤ 9000000000000000000) (hf : 100 < fu) : super_Get.f fu b = some (if GetU b then (supOf (b.drop 8) (ix b 5).toNat, true) else (noU, false)) := by
  unfold super_Get.f
  rw [open_eq hb hl hf]
  by_cases hi : Is b
  · have h8 := is_body hi
    obtain ⟨b4, b5⟩ := is_tag hb hi
    rw [if_pos hi]
    simp only [Option.bind_some, Bool.not_true, Bool.false_eq_true, if_false]
    by_cases h4 : ix b 4 = 7
    · by_cases h5 : ix b 5 ≤ 8
      · have h5' : ¬ ix b 5 > 8 := by omega
        obtain ⟨t, ht⟩ : ∃ t : Nat, ix b 5 = (t : Int) := ⟨(ix b 5).toNat, by omega⟩
        have hbd := hb.drop 8
        obtain ⟨body, hbody⟩ : ∃ body, body = b.drop 8 := ⟨_, rfl⟩
        rw [← hbody] at h8 hbd
        have n0 : super_reader_next.f fu ⟨body⟩ 8 = some (intAt body 0 8, ⟨body.drop 8⟩) := next_eq (i := 0) (n := 8) hbd (by omega) (by decide) hf
        have n8 : super_reader_next.f fu ⟨body.drop 8⟩ 4 = some (intAt body 8 4, ⟨body.drop 12⟩) := next_eq (i := 8) (n := 4) hbd (by omega) (by decide) hf
        have n12 : super_reader_next.f fu ⟨body.drop 12⟩ 4 = some (intAt body 12 4, ⟨body.drop 16⟩) := next_eq (i := 12) (n := 4) hbd (by omega) (by decide) hf
        have n16 : super_reader_next.f fu ⟨body.drop 16⟩ 4 = some (intAt body 16 4, ⟨body.drop 20⟩) := next_eq (i := 16) (n := 4) hbd (by omega) (by decide) hf
        have n20 : super_reader_next.f fu ⟨body.drop 20⟩ 4 = some (intAt body 20 4, ⟨body.drop 24⟩) := next_eq (i := 20) (n := 4) hbd (by omega) (by decide) hf
        have n24 : super_reader_next.f fu ⟨body.drop 24⟩ 4 = some (intAt body 24 4, ⟨body.drop 28⟩) := next_eq (i := 24) (n := 4) hbd (by omega) (by decide) hf
        have n28 : super_reader_next.f fu ⟨body.drop 28⟩ 2 = some (intAt body 28 2, ⟨body.drop 30⟩) := next_eq (i := 28) (n := 2) hbd (by omega) (by decide) hf
        have n30 : super_reader_next.f fu ⟨body.drop 30⟩ 2 = some (intAt body 30 2, ⟨body.drop 32⟩) := next_eq (i := 30) (n := 2) hbd (by omega) (by decide) hf
        have hloop : loopM (super_Get.s0 fu (ix b 4, ix b 5, body, true)) fu (0, [], body.drop 32) = some (chartsOf body t, body.drop (32 + 2 * t)) := by
          refine loopM_run (S := fun j => ((j : Int), chartsOf body j, body.drop (32 + 2 * j))) t (by simp [chartsOf]) ?_ ?_ (by omega)
          · intro j hj
            unfold super_Get.s0
            have h1 : (j : Int) < ix b 5 := by omega
            have w3 : IntKind.i64.wrap ((j : Int) + 1) = ((j + 1 : Nat) : Int) := by rw [w64 (by omega) (by omega)]; omega
            have hn : super_reader_next.f fu ⟨body.drop (32 + 2 * j)⟩ 2 = some (intAt body (32 + 2 * j) 2, ⟨body.drop (32 + 2 * j + 2)⟩) := next_eq (n := 2) hbd (by omega) (by decide) hf
            have hlim : (chartsOf body j).length + ([intAt body (32 + 2 * j) 2] : List Int).length ≤ LIM := lim_of' (by simp [chartsOf]; omega)
            simp only [h1, decide_true, if_true, w3, hn, Option.bind_some, hlim]
            simp [chartsOf, List.range_succ, Nat.mul_add, Nat.add_assoc]
          · unfold super_Get.s0
            simp [ht]
        have hrl : (body.drop (32 + 2 * t)).length = 56 - (32 + 2 * t) := by rw [List.length_drop, h8]
        have hn := noughts_eq (fu := fu) (b := body.drop (32 + 2 * t)) (i := 0) (n := 56 - (32 + 2 * t)) (by omega) (by omega) (by omega)
        have e8 : ((body.drop (32 + 2 * t)).drop 0).take (56 - (32 + 2 * t)) = body.drop (32 + 2 * t) := by rw [List.drop_zero]; exact List.take_of_length_le (by omega)
        rw [e8, ← hrl] at hn
        have hn' := hn
        rw [show ((0 : Nat) : Int) = 0 from rfl] at hn'
        have hN : (⟨intAt body 0 8, ⟨⟨intAt body 8 4, intAt body 12 4, intAt body 16 4⟩, intAt body 28 2, intAt body 20 4, intAt body 24 4⟩, intAt body 30 2, chartsOf body t⟩ : S_api_Super) = supOf body t := rfl
        rw [← hbody]
        simp only [h4, h5', decide_true, decide_false, Bool.not_true, Bool.false_eq_true, if_false] at hloop ⊢
        simp only [n0, n8, n12, n16, n20, n24, n28, n30, Option.bind_some, hloop]
        simp only [hn', hN, superRight_eq hf, Option.bind_some]
        have hgi : GetU b ↔ (SupOk (supOf body t) ∧ ∀ y ∈ body.drop (32 + 2 * t), y = 0) := by
          unfold GetU
          rw [ht, ← hbody, Int.toNat_natCast]
          exact ⟨fun x => x.2.2.2, fun x => ⟨hi, h4, by omega, x⟩⟩
        rw [ht, Int.toNat_natCast]
        by_cases hr : SupOk (supOf body t)
        · by_cases hz : ∀ y ∈ body.drop (32 + 2 * t), y = 0
          · rw [if_pos (hgi.2 ⟨hr, hz⟩), decide_eq_true hr, decide_eq_true hz]
            rfl
          · rw [if_neg (fun x => hz (hgi.1 x).2), decide_eq_true hr, decide_eq_false hz]
            rfl
        · rw [if_neg (fun x => hr (hgi.1 x).1), decide_eq_false hr]
          rfl
      · have h5' : ix b 5 > 8 := by omega
        have hg : ¬ GetU b := fun x => h5 x.2.2.1
        rw [if_neg hg, decide_eq_true h4, decide_eq_true h5']
        rfl
    · have hg : ¬ GetU b := fun x => h4 x.2.1
      rw [if_neg hg, decide_eq_false h4]
      rfl
  · have hg : ¬ GetU b := fun x => hi x.1
    rw [if_neg hi, if_neg hg]
    rfl
theorem rsuperGet_eq {fu : Nat} {b : List Int} (hb : Bytes b) (hf : 100 < fu) : rickyardref13_Get.f fu b = some (if GetU b then (supOf (b.drop 8) (ix b 5).toNat, true) else (noU, false)) := by
  unfold rickyardref13_Get.f
  rw [ropen_eq hb hf]
  by_cases hi : Is b
  · have h8 := is_body hi
    obtain ⟨b4, b5⟩ := is_tag hb hi
    rw [if_pos hi]
    simp only [Option.bind_some, Bool.not_true, Bool.false_eq_true, if_false]
    by_cases h4 : ix b 4 = 7
    · by_cases h5 : ix b 5 ≤ 8
      · have h5' : ¬ ix b 5 > 8 := by omega
        obtain ⟨t, ht⟩ : ∃ t : Nat, ix b 5 = (t : Int) := ⟨(ix b 5).toNat, by omega⟩
        have hbd := hb.drop 8
        obtain ⟨body, hbody⟩ : ∃ body, body = b.drop 8 := ⟨_, rfl⟩
        have hq0 : ∀ {k tg : Int} {bd : List Int}, (0 ≤ k ∧ k ≤ 255) → (0 ≤ tg ∧ tg ≤ 255) → Bytes bd → bd.length ≤ 56 → ((sealed (summed k tg bd)).map toB = b.map toB ↔ k = ix b 4 ∧ tg = ix b 5 ∧ bd ++ List.replicate (56 - bd.length) 0 = b.drop 8) := fun h1 h2 h3 h4 => sealed_map_iff hb hi h1 h2 h3 h4
        rw [← hbody] at h8 hbd
        have n0 : rickyardref01_Int.f fu (cut (body.map toB) 0 8) = some (intAt body 0 8) := rintAt_eq (i := 0) (n := 8) hbd (by omega) (by decide) hf
        have n8 : rickyardref01_Int.f fu (cut (body.map toB) 8 12) = some (intAt body 8 4) := rintAt_eq (i := 8) (n := 4) hbd (by omega) (by decide) hf
        have n12 : rickyardref01_Int.f fu (cut (body.map toB) 12 16) = some (intAt body 12 4) := rintAt_eq (i := 12) (n := 4) hbd (by omega) (by decide) hf
        have n16 : rickyardref01_Int.f fu (cut (body.map toB) 16 20) = some (intAt body 16 4) := rintAt_eq (i := 16) (n := 4) hbd (by omega) (by decide) hf
        have n20 : rickyardref01_Int.f fu (cut (body.map toB) 20 24) = some (intAt body 20 4) := rintAt_eq (i := 20) (n := 4) hbd (by omega) (by decide) hf
        have n24 : rickyardref01_Int.f fu (cut (body.map toB) 24 28) = some (intAt body 24 4) := rintAt_eq (i := 24) (n := 4) hbd (by omega) (by decide) hf
        have n28 : rickyardref01_Int.f fu (cut (body.map toB) 28 30) = some (intAt body 28 2) := rintAt_eq (i := 28) (n := 2) hbd (by omega) (by decide) hf
        have n30 : rickyardref01_Int.f fu (cut (body.map toB) 30 32) = some (intAt body 30 2) := rintAt_eq (i := 30) (n := 2) hbd (by omega) (by decide) hf
        have hloop : loopM (rickyardref13_Get.s0 fu (ix b 4, ix b 5, body.map toB, true)) fu (0, []) = some (chartsOf body t) := by
          refine loopM_run (S := fun j => ((j : Int), chartsOf body j)) t (by simp [chartsOf]) ?_ ?_ (by omega)
          · intro j hj
            unfold rickyardref13_Get.s0
            have h1 : (j : Int) < ix b 5 := by omega
            have w3 : IntKind.i64.wrap ((j : Int) + 1) = ((j + 1 : Nat) : Int) := by rw [w64 (by omega) (by omega)]; omega
            have w4 : IntKind.i64.wrap (2 * (j : Int)) = ((2 * j : Nat) : Int) := by rw [w64 (by omega) (by omega)]; omega
            have w5 : IntKind.i64.wrap (32 + ((2 * j : Nat) : Int)) = ((32 + 2 * j : Nat) : Int) := by rw [w64 (by omega) (by omega)]; omega
            have w6 : IntKind.i64.wrap (34 + ((2 * j : Nat) : Int)) = ((32 + 2 * j + 2 : Nat) : Int) := by rw [w64 (by omega) (by omega)]; omega
            have hn : rickyardref01_Int.f fu (cut (body.map toB) ((32 + 2 * j : Nat) : Int) ((32 + 2 * j + 2 : Nat) : Int)) = some (intAt body (32 + 2 * j) 2) := rintAt_eq (n := 2) hbd (by omega) (by decide) hf
            have hlim : (chartsOf body j).length + ([intAt body (32 + 2 * j) 2] : List Int).length ≤ LIM := lim_of' (by simp [chartsOf]; omega)
            have c1 : (0 : Int) ≤ ((32 + 2 * j : Nat) : Int) ∧ ((32 + 2 * j : Nat) : Int) ≤ ((32 + 2 * j + 2 : Nat) : Int) ∧ ((32 + 2 * j + 2 : Nat) : Int) ≤ ((body.map toB).length : Int) := by rw [List.length_map]; omega
            simp only [h1, decide_true, if_true, w3, w4, w5, w6, hn, Option.bind_some, hlim, if_pos c1]
            simp [chartsOf, List.range_succ]
          · unfold rickyardref13_Get.s0
            simp [ht]
        have hN : (⟨intAt body 0 8, ⟨⟨intAt body 8 4, intAt body 12 4, intAt body 16 4⟩, intAt body 28 2, intAt body 20 4, intAt body 24 4⟩, intAt body 30 2, chartsOf body t⟩ : S_api_Super) = supOf body t := rfl
        have hkl : (supOf body t).Charts.length = t := by simp [supOf, chartsOf]
        have hgi : GetU b ↔ (SupOk (supOf body t) ∧ ∀ y ∈ body.drop (32 + 2 * t), y = 0) := by
          unfold GetU
          rw [ht, ← hbody, Int.toNat_natCast]
          exact ⟨fun x => x.2.2.2, fun x => ⟨hi, h4, by omega, x⟩⟩
        have cl : ((body.map toB).length : Int) = 56 := by rw [List.length_map]; omega
        rw [← hbody]
        simp only [h4, h5', decide_true, decide_false, Bool.not_true, Bool.false_eq_true, if_false] at hloop ⊢
        have k8 : (8 : Int) ≤ ((body.map toB).length : Int) := by omega
        have k12 : (12 : Int) ≤ ((body.map toB).length : Int) := by omega
        have k16 : (16 : Int) ≤ ((body.map toB).length : Int) := by omega
        have k20 : (20 : Int) ≤ ((body.map toB).length : Int) := by omega
        have k24 : (24 : Int) ≤ ((body.map toB).length : Int) := by omega
        have k28 : (28 : Int) ≤ ((body.map toB).length : Int) := by omega
        have k30 : (30 : Int) ≤ ((body.map toB).length : Int) := by omega
        have k32 : (32 : Int) ≤ ((body.map toB).length : Int) := by omega
        simp only [n0, n8, n12, n16, n20, n24, n28, n30, Option.bind_some, hloop, if_pos k8, if_pos k12, if_pos k16, if_pos k20, if_pos k24, if_pos k28, if_pos k30, if_pos k32]
        have hput := rsuperPut_eq (fu := fu) (s := supOf body t) (by rw [hkl]; omega) hf
        simp only [hN, rsuperRight_eq hf, hput, Option.bind_some]
        have hel := supE_len (supOf body t)
        rw [hkl] at hel
        have hq := hq0 (k := 7) (tg := (t : Int)) (bd := supE (supOf body t)) (by omega) (by omega) (supE_bytes _) (by omega)
        have hfl := full_iff (body := supE (supOf body t)) (full := body) (by omega) h8
        rw [← hbody] at hq
        rw [hel, supE_of hbd (show 32 + 2 * t ≤ body.length by omega)] at hfl
        rw [hel, supE_of hbd (show 32 + 2 * t ≤ body.length by omega)] at hq
        rw [hkl, supE_of hbd (show 32 + 2 * t ≤ body.length by omega), ht, Int.toNat_natCast]
        by_cases hr : SupOk (supOf body t)
        · by_cases hz : ∀ y ∈ body.drop (32 + 2 * t), y = 0
          · rw [if_pos (hgi.2 ⟨hr, hz⟩), decide_eq_true hr, decide_eq_true (hq.2 ⟨h4.symm, ht.symm, hfl.2 ⟨rfl, hz⟩⟩)]
            rfl
          · rw [if_neg (fun x => hz (hgi.1 x).2), decide_eq_true hr, decide_eq_false (fun x => hz (hfl.1 (hq.1 x).2.2).2)]
            rfl
        · rw [if_neg (fun x => hr (hgi.1 x).1), decide_eq_false hr]
          rfl
      · have h5' : ix b 5 > 8 := by omega
        have hg : ¬ GetU b := fun x => h5 x.2.2.1
        rw [if_neg hg, decide_eq_true h4, decide_eq_true h5']
        rfl
    · have hg : ¬ GetU b := fun x => h4 x.2.1
      rw [if_neg hg, decide_eq_false h4]
      rfl
  · have hg : ¬ GetU b := fun x => hi x.1
    rw [if_neg hi, if_neg hg]
    rfl
theorem sup_get {s : S_api_Super} (h : SupOk s) : GetU (sealed (summed 7 (s.Charts.length : Int) (supE s))) ∧ supOf ((sealed (summed 7 (s.Charts.length : Int) (supE s))).drop 8) (ix (sealed (summed 7 (s.Charts.length : Int) (supE s))) 5).toNat = s := by
  have k1 := h.len
  have hl := supE_len s
  obtain ⟨p4, p5, p8⟩ := sealed_parts 7 (s.Charts.length : Int) (supE s)
  have hno := supOf_E h (List.replicate (56 - (supE s).length) 0)
  refine ⟨⟨is_sealed (by decide) (by omega), p4, by rw [p5]; omega, ?_, ?_⟩, by rw [p8, p5, Int.toNat_natCast, hno]⟩
  · rw [p8, p5, Int.toNat_natCast, hno]
    exact h
  · rw [p8, p5, Int.toNat_natCast, ← hl, List.drop_left' rfl]
    intro y hy
    exact List.eq_of_mem_replicate hy
theorem sup_sealed {s : S_api_Super} (h : SupOk s) : Bytes (sealed (summed 7 (s.Charts.length : Int) (supE s))) ∧ (sealed (summed 7 (s.Charts.length : Int) (supE s))).length = 64 := by
  have k1 := h.len
  have hl := supE_len s
  exact ⟨sealed_bytes (summed_bytes (by omega) (by omega) (supE_bytes s)), sealed_len (summed_len (by omega))⟩
theorem superGet_put {fu : Nat} {s : S_api_Super} (h : SupOk s) (hf : 100 < fu) : super_Get.f fu (sealed (summed 7 (s.Charts.length : Int) (supE s))) = some (s, true) := by
  obtain ⟨h1, h2⟩ := sup_sealed h
  obtain ⟨h3, h4⟩ := sup_get h
  rw [superGet_eq h1 (by omega) hf, if_pos h3, h4]
theorem same_sup {a b : S_api_Super} : (a = b) ↔ a.Epoch = b.Epoch ∧ a.Tickets = b.Tickets ∧ a.Dir = b.Dir ∧ a.Charts = b.Charts := by
  cases a
  cases b
  simp
theorem same_tick {a b : S_api_Tickets} : (a = b) ↔ a.Geometry = b.Geometry ∧ a.Top = b.Top ∧ a.High = b.High ∧ a.Free = b.Free := by
  cases a
  cases b
  simp
theorem superSame_eq {fu : Nat} {a b : S_api_Super} (hl : a.Charts.length ≤ 9000000000000000000) (hf : a.Charts.length < fu) : super_Same.f fu a b = some (decide (a = b)) := by
  unfold super_Same.f
  rw [equal_eq hl hf]
  by_cases h1 : a.Epoch = b.Epoch
  · by_cases h2 : a.Tickets = b.Tickets
    · by_cases h3 : a.Dir = b.Dir
      · by_cases h4 : a.Charts = b.Charts
        · rw [decide_eq_true h1, decide_eq_true h2, decide_eq_true h3, decide_eq_true h4, decide_eq_true (same_sup.2 ⟨h1, h2, h3, h4⟩)]
          rfl
        · rw [decide_eq_true h1, decide_eq_true h2, decide_eq_true h3, decide_eq_false h4, decide_eq_false (fun x => h4 (same_sup.1 x).2.2.2)]
          rfl
      · rw [decide_eq_true h1, decide_eq_true h2, decide_eq_false h3, decide_eq_false (fun x => h3 (same_sup.1 x).2.2.1)]
        rfl
    · rw [decide_eq_true h1, decide_eq_false h2, decide_eq_false (fun x => h2 (same_sup.1 x).2.1)]
      rfl
  · rw [decide_eq_false h1, decide_eq_false (fun x => h1 (same_sup.1 x).1)]
    rfl
theorem rsuperSame_eq {fu : Nat} {a b : S_api_Super} (hl : a.Charts.length ≤ 9000000000000000000) (hf : a.Charts.length < fu) : rickyardref13_Same.f fu a b = some (decide (a = b)) := by
  unfold rickyardref13_Same.f
  rw [ints2_eq hl hf]
  have hab : a = b ↔ a.Epoch = b.Epoch ∧ (a.Tickets.Geometry = b.Tickets.Geometry ∧ a.Tickets.Top = b.Tickets.Top ∧ a.Tickets.High = b.Tickets.High ∧ a.Tickets.Free = b.Tickets.Free) ∧ a.Dir = b.Dir ∧ a.Charts = b.Charts := by
    rw [same_sup, same_tick]
  by_cases h1 : a.Epoch = b.Epoch
  · by_cases h2 : a.Tickets.Geometry = b.Tickets.Geometry
    · by_cases h3 : a.Tickets.High = b.Tickets.High
      · by_cases h4 : a.Tickets.Free = b.Tickets.Free
        · by_cases h5 : a.Tickets.Top = b.Tickets.Top
          · by_cases h6 : a.Dir = b.Dir
            · by_cases h7 : a.Charts = b.Charts
              · rw [decide_eq_true h1, decide_eq_true h2, decide_eq_true h3, decide_eq_true h4, decide_eq_true h5, decide_eq_true h6, decide_eq_true h7, decide_eq_true (hab.2 ⟨h1, ⟨h2, h5, h3, h4⟩, h6, h7⟩)]
                rfl
              · rw [decide_eq_true h1, decide_eq_true h2, decide_eq_true h3, decide_eq_true h4, decide_eq_true h5, decide_eq_true h6, decide_eq_false h7, decide_eq_false (fun x => h7 (hab.1 x).2.2.2)]
                rfl
            · rw [decide_eq_true h1, decide_eq_true h2, decide_eq_true h3, decide_eq_true h4, decide_eq_true h5, decide_eq_false h6, decide_eq_false (fun x => h6 (hab.1 x).2.2.1)]
              rfl
          · rw [decide_eq_true h1, decide_eq_true h2, decide_eq_true h3, decide_eq_true h4, decide_eq_false h5, decide_eq_false (fun x => h5 (hab.1 x).2.1.2.1)]
            rfl
        · rw [decide_eq_true h1, decide_eq_true h2, decide_eq_true h3, decide_eq_false h4, decide_eq_false (fun x => h4 (hab.1 x).2.1.2.2.2)]
          rfl
      · rw [decide_eq_true h1, decide_eq_true h2, decide_eq_false h3, decide_eq_false (fun x => h3 (hab.1 x).2.1.2.2.1)]
        rfl
    · rw [decide_eq_true h1, decide_eq_false h2, decide_eq_false (fun x => h2 (hab.1 x).2.1.1)]
      rfl
  · rw [decide_eq_false h1, decide_eq_false (fun x => h1 (hab.1 x).1)]
    rfl
theorem ex13 : SupOk ⟨1, ⟨⟨16, 1, 1⟩, 0, 0, 0⟩, 0, [2]⟩ := by decide
theorem awake13 {fu : Nat} (hf : 100 < fu) : rickyardlaw13_awake.f fu = some true := by
  unfold rickyardlaw13_awake.f
  have h1 := superPut_eq (fu := fu) (s := ⟨1, ⟨⟨16, 1, 1⟩, 0, 0, 0⟩, 0, [2]⟩) hf
  have h2 := superGet_put (fu := fu) ex13 hf
  rw [if_pos ex13] at h1
  have l1 := (sup_sealed ex13).2
  rw [h1]
  simp only [Option.bind_some, h2, l1]
  simp
end Go.Proofs.Ytjhajfkfhdnciaa.Pure

/- The pure statement of SuperSames. -/
set_option linter.unusedVariables false
set_option linter.unusedSimpArgs false
namespace Go.Proofs.Ytjhajfkfhdnciaa.Pure
open Go Go.Xw
theorem SuperSames : ∀ (a0 : S_api_Super) (a1 : S_api_Super), ok_api_Super a0 → ok_api_Super a1 → ∃ fu, rickyardlaw13_SuperSames.f fu a0 a1 = some true := by
  intro n m hn hm
  refine ⟨400, ?_⟩
  unfold rickyardlaw13_SuperSames.f
  rw [awake13 (by decide)]
  by_cases h2 : (n.Charts.length : Int) > 100
  · rw [decide_eq_true h2]
    rfl
  · by_cases h3 : (m.Charts.length : Int) > 100
    · rw [decide_eq_false h2, decide_eq_true h3]
      rfl
    · rw [decide_eq_false h2, decide_eq_false h3, rsuperSame_eq (by omega) (by omega), superSame_eq (by omega) (by omega), superSame_eq (by omega) (by omega), superPut_eq (by decide), superPut_eq (by decide)]
      have hsym : decide (m = n) = decide (n = m) := decide_eq_decide.2 ⟨Eq.symm, Eq.symm⟩
      rw [hsym]
      simp only [Option.bind_some, Bool.not_true, Bool.false_eq_true, if_false, decide_true]
      by_cases hr : SupOk n
      · by_cases hq : SupOk m
        · have e : (sealed (summed 7 (n.Charts.length : Int) (supE n))).map toB = (sealed (summed 7 (m.Charts.length : Int) (supE m))).map toB ↔ n = m := by
            constructor
            · intro h
              have h' := map_toB_inj (sup_sealed hr).1 (sup_sealed hq).1 h
              have g1 := superGet_put (fu := 400) hr (by decide)
              have g2 := superGet_put (fu := 400) hq (by decide)
              rw [h', g2] at g1
              have := Option.some.inj g1
              exact (congrArg Prod.fst this).symm
            · intro h
              rw [h]
          simp only [hr, hq, if_true, e, Bool.not_true, Bool.false_eq_true, if_false, decide_true]
        · simp only [hr, hq, if_true, if_false, Bool.not_true, Bool.false_eq_true, Bool.not_false]
      · simp only [hr, if_false, Bool.not_false, if_true]
end Go.Proofs.Ytjhajfkfhdnciaa.Pure

/- The law SuperSames holds for every input: the row, out of the walk of the law's function and of its pure statement. Written by rows.py. -/
namespace Go.Proofs.Ytjhajfkfhdnciaa.superSames
open Go.ChangeShapes Go.WideShapes Go.ChangeAt Go.RowKit
open Go.ChangeMaps (open_string shut_string)
open Go Go.Xw
set_option linter.unusedVariables false
theorem own : ownKnob Try.prog.godebug = none := Facts.own
theorem laidOut : laidOutB Try.prog = true := Facts.laid
theorem closed : joinedFacts Try.pinned.checked.prog 26 Try.f26 Rows.superSamesSpec Rows.superSamesRow = true := by
  unfold joinedFacts
  rw [Facts.enter, Facts.lifts, Facts.make, Facts.laid, Facts.rowed, Facts.plain, Facts.heard]
  kernel_rfl
theorem enc_seg {α : Type} (K : Kd α) (a : α) : K.enc a = cellsOf [Kd.seg K a] := by simp [cellsOf, Kd.seg]
def start : Input := ⟨#[], #[.agg #[.int .i64 0, .int .i64 0, .int .i64 0, .int .i64 0, .int .i64 0, .int .i64 0, .int .i64 0, .int .i64 0, .slice none 0 0], .agg #[.int .i64 0, .int .i64 0, .int .i64 0, .int .i64 0, .int .i64 0, .int .i64 0, .int .i64 0, .int .i64 0, .slice none 0 0]], []⟩
set_option maxRecDepth 100000 in
set_option maxHeartbeats 1000000 in
theorem lifted (os : Os) (started : os.Started) (H : Type) (enc : TypeId × Value → H) :
    ReturnsInHanded {} Try.checked os 26 .any (Rows.superSamesSpec.pre6 enc Try.prog Try.f26 Rows.superSamesRow.domain false) (Rows.superSamesSpec.post enc Try.prog Try.f26 false true false false) := by
  refine returnsInHanded_of_change_sized (C := Try.checked) own started (by kernel_rfl) Try.func26
    (ChangeSpec.witness6 (enc := enc) (C := Try.checked) false start 8 (by kernel_rfl) (by kernel_rfl) (by kernel_rfl) (by kernel_rfl)) ?_
  intro W base args ds gs before hval0 hW hcnd hsz0 _
  have hval : ∀ (j : Nat) t v, Try.f26.params[j]? = some t → args[j]? = some v → Value.okWide Try.prog W .any base t v := hval0
  have hW' := hW
  obtain ⟨p, q, hA0, hV, rfl, hfz, hnd⟩ := hW
  have hA : DataW.TrodAll enc Try.prog W 0 (fun _ => true) true Try.f26.params.toList args.toList ds p := hA0
  rw [Try.params26] at hA hval
  obtain ⟨v0, vs0, d0, ds0, p0, q0, hargs, rfl, rfl, h0, r0⟩ := trodAll_cons hA
  obtain ⟨v1, vs1, d1, ds1, p1, q1, rfl, rfl, rfl, h1, r1⟩ := trodAll_cons r0
  obtain ⟨rfl, rfl, rfl⟩ := trodAll_nil r1
  obtain rfl : args = #[v0, v1] := by cases args; simp_all
  obtain ⟨rfl, rfl⟩ := trodVars_none hV
  have k0 := h0
  have lt0 : ∀ x ∈ p0, x.block < W.heap.size := by obtain ⟨m, hm⟩ := k0; exact DataW.trod_lt m _ _ _ hm
  obtain ⟨fu0, hf0⟩ := h0
  obtain ⟨a0, V0_0, R0_0, e0, o0⟩ := opn_api_Super enc _ _ _ _ _ _ hf0
  obtain rfl := agg_of (by kernel_rfl) (hval 0 120 v0 rfl rfl) e0
  have k1 := h1
  have lt1 : ∀ x ∈ p1, x.block < W.heap.size := by obtain ⟨m, hm⟩ := k1; exact DataW.trod_lt m _ _ _ hm
  obtain ⟨fu1, hf1⟩ := h1
  obtain ⟨a1, V1_0, R1_0, e1, o1⟩ := opn_api_Super enc _ _ _ _ _ _ hf1
  obtain rfl := agg_of (by kernel_rfl) (hval 1 120 v1 rfl rfl) e1
  obtain ⟨fu, hfu⟩ := Pure.SuperSames a0 a1 o0 o1
  refine Calls.mono (rickyardlaw13_SuperSames.ok fu W a0 _ R0_0 a1 _ R1_0 true hfu) fun e W' hr => ?_
  obtain ⟨v, rfl, rfl, gr⟩ := hr
  have bel := Fr.below gr
  exact ⟨_, rfl, _, _, _, [], _, [], hW', trodAll_mk1 (shut_bool Try.underlying4 _), (trodAll_cons_mk (Below.trod laidOut (by kernel_rfl) (of_decide_eq_true (by kernel_rfl)) k0 bel lt0) (trodAll_cons_mk (Below.trod laidOut (by kernel_rfl) (of_decide_eq_true (by kernel_rfl)) k1 bel lt1) trodAll_mk0)), rfl, bel.frame _, fun h => by cases h⟩
theorem over : Rows.superSamesRow.holds Try.pinned (OpenSpec.ofChange Rows.superSamesSpec) :=
  OpenClaim.holds_of_wide 26 Try.f26 rfl rfl rfl rfl rfl rfl rfl ⟨rfl, rfl, rfl, rfl, rfl⟩ rfl rfl rfl rfl rfl (by kernel_rfl) Try.func26 closed
    (of_decide_eq_true (by kernel_rfl)) (by unfold Func.isWrapper; first | (rw [if_pos (by decide +kernel)]; kernel_rfl) | (rw [if_neg (by decide +kernel)]; exact ⟨rfl, rfl⟩))
    (fun os started H enc _ => lifted os started H enc)
theorem proved : Rows.SuperSamesSaid := over
end Go.Proofs.Ytjhajfkfhdnciaa.superSames
namespace Go.Proofs.Ytjhajfkfhdnciaa
/-- The law holds. -/
theorem superSames_holds : Rows.SuperSamesSaid := superSames.proved
#print axioms superSames_holds
end Go.Proofs.Ytjhajfkfhdnciaa
