/- RootPicks: texts merged, part 8 of 9. The last part proves that the law RootPicks holds for every input. -/
import Derived.Test.YtklhbaghbmndeaaPkRootPicks7
import Derived.ProofKit
import Derived.OpenShut
import Derived.ChangeOld
import Derived.Below
import Derived.SizedLaws
import Derived.WalkKit
set_option linter.unusedVariables false
set_option linter.unusedSimpArgs false
namespace Go.Proofs.Ytklhbaghbmndeaa
open Go Go.Xw
def rickyardref13_Get.s0 (fu : Nat) (t10 : Int × Int × (List UInt8) × Bool) : (Int × (List Int)) → Option (Sum (List Int) (Int × (List Int))) := fun s83 => (if (decide (s83.1 < t10.2.1)) = true then (if (0 : Int) ≤ (IntKind.i64.wrap (32 + (IntKind.i64.wrap (2 * s83.1)))) ∧ (IntKind.i64.wrap (32 + (IntKind.i64.wrap (2 * s83.1)))) ≤ (IntKind.i64.wrap (34 + (IntKind.i64.wrap (2 * s83.1)))) ∧ (IntKind.i64.wrap (34 + (IntKind.i64.wrap (2 * s83.1)))) ≤ (List.length t10.2.2.1 : Int) then ((rickyardref01_Int.f fu (cut t10.2.2.1 (IntKind.i64.wrap (32 + (IntKind.i64.wrap (2 * s83.1)))) (IntKind.i64.wrap (34 + (IntKind.i64.wrap (2 * s83.1))))) : Option Int).bind fun t98 => (if List.length s83.2 + List.length [t98] ≤ LIM then some (Sum.inr ((IntKind.i64.wrap (s83.1 + 1)), (s83.2 ++ [t98]))) else none)) else none) else some (Sum.inl (s83.2)))
def rickyardref13_Get.f (fu : Nat) (a0 : List Int) : Option (S_api_Super × Bool) := ((rickyardref07_Open.f fu a0 : Option (Int × Int × (List UInt8) × Bool)).bind fun t10 => (if (if (!t10.2.2.2) = true then true else (if (!decide (t10.1 = 7)) = true then true else (decide (t10.2.1 > 8)))) = true then some ((⟨(0 : Int), (⟨(⟨(0 : Int), (0 : Int), (0 : Int)⟩ : S_api_Geometry), (0 : Int), (0 : Int), (0 : Int)⟩ : S_api_Tickets), (0 : Int), []⟩ : S_api_Super), false) else (if (8 : Int) ≤ (List.length t10.2.2.1 : Int) then ((rickyardref01_Int.f fu (cut t10.2.2.1 0 8) : Option Int).bind fun t28 => (if (12 : Int) ≤ (List.length t10.2.2.1 : Int) then ((rickyardref01_Int.f fu (cut t10.2.2.1 8 12) : Option Int).bind fun t35 => (if (16 : Int) ≤ (List.length t10.2.2.1 : Int) then ((rickyardref01_Int.f fu (cut t10.2.2.1 12 16) : Option Int).bind fun t42 => (if (20 : Int) ≤ (List.length t10.2.2.1 : Int) then ((rickyardref01_Int.f fu (cut t10.2.2.1 16 20) : Option Int).bind fun t49 => (if (24 : Int) ≤ (List.length t10.2.2.1 : Int) then ((rickyardref01_Int.f fu (cut t10.2.2.1 20 24) : Option Int).bind fun t56 => (if (28 : Int) ≤ (List.length t10.2.2.1 : Int) then ((rickyardref01_Int.f fu (cut t10.2.2.1 24 28) : Option Int).bind fun t63 => (if (30 : Int) ≤ (List.length t10.2.2.1 : Int) then ((rickyardref01_Int.f fu (cut t10.2.2.1 28 30) : Option Int).bind fun t70 => (if (32 : Int) ≤ (List.length t10.2.2.1 : Int) then ((rickyardref01_Int.f fu (cut t10.2.2.1 30 32) : Option Int).bind fun t77 => ((loopM (rickyardref13_Get.s0 fu t10) fu (0, [])).bind fun e84 => ((((rickyardref13_Right.f fu (⟨t28, (⟨(⟨t35, t42, t49⟩ : S_api_Geometry), t70, t56, t63⟩ : S_api_Tickets), t77, e84⟩ : S_api_Super) : Option Bool).bind fun t129 => (if (!t129) = true then some (true) else ((rickyardref13_Put.f fu (⟨t28, (⟨(⟨t35, t42, t49⟩ : S_api_Geometry), t70, t56, t63⟩ : S_api_Tickets), t77, e84⟩ : S_api_Super) : Option (List UInt8)).bind fun t136 => some ((!decide (t136 = (List.map toB a0))))))) : Option Bool).bind fun x127 => (if x127 = true then some ((⟨(0 : Int), (⟨(⟨(0 : Int), (0 : Int), (0 : Int)⟩ : S_api_Geometry), (0 : Int), (0 : Int), (0 : Int)⟩ : S_api_Tickets), (0 : Int), []⟩ : S_api_Super), false) else some ((⟨t28, (⟨(⟨t35, t42, t49⟩ : S_api_Geometry), t70, t56, t63⟩ : S_api_Tickets), t77, e84⟩ : S_api_Super), true))))) else none)) else none)) else none)) else none)) else none)) else none)) else none)) else none)))
set_option maxRecDepth 100000 in
set_option maxHeartbeats 400000 in
theorem rickyardref13_Get.ok (fu : Nat) (w : World) (a0 : List Int) (V0_0 : Value) (R0_0 : Rd (kI .u8) w V0_0 a0) (r : S_api_Super × Bool) (h : rickyardref13_Get.f fu a0 = some r) :
  Calls Try.prog 114 (([V0_0] : List Value).toArray) w (fun e w' => ∃ v, e = .returned v ∧ ∃ u1 : Value, ∃ o2 : Own (kI .i64) 3 w' w.heap.size u1 r.1.Charts, v = .tuple #[aggV [Seg.cell (.int .i64 r.1.Epoch), Seg.cell (.int .i64 r.1.Tickets.Geometry.Blocks), Seg.cell (.int .i64 r.1.Tickets.Geometry.Slots), Seg.cell (.int .i64 r.1.Tickets.Geometry.Gens), Seg.cell (.int .i64 r.1.Tickets.Top), Seg.cell (.int .i64 r.1.Tickets.High), Seg.cell (.int .i64 r.1.Tickets.Free), Seg.cell (.int .i64 r.1.Dir), Seg.cell u1 o2.one], .bool r.2] ∧ Gr w w') := by
 unfold rickyardref13_Get.f at h
 have fB : Gr w w := Fr.refl _ _
 refine calls_cw Try.func114 rfl Try.ntmps114 rfl ?_
 refine cw_seq ?_
 refine cw_region ?_
 refine ol_op (by exact opv_alloc (ss := [Seg.cell (.int .i64 (0 : Int)), Seg.cell (.int .i64 (0 : Int)), Seg.cell (.int .i64 (0 : Int)), Seg.cell (.int .i64 (0 : Int)), Seg.cell (.int .i64 (0 : Int)), Seg.cell (.int .i64 (0 : Int)), Seg.cell (.int .i64 (0 : Int)), Seg.cell (.int .i64 (0 : Int)), Seg.cell (.slice none 0 0) (by rfl)]) rfl ze110 rfl) rfl rfl rfl ?_
 rintro _ w9 ⟨G4, rfl, b5, q6, z7⟩
 have z7 := Nat.le_trans fB.size z7
 have fB := fB.gr q6
 refine ol_val (v := .bool false) (by exact xr_assign rfl rfl) rfl rfl rfl ?_
 refine ol_nil ?_
 refine cw_seq ?_
 refine cw_region ?_
 refine ol_val (v := V0_0) (by exact xr_move rfl rfl) rfl rfl rfl ?_
 obtain ⟨t10, k11, h⟩ := bs h
 refine ol_op (by exact opv_call rfl cal134 (ac rfl an) (rickyardref07_Open.ok fu _ a0 V0_0 (R0_0.gr fB) _ k11)) rfl rfl rfl ?_
 rintro _ w13 ⟨rfl, q12⟩
 have b5 := b5.gr q12
 have fB := fB.gr q12
 refine ol_val (v := .tuple #[.int .i64 t10.1, .int .i64 t10.2.1, sv t10.2.2.1, .bool t10.2.2.2]) (by exact xr_move rfl rfl) rfl rfl rfl ?_
 refine ol_val (v := .int .i64 t10.1) (by exact xr_extract rfl rfl rfl) rfl rfl rfl ?_
 refine ol_val (v := .int .i64 t10.2.1) (by exact xr_extract rfl rfl rfl) rfl rfl rfl ?_
 refine ol_val (v := sv t10.2.2.1) (by exact xr_extract rfl rfl rfl) rfl rfl rfl ?_
 refine ol_val (v := .bool t10.2.2.2) (by exact xr_extract rfl rfl rfl) rfl rfl rfl ?_
 refine ol_val (v := .int .i64 t10.1) (by exact xr_assign rfl rfl) rfl rfl rfl ?_
 refine ol_val (v := .int .i64 t10.2.1) (by exact xr_assign rfl rfl) rfl rfl rfl ?_
 refine ol_val (v := sv t10.2.2.1) (by exact xr_assign rfl rfl) rfl rfl rfl ?_
 refine ol_val (v := .bool t10.2.2.2) (by exact xr_assign rfl rfl) rfl rfl rfl ?_
 refine ol_nil ?_
 refine cw_seq ?_
 refine cw_seq ?_
 refine cw_mid (fun ρ' w' => ρ' 0 = V0_0 ∧ ρ' 2 = .pointer (some ⟨G4, 0, none⟩) ∧ ρ' 5 = .int .i64 t10.2.1 ∧ ρ' 6 = sv t10.2.2.1 ∧ ρ' 26 = .bool (if (!t10.2.2.2) = true then true else (if (!decide (t10.1 = 7)) = true then true else (decide (t10.2.1 > 8)))) ∧ w13 = w') ?_ ?_
 ·skip
  refine cw_region ?_
  refine ol_val (v := .bool t10.2.2.2) (by exact xr_move rfl rfl) rfl rfl rfl ?_
  refine ol_val (v := .bool (!t10.2.2.2)) (by exact xr_not rfl rfl) rfl rfl rfl ?_
  refine ol_val (v := .bool (!t10.2.2.2)) (by exact xr_move rfl rfl) rfl rfl rfl ?_
  rcases bt (!t10.2.2.2) with c14 | c14
  ·skip
   refine ol_gskip rfl rfl rfl rfl rfl c14 ?_
   refine ol_gskip rfl rfl rfl rfl rfl c14 ?_
   refine ol_val (v := .bool true) (by exact xr_pickT rfl rfl c14 rfl) rfl rfl rfl ?_
   refine ol_val (v := .bool true) (by exact xr_move rfl rfl) rfl rfl rfl ?_
   refine ol_gskip rfl rfl rfl rfl rfl rfl ?_
   refine ol_gskip rfl rfl rfl rfl rfl rfl ?_
   refine ol_val (v := .bool true) (by exact xr_pickT rfl rfl rfl rfl) rfl rfl rfl ?_
   refine ol_nil ?_
   refine thn_i ?_
   exact ⟨rfl, rfl, rfl, rfl, (rfl).trans (congrArg (fun z => (.bool z : Value)) (show true = (if (!t10.2.2.2) = true then true else (if (!decide (t10.1 = 7)) = true then true else (decide (t10.2.1 > 8)))) from by rw [ite_t c14])), rfl⟩
  refine ol_gval (v := .int .i64 t10.1) (by exact xr_move rfl rfl) rfl rfl rfl rfl rfl c14 ?_
  refine ol_gval (v := .bool (!decide (t10.1 = 7))) (by exact xr_neI rfl Try.underlying3 rfl rfl rfl) rfl rfl rfl rfl rfl c14 ?_
  refine ol_val (v := .bool (!decide (t10.1 = 7))) (by exact xr_pickF rfl rfl c14 rfl) rfl rfl rfl ?_
  refine ol_val (v := .bool (!decide (t10.1 = 7))) (by exact xr_move rfl rfl) rfl rfl rfl ?_
  rcases bt (!decide (t10.1 = 7)) with c15 | c15
  ·skip
   refine ol_gskip rfl rfl rfl rfl rfl c15 ?_
   refine ol_gskip rfl rfl rfl rfl rfl c15 ?_
   refine ol_val (v := .bool true) (by exact xr_pickT rfl rfl c15 rfl) rfl rfl rfl ?_
   refine ol_nil ?_
   refine thn_i ?_
   exact ⟨rfl, rfl, rfl, rfl, (rfl).trans (congrArg (fun z => (.bool z : Value)) (show true = (if (!t10.2.2.2) = true then true else (if (!decide (t10.1 = 7)) = true then true else (decide (t10.2.1 > 8)))) from by rw [ite_f c14, ite_t c15])), rfl⟩
  refine ol_gval (v := .int .i64 t10.2.1) (by exact xr_move rfl rfl) rfl rfl rfl rfl rfl c15 ?_
  refine ol_gval (v := .bool (decide (t10.2.1 > 8))) (by exact xr_gtr rfl rfl rfl) rfl rfl rfl rfl rfl c15 ?_
  refine ol_val (v := .bool (decide (t10.2.1 > 8))) (by exact xr_pickF rfl rfl c15 rfl) rfl rfl rfl ?_
  refine ol_nil ?_
  refine thn_i ?_
  exact ⟨rfl, rfl, rfl, rfl, (rfl).trans (congrArg (fun z => (.bool z : Value)) (show (decide (t10.2.1 > 8)) = (if (!t10.2.2.2) = true then true else (if (!decide (t10.1 = 7)) = true then true else (decide (t10.2.1 > 8)))) from by rw [ite_f c14, ite_f c15])), rfl⟩
 rintro ρ16 _ ⟨e0, e2, e5, e6, e26, rfl⟩
 rcases is h with ⟨c17, h⟩ | ⟨c17, h⟩
 ·refine cw_condT e26 c17 ?_
  refine cw_seq ?_
  refine cw_region ?_
  refine ol_val (v := aggV [Seg.cell (.int .i64 (0 : Int)), Seg.cell (.int .i64 (0 : Int)), Seg.cell (.int .i64 (0 : Int)), Seg.cell (.int .i64 (0 : Int)), Seg.cell (.int .i64 (0 : Int)), Seg.cell (.int .i64 (0 : Int)), Seg.cell (.int .i64 (0 : Int)), Seg.cell (.int .i64 (0 : Int)), Seg.cell (.slice none 0 0) (by rfl)]) (by exact xr_build (vals := []) rfl trivial (bl110_ _)) rfl rfl rfl ?_
  refine ol_op0 (by exact opv_store (ss' := [Seg.cell (.int .i64 (0 : Int)), Seg.cell (.int .i64 (0 : Int)), Seg.cell (.int .i64 (0 : Int)), Seg.cell (.int .i64 (0 : Int)), Seg.cell (.int .i64 (0 : Int)), Seg.cell (.int .i64 (0 : Int)), Seg.cell (.int .i64 (0 : Int)), Seg.cell (.int .i64 (0 : Int)), Seg.cell (.slice none 0 0) (by rfl)]) (xs := cellsOf [Seg.cell (.int .i64 (0 : Int)), Seg.cell (.int .i64 (0 : Int)), Seg.cell (.int .i64 (0 : Int)), Seg.cell (.int .i64 (0 : Int)), Seg.cell (.int .i64 (0 : Int)), Seg.cell (.int .i64 (0 : Int)), Seg.cell (.int .i64 (0 : Int)), Seg.cell (.int .i64 (0 : Int)), Seg.cell (.slice none 0 0) (by rfl)]) rfl sz110 e2 rfl rfl (len_cellsOf _) (one_cellsOf _) b5 (Spl.segs _ 0 9 [Seg.cell (.int .i64 (0 : Int)), Seg.cell (.int .i64 (0 : Int)), Seg.cell (.int .i64 (0 : Int)), Seg.cell (.int .i64 (0 : Int)), Seg.cell (.int .i64 (0 : Int)), Seg.cell (.int .i64 (0 : Int)), Seg.cell (.int .i64 (0 : Int)), Seg.cell (.int .i64 (0 : Int)), Seg.cell (.slice none 0 0) (by rfl)] rfl rfl)) rfl rfl ?_
  rintro _ w19 ⟨b5, q18⟩
  have fB := fB.wr q18 z7
  refine ol_val (v := .bool false) (by exact xr_assign rfl rfl) rfl rfl rfl ?_
  refine ol_nil ?_
  refine cw_ret ?_
  repeat (first | with_reducible refine thn_r ?_ | with_reducible refine blk_r ?_)
  obtain rfl := Option.some.inj h
  refine fin_cell_tmp Try.results114 e2 ag110 sz110 b5 (by rfl) rfl ?_
  exact ⟨_, rfl, (.slice none 0 0), Own.nil _ _ _ _, rfl, fB⟩
 refine cw_condF e26 c17 ?_
 refine cw_skip ?_
 refine cw_seq ?_
 refine cw_region ?_
 refine ol_op (by exact opv_alloc (ss := [Seg.cell (.int .i64 (0 : Int)), Seg.cell (.int .i64 (0 : Int)), Seg.cell (.int .i64 (0 : Int)), Seg.cell (.int .i64 (0 : Int)), Seg.cell (.int .i64 (0 : Int)), Seg.cell (.int .i64 (0 : Int)), Seg.cell (.int .i64 (0 : Int)), Seg.cell (.int .i64 (0 : Int)), Seg.cell (.slice none 0 0) (by rfl)]) rfl ze110 rfl) rfl rfl rfl ?_
 rintro _ w25 ⟨G20, rfl, b21, q22, z23⟩
 have n26 := b5.ne z23
 have z23 := Nat.le_trans fB.size z23
 have b5 := b5.gr q22
 have fB := fB.gr q22
 refine ol_nil ?_
 refine cw_seq ?_
 refine cw_region ?_
 refine ol_val (v := sv t10.2.2.1) (by exact xr_move rfl e6) rfl rfl rfl ?_
 obtain ⟨g27, h⟩ := gs h
 refine ol_val (v := sv (cut t10.2.2.1 0 8)) (by exact xr_str_h rfl Try.underlying9 rfl rfl (by decide) g27) rfl rfl rfl ?_
 obtain ⟨t28, k29, h⟩ := bs h
 refine ol_op (by exact opv_call rfl cal135 (ac rfl an) (rickyardref01_Int.ok fu _ (cut t10.2.2.1 0 8) _ k29)) rfl rfl rfl ?_
 rintro _ w31 ⟨rfl, q30⟩
 have b5 := b5.gr q30
 have b21 := b21.gr q30
 have fB := fB.gr q30
 refine ol_val (v := .pointer (some ⟨G20, 0, none⟩)) (by exact xr_fieldAddr (p := 0) (q := 0) rfl fl110_0 rfl) rfl rfl rfl ?_
 refine ol_op0 (by exact opv_store (ss' := [Seg.cell (.int .i64 t28), Seg.cell (.int .i64 (0 : Int)), Seg.cell (.int .i64 (0 : Int)), Seg.cell (.int .i64 (0 : Int)), Seg.cell (.int .i64 (0 : Int)), Seg.cell (.int .i64 (0 : Int)), Seg.cell (.int .i64 (0 : Int)), Seg.cell (.int .i64 (0 : Int)), Seg.cell (.slice none 0 0) (by rfl)]) (xs := cellsOf [Seg.cell (.int .i64 t28)]) rfl sz3 rfl rfl rfl (len_cellsOf _) (one_cellsOf _) b21 (Spl.segs _ 0 1 [Seg.cell (.int .i64 t28)] rfl rfl)) rfl rfl ?_
 rintro _ w33 ⟨b21, q32⟩
 have b5 := b5.wr q32 n26
 have fB := fB.wr q32 z23
 refine ol_nil ?_
 refine cw_seq ?_
 refine cw_region ?_
 refine ol_val (v := sv t10.2.2.1) (by exact xr_move rfl e6) rfl rfl rfl ?_
 obtain ⟨g34, h⟩ := gs h
 refine ol_val (v := sv (cut t10.2.2.1 8 12)) (by exact xr_str_lh rfl Try.underlying9 rfl rfl rfl (by decide) (by decide) g34) rfl rfl rfl ?_
 obtain ⟨t35, k36, h⟩ := bs h
 refine ol_op (by exact opv_call rfl cal135 (ac rfl an) (rickyardref01_Int.ok fu _ (cut t10.2.2.1 8 12) _ k36)) rfl rfl rfl ?_
 rintro _ w38 ⟨rfl, q37⟩
 have b5 := b5.gr q37
 have b21 := b21.gr q37
 have fB := fB.gr q37
 refine ol_val (v := .pointer (some ⟨G20, 1, none⟩)) (by exact xr_fieldAddr (p := 0) (q := 1) rfl fl110_1 rfl) rfl rfl rfl ?_
 refine ol_val (v := .pointer (some ⟨G20, 1, none⟩)) (by exact xr_fieldAddr (p := 1) (q := 0) rfl fl108_0 rfl) rfl rfl rfl ?_
 refine ol_val (v := .pointer (some ⟨G20, 1, none⟩)) (by exact xr_fieldAddr (p := 1) (q := 0) rfl fl106_0 rfl) rfl rfl rfl ?_
 refine ol_op0 (by exact opv_store (ss' := [Seg.cell (.int .i64 t28), Seg.cell (.int .i64 t35), Seg.cell (.int .i64 (0 : Int)), Seg.cell (.int .i64 (0 : Int)), Seg.cell (.int .i64 (0 : Int)), Seg.cell (.int .i64 (0 : Int)), Seg.cell (.int .i64 (0 : Int)), Seg.cell (.int .i64 (0 : Int)), Seg.cell (.slice none 0 0) (by rfl)]) (xs := cellsOf [Seg.cell (.int .i64 t35)]) rfl sz3 rfl rfl rfl (len_cellsOf _) (one_cellsOf _) b21 (Spl.segs _ 1 1 [Seg.cell (.int .i64 t35)] rfl rfl)) rfl rfl ?_
 rintro _ w40 ⟨b21, q39⟩
 have b5 := b5.wr q39 n26
 have fB := fB.wr q39 z23
 refine ol_nil ?_
 refine cw_seq ?_
 refine cw_region ?_
 refine ol_val (v := sv t10.2.2.1) (by exact xr_move rfl e6) rfl rfl rfl ?_
 obtain ⟨g41, h⟩ := gs h
 refine ol_val (v := sv (cut t10.2.2.1 12 16)) (by exact xr_str_lh rfl Try.underlying9 rfl rfl rfl (by decide) (by decide) g41) rfl rfl rfl ?_
 obtain ⟨t42, k43, h⟩ := bs h
 refine ol_op (by exact opv_call rfl cal135 (ac rfl an) (rickyardref01_Int.ok fu _ (cut t10.2.2.1 12 16) _ k43)) rfl rfl rfl ?_
 rintro _ w45 ⟨rfl, q44⟩
 have b5 := b5.gr q44
 have b21 := b21.gr q44
 have fB := fB.gr q44
 refine ol_val (v := .pointer (some ⟨G20, 1, none⟩)) (by exact xr_fieldAddr (p := 0) (q := 1) rfl fl110_1 rfl) rfl rfl rfl ?_
 refine ol_val (v := .pointer (some ⟨G20, 1, none⟩)) (by exact xr_fieldAddr (p := 1) (q := 0) rfl fl108_0 rfl) rfl rfl rfl ?_
 refine ol_val (v := .pointer (some ⟨G20, 2, none⟩)) (by exact xr_fieldAddr (p := 1) (q := 1) rfl fl106_1 rfl) rfl rfl rfl ?_
 refine ol_op0 (by exact opv_store (ss' := [Seg.cell (.int .i64 t28), Seg.cell (.int .i64 t35), Seg.cell (.int .i64 t42), Seg.cell (.int .i64 (0 : Int)), Seg.cell (.int .i64 (0 : Int)), Seg.cell (.int .i64 (0 : Int)), Seg.cell (.int .i64 (0 : Int)), Seg.cell (.int .i64 (0 : Int)), Seg.cell (.slice none 0 0) (by rfl)]) (xs := cellsOf [Seg.cell (.int .i64 t42)]) rfl sz3 rfl rfl rfl (len_cellsOf _) (one_cellsOf _) b21 (Spl.segs _ 2 1 [Seg.cell (.int .i64 t42)] rfl rfl)) rfl rfl ?_
 rintro _ w47 ⟨b21, q46⟩
 have b5 := b5.wr q46 n26
 have fB := fB.wr q46 z23
 refine ol_nil ?_
 refine cw_seq ?_
 refine cw_region ?_
 refine ol_val (v := sv t10.2.2.1) (by exact xr_move rfl e6) rfl rfl rfl ?_
 obtain ⟨g48, h⟩ := gs h
 refine ol_val (v := sv (cut t10.2.2.1 16 20)) (by exact xr_str_lh rfl Try.underlying9 rfl rfl rfl (by decide) (by decide) g48) rfl rfl rfl ?_
 obtain ⟨t49, k50, h⟩ := bs h
 refine ol_op (by exact opv_call rfl cal135 (ac rfl an) (rickyardref01_Int.ok fu _ (cut t10.2.2.1 16 20) _ k50)) rfl rfl rfl ?_
 rintro _ w52 ⟨rfl, q51⟩
 have b5 := b5.gr q51
 have b21 := b21.gr q51
 have fB := fB.gr q51
 refine ol_val (v := .pointer (some ⟨G20, 1, none⟩)) (by exact xr_fieldAddr (p := 0) (q := 1) rfl fl110_1 rfl) rfl rfl rfl ?_
 refine ol_val (v := .pointer (some ⟨G20, 1, none⟩)) (by exact xr_fieldAddr (p := 1) (q := 0) rfl fl108_0 rfl) rfl rfl rfl ?_
 refine ol_val (v := .pointer (some ⟨G20, 3, none⟩)) (by exact xr_fieldAddr (p := 1) (q := 2) rfl fl106_2 rfl) rfl rfl rfl ?_
 refine ol_op0 (by exact opv_store (ss' := [Seg.cell (.int .i64 t28), Seg.cell (.int .i64 t35), Seg.cell (.int .i64 t42), Seg.cell (.int .i64 t49), Seg.cell (.int .i64 (0 : Int)), Seg.cell (.int .i64 (0 : Int)), Seg.cell (.int .i64 (0 : Int)), Seg.cell (.int .i64 (0 : Int)), Seg.cell (.slice none 0 0) (by rfl)]) (xs := cellsOf [Seg.cell (.int .i64 t49)]) rfl sz3 rfl rfl rfl (len_cellsOf _) (one_cellsOf _) b21 (Spl.segs _ 3 1 [Seg.cell (.int .i64 t49)] rfl rfl)) rfl rfl ?_
 rintro _ w54 ⟨b21, q53⟩
 have b5 := b5.wr q53 n26
 have fB := fB.wr q53 z23
 refine ol_nil ?_
 refine cw_seq ?_
 refine cw_region ?_
 refine ol_val (v := sv t10.2.2.1) (by exact xr_move rfl e6) rfl rfl rfl ?_
 obtain ⟨g55, h⟩ := gs h
 refine ol_val (v := sv (cut t10.2.2.1 20 24)) (by exact xr_str_lh rfl Try.underlying9 rfl rfl rfl (by decide) (by decide) g55) rfl rfl rfl ?_
 obtain ⟨t56, k57, h⟩ := bs h
 refine ol_op (by exact opv_call rfl cal135 (ac rfl an) (rickyardref01_Int.ok fu _ (cut t10.2.2.1 20 24) _ k57)) rfl rfl rfl ?_
 rintro _ w59 ⟨rfl, q58⟩
 have b5 := b5.gr q58
 have b21 := b21.gr q58
 have fB := fB.gr q58
 refine ol_val (v := .pointer (some ⟨G20, 1, none⟩)) (by exact xr_fieldAddr (p := 0) (q := 1) rfl fl110_1 rfl) rfl rfl rfl ?_
 refine ol_val (v := .pointer (some ⟨G20, 5, none⟩)) (by exact xr_fieldAddr (p := 1) (q := 4) rfl fl108_2 rfl) rfl rfl rfl ?_
 refine ol_op0 (by exact opv_store (ss' := [Seg.cell (.int .i64 t28), Seg.cell (.int .i64 t35), Seg.cell (.int .i64 t42), Seg.cell (.int .i64 t49), Seg.cell (.int .i64 (0 : Int)), Seg.cell (.int .i64 t56), Seg.cell (.int .i64 (0 : Int)), Seg.cell (.int .i64 (0 : Int)), Seg.cell (.slice none 0 0) (by rfl)]) (xs := cellsOf [Seg.cell (.int .i64 t56)]) rfl sz3 rfl rfl rfl (len_cellsOf _) (one_cellsOf _) b21 (Spl.segs _ 5 1 [Seg.cell (.int .i64 t56)] rfl rfl)) rfl rfl ?_
 rintro _ w61 ⟨b21, q60⟩
 have b5 := b5.wr q60 n26
 have fB := fB.wr q60 z23
 refine ol_nil ?_
 refine cw_seq ?_
 refine cw_region ?_
 refine ol_val (v := sv t10.2.2.1) (by exact xr_move rfl e6) rfl rfl rfl ?_
 obtain ⟨g62, h⟩ := gs h
 refine ol_val (v := sv (cut t10.2.2.1 24 28)) (by exact xr_str_lh rfl Try.underlying9 rfl rfl rfl (by decide) (by decide) g62) rfl rfl rfl ?_
 obtain ⟨t63, k64, h⟩ := bs h
 refine ol_op (by exact opv_call rfl cal135 (ac rfl an) (rickyardref01_Int.ok fu _ (cut t10.2.2.1 24 28) _ k64)) rfl rfl rfl ?_
 rintro _ w66 ⟨rfl, q65⟩
 have b5 := b5.gr q65
 have b21 := b21.gr q65
 have fB := fB.gr q65
 refine ol_val (v := .pointer (some ⟨G20, 1, none⟩)) (by exact xr_fieldAddr (p := 0) (q := 1) rfl fl110_1 rfl) rfl rfl rfl ?_
 refine ol_val (v := .pointer (some ⟨G20, 6, none⟩)) (by exact xr_fieldAddr (p := 1) (q := 5) rfl fl108_3 rfl) rfl rfl rfl ?_
 refine ol_op0 (by exact opv_store (ss' := [Seg.cell (.int .i64 t28), Seg.cell (.int .i64 t35), Seg.cell (.int .i64 t42), Seg.cell (.int .i64 t49), Seg.cell (.int .i64 (0 : Int)), Seg.cell (.int .i64 t56), Seg.cell (.int .i64 t63), Seg.cell (.int .i64 (0 : Int)), Seg.cell (.slice none 0 0) (by rfl)]) (xs := cellsOf [Seg.cell (.int .i64 t63)]) rfl sz3 rfl rfl rfl (len_cellsOf _) (one_cellsOf _) b21 (Spl.segs _ 6 1 [Seg.cell (.int .i64 t63)] rfl rfl)) rfl rfl ?_
 rintro _ w68 ⟨b21, q67⟩
 have b5 := b5.wr q67 n26
 have fB := fB.wr q67 z23
 refine ol_nil ?_
 refine cw_seq ?_
 refine cw_region ?_
 refine ol_val (v := sv t10.2.2.1) (by exact xr_move rfl e6) rfl rfl rfl ?_
 obtain ⟨g69, h⟩ := gs h
 refine ol_val (v := sv (cut t10.2.2.1 28 30)) (by exact xr_str_lh rfl Try.underlying9 rfl rfl rfl (by decide) (by decide) g69) rfl rfl rfl ?_
 obtain ⟨t70, k71, h⟩ := bs h
 refine ol_op (by exact opv_call rfl cal135 (ac rfl an) (rickyardref01_Int.ok fu _ (cut t10.2.2.1 28 30) _ k71)) rfl rfl rfl ?_
 rintro _ w73 ⟨rfl, q72⟩
 have b5 := b5.gr q72
 have b21 := b21.gr q72
 have fB := fB.gr q72
 refine ol_val (v := .pointer (some ⟨G20, 1, none⟩)) (by exact xr_fieldAddr (p := 0) (q := 1) rfl fl110_1 rfl) rfl rfl rfl ?_
 refine ol_val (v := .pointer (some ⟨G20, 4, none⟩)) (by exact xr_fieldAddr (p := 1) (q := 3) rfl fl108_1 rfl) rfl rfl rfl ?_
 refine ol_op0 (by exact opv_store (ss' := [Seg.cell (.int .i64 t28), Seg.cell (.int .i64 t35), Seg.cell (.int .i64 t42), Seg.cell (.int .i64 t49), Seg.cell (.int .i64 t70), Seg.cell (.int .i64 t56), Seg.cell (.int .i64 t63), Seg.cell (.int .i64 (0 : Int)), Seg.cell (.slice none 0 0) (by rfl)]) (xs := cellsOf [Seg.cell (.int .i64 t70)]) rfl sz3 rfl rfl rfl (len_cellsOf _) (one_cellsOf _) b21 (Spl.segs _ 4 1 [Seg.cell (.int .i64 t70)] rfl rfl)) rfl rfl ?_
 rintro _ w75 ⟨b21, q74⟩
 have b5 := b5.wr q74 n26
 have fB := fB.wr q74 z23
 refine ol_nil ?_
 refine cw_seq ?_
 refine cw_region ?_
 refine ol_val (v := sv t10.2.2.1) (by exact xr_move rfl e6) rfl rfl rfl ?_
 obtain ⟨g76, h⟩ := gs h
 refine ol_val (v := sv (cut t10.2.2.1 30 32)) (by exact xr_str_lh rfl Try.underlying9 rfl rfl rfl (by decide) (by decide) g76) rfl rfl rfl ?_
 obtain ⟨t77, k78, h⟩ := bs h
 refine ol_op (by exact opv_call rfl cal135 (ac rfl an) (rickyardref01_Int.ok fu _ (cut t10.2.2.1 30 32) _ k78)) rfl rfl rfl ?_
 rintro _ w80 ⟨rfl, q79⟩
 have b5 := b5.gr q79
 have b21 := b21.gr q79
 have fB := fB.gr q79
 refine ol_val (v := .pointer (some ⟨G20, 7, none⟩)) (by exact xr_fieldAddr (p := 0) (q := 7) rfl fl110_2 rfl) rfl rfl rfl ?_
 refine ol_op0 (by exact opv_store (ss' := [Seg.cell (.int .i64 t28), Seg.cell (.int .i64 t35), Seg.cell (.int .i64 t42), Seg.cell (.int .i64 t49), Seg.cell (.int .i64 t70), Seg.cell (.int .i64 t56), Seg.cell (.int .i64 t63), Seg.cell (.int .i64 t77), Seg.cell (.slice none 0 0) (by rfl)]) (xs := cellsOf [Seg.cell (.int .i64 t77)]) rfl sz3 rfl rfl rfl (len_cellsOf _) (one_cellsOf _) b21 (Spl.segs _ 7 1 [Seg.cell (.int .i64 t77)] rfl rfl)) rfl rfl ?_
 rintro _ w82 ⟨b21, q81⟩
 have b5 := b5.wr q81 n26
 have fB := fB.wr q81 z23
 refine ol_nil ?_
 refine cw_seq ?_
 refine cw_seq ?_
 refine cw_region ?_
 refine ol_val (v := .int .i64 0) (by exact xr_assign rfl rfl) rfl rfl rfl ?_
 refine ol_nil ?_
 obtain ⟨e84, l85, h86⟩ := bs h
 refine cw_mid (fun ρ' w' => ∃ v87 : Value, ∃ o88 : Own (kI .i64) 3 w' w.heap.size v87 e84, ρ' 0 = V0_0 ∧ ρ' 2 = .pointer (some ⟨G4, 0, none⟩) ∧ ρ' 8 = .pointer (some ⟨G20, 0, none⟩) ∧ Blk w' G4 110 [Seg.cell (.int .i64 (0 : Int)), Seg.cell (.int .i64 (0 : Int)), Seg.cell (.int .i64 (0 : Int)), Seg.cell (.int .i64 (0 : Int)), Seg.cell (.int .i64 (0 : Int)), Seg.cell (.int .i64 (0 : Int)), Seg.cell (.int .i64 (0 : Int)), Seg.cell (.int .i64 (0 : Int)), Seg.cell (.slice none 0 0) (by rfl)] ∧ Blk w' G20 110 [Seg.cell (.int .i64 t28), Seg.cell (.int .i64 t35), Seg.cell (.int .i64 t42), Seg.cell (.int .i64 t49), Seg.cell (.int .i64 t70), Seg.cell (.int .i64 t56), Seg.cell (.int .i64 t63), Seg.cell (.int .i64 t77), Seg.cell v87 o88.one] ∧ Gr w w') ?_ ?_
 ·refine cw_block ?_
  refine cw_round (fun (s83 : Int × (List Int)) ρ' w' => ∃ v90 : Value, ∃ o91 : Own (kI .i64) 3 w' w.heap.size v90 s83.2, ρ' 0 = V0_0 ∧ ρ' 2 = .pointer (some ⟨G4, 0, none⟩) ∧ ρ' 5 = .int .i64 t10.2.1 ∧ ρ' 6 = sv t10.2.2.1 ∧ ρ' 8 = .pointer (some ⟨G20, 0, none⟩) ∧ ρ' 9 = .int .i64 s83.1 ∧ Blk w' G4 110 [Seg.cell (.int .i64 (0 : Int)), Seg.cell (.int .i64 (0 : Int)), Seg.cell (.int .i64 (0 : Int)), Seg.cell (.int .i64 (0 : Int)), Seg.cell (.int .i64 (0 : Int)), Seg.cell (.int .i64 (0 : Int)), Seg.cell (.int .i64 (0 : Int)), Seg.cell (.int .i64 (0 : Int)), Seg.cell (.slice none 0 0) (by rfl)] ∧ Blk w' G20 110 [Seg.cell (.int .i64 t28), Seg.cell (.int .i64 t35), Seg.cell (.int .i64 t42), Seg.cell (.int .i64 t49), Seg.cell (.int .i64 t70), Seg.cell (.int .i64 t56), Seg.cell (.int .i64 t63), Seg.cell (.int .i64 t77), Seg.cell v90 o91.one] ∧ Gr w w') l85 ?_ ?_
  ·skip
   exact ⟨(.slice none 0 0), Own.nil _ _ _ _, e0, e2, e5, e6, rfl, rfl, b5, b21, fB⟩
  rintro s83 x95 ρ93 w94 ⟨v90, o91, e0, e2, e5, e6, e8, e9, b5, b21, fB⟩ h
  unfold rickyardref13_Get.s0 at h
  refine cw_seq ?_
  refine cw_seq ?_
  refine cw_region ?_
  refine ol_val (v := .int .i64 s83.1) (by exact xr_move rfl e9) rfl rfl rfl ?_
  refine ol_val (v := .int .i64 t10.2.1) (by exact xr_move rfl e5) rfl rfl rfl ?_
  refine ol_val (v := .bool (decide (s83.1 < t10.2.1))) (by exact xr_lss rfl rfl rfl) rfl rfl rfl ?_
  refine ol_nil ?_
  rcases is h with ⟨c96, h⟩ | ⟨c96, h⟩
  ·refine cw_condT rfl c96 ?_
   refine cw_skip ?_
   refine cw_seq ?_
   refine cw_block ?_
   obtain ⟨g97, h⟩ := gs h
   obtain ⟨t98, k99, h⟩ := bs h
   refine cw_drawL 12 [fun vz wz => vz = (.pointer (some ⟨G20, 8, none⟩) : Value), fun vz wz => vz = (v90 : Value), fun vz wz => vz = (sv t10.2.2.1 : Value), fun vz wz => vz = (.int .i64 s83.1 : Value), fun vz wz => vz = (.int .i64 (IntKind.i64.wrap (2 * s83.1)) : Value), fun vz wz => vz = (.int .i64 (IntKind.i64.wrap (32 + (IntKind.i64.wrap (2 * s83.1)))) : Value), fun vz wz => vz = (.int .i64 s83.1 : Value), fun vz wz => vz = (.int .i64 (IntKind.i64.wrap (2 * s83.1)) : Value), fun vz wz => vz = (.int .i64 (IntKind.i64.wrap (34 + (IntKind.i64.wrap (2 * s83.1)))) : Value), fun vz wz => vz = (sv (cut t10.2.2.1 (IntKind.i64.wrap (32 + (IntKind.i64.wrap (2 * s83.1)))) (IntKind.i64.wrap (34 + (IntKind.i64.wrap (2 * s83.1))))) : Value), fun vz wz => vz = (.int .i64 t98 : Value), fun vz wz => ∃ v101 : Value, ∃ o103 : Own (kI .i64) 3 wz w.heap.size v101 [t98], vz = (v101 : Value)] mo rfl ⟨fun _ _ _ h _ => h, fun _ _ _ h _ => h, fun _ _ _ h _ => h, fun _ _ _ h _ => h, fun _ _ _ h _ => h, fun _ _ _ h _ => h, fun _ _ _ h _ => h, fun _ _ _ h _ => h, fun _ _ _ h _ => h, fun _ _ _ h _ => h, fun _ _ _ h _ => h, fun _ _ _ ⟨v101, o103, h⟩ q => ⟨v101, o103.gr q, h⟩, trivial⟩ ?_ ?_
   ·refine ⟨?_, ?_, ?_, ?_, ?_, ?_, ?_, ?_, ?_, ?_, ?_, ?_, trivial⟩
    ·intro ρz wz hz hk hd
     exact sk_val (v := .pointer (some ⟨G20, 8, none⟩)) (by exact xr_fieldAddr (p := 0) (q := 8) rfl fl110_3 ((hk 8 rfl).trans e8)) rfl rfl
    ·intro ρz wz hz hk hd
     have d74 := hd 0 rfl 74 rfl
     exact sk_val (v := v90) (by exact xr_load1 (v := v90) rfl ag25 d74 ((b21.gr hz).seg 8 rfl rfl)) rfl rfl
    ·intro ρz wz hz hk hd
     exact sk_val (v := sv t10.2.2.1) (by exact xr_move rfl ((hk 6 rfl).trans e6)) rfl rfl
    ·intro ρz wz hz hk hd
     exact sk_val (v := .int .i64 s83.1) (by exact xr_move rfl ((hk 9 rfl).trans e9)) rfl rfl
    ·intro ρz wz hz hk hd
     have d77 := hd 3 rfl 77 rfl
     exact sk_val (v := .int .i64 (IntKind.i64.wrap (2 * s83.1))) (by exact xr_mul rfl rfl d77) rfl rfl
    ·intro ρz wz hz hk hd
     have d78 := hd 4 rfl 78 rfl
     exact sk_val (by exact xr_add rfl rfl d78) rfl rfl
    ·intro ρz wz hz hk hd
     exact sk_val (v := .int .i64 s83.1) (by exact xr_move rfl ((hk 9 rfl).trans e9)) rfl rfl
    ·intro ρz wz hz hk hd
     have d80 := hd 6 rfl 80 rfl
     exact sk_val (v := .int .i64 (IntKind.i64.wrap (2 * s83.1))) (by exact xr_mul rfl rfl d80) rfl rfl
    ·intro ρz wz hz hk hd
     have d81 := hd 7 rfl 81 rfl
     exact sk_val (by exact xr_add rfl rfl d81) rfl rfl
    ·intro ρz wz hz hk hd
     have d76 := hd 2 rfl 76 rfl
     have d79 := hd 5 rfl 79 rfl
     have d82 := hd 8 rfl 82 rfl
     exact sk_val (by exact xr_str_lh rfl Try.underlying9 d76 d79 d82 g97.1 g97.2.1 g97.2.2) rfl rfl
    ·intro ρz wz hz hk hd
     have d83 := hd 9 rfl 83 rfl
     refine sk_op (by exact opv_call rfl cal135 (ac d83 an) (rickyardref01_Int.ok fu _ (cut t10.2.2.1 (IntKind.i64.wrap (32 + (IntKind.i64.wrap (2 * s83.1)))) (IntKind.i64.wrap (34 + (IntKind.i64.wrap (2 * s83.1))))) _ k99)) rfl ?_
     rintro _ wy ⟨rfl, q100⟩
     exact ⟨rfl, q100⟩
    intro ρz wz hz hk hd
    have d84 := hd 10 rfl 84 rfl
    refine sk_op (by exact opv_buildSlice (K := (kI .i64)) (xs := [t98]) (vals := [.int .i64 t98]) rfl Try.underlying25 el3 rfl rfl ⟨rfl, d84, trivial⟩ rfl rfl rfl (Nat.le_trans fB.size hz.size)) rfl ?_
    rintro v101 wy ⟨o103, q102, z104⟩
    exact ⟨⟨v101, o103, rfl⟩, q102⟩
   intro ρ106 w107 q108 hk hd
   have e0 := (hk 0 rfl).trans e0
   have e2 := (hk 2 rfl).trans e2
   have e5 := (hk 5 rfl).trans e5
   have e6 := (hk 6 rfl).trans e6
   have e8 := (hk 8 rfl).trans e8
   have e9 := (hk 9 rfl).trans e9
   have e75 := hd 1 rfl 75 rfl
   obtain ⟨v109, o110, e85⟩ := hd 11 rfl 85 rfl
   have b5 := b5.gr q108
   have b21 := b21.gr q108
   have o91 := o91.gr q108
   have fB := fB.gr q108
   obtain ⟨g116, h⟩ := gs h
   have f118 := off_ty b5 o91 (by decide)
   have f119 := off_ty b21 o91 (by decide)
   have f120 := o91.geO
   refine ol_op (by exact opv_append (K := (kI .i64)) rfl Try.underlying25 el3 rfl rfl rfl e75 e85 o91 o110.rd g116 fB.size) rfl rfl rfl ?_
   rintro v112 w121 ⟨o113, q114, n115⟩
   have b5 := b5.wrO q114 f118
   have b21 := b21.wrO q114 f119
   have fB := fB.wrO q114 f120
   refine ol_val (v := .pointer (some ⟨G20, 8, none⟩)) (by exact xr_fieldAddr (p := 0) (q := 8) rfl fl110_3 e8) rfl rfl rfl ?_
   have f123 := off_ty b21 o113 (by decide)
   refine ol_op0 (by exact opv_store (ss' := [Seg.cell (.int .i64 t28), Seg.cell (.int .i64 t35), Seg.cell (.int .i64 t42), Seg.cell (.int .i64 t49), Seg.cell (.int .i64 t70), Seg.cell (.int .i64 t56), Seg.cell (.int .i64 t63), Seg.cell (.int .i64 t77), Seg.cell v112 o113.one]) (xs := cellsOf [Seg.cell v112 o113.one]) rfl sz25 rfl rfl (cells_one o113.one) (len_cellsOf _) (one_cellsOf _) b21 (Spl.segs _ 8 1 [Seg.cell v112 o113.one] rfl rfl)) rfl rfl ?_
   rintro _ w124 ⟨b21, q122⟩
   have b5 := b5.wr q122 n26
   have o113 := o113.wr q122 f123
   have fB := fB.wr q122 z23
   refine ol_nil ?_
   refine blk_i ?_
   refine cw_region ?_
   refine ol_val (v := .int .i64 s83.1) (by exact xr_move rfl e9) rfl rfl rfl ?_
   refine ol_val (v := .int .i64 (IntKind.i64.wrap (s83.1 + 1))) (by exact xr_add rfl rfl rfl) rfl rfl rfl ?_
   refine ol_val (v := .int .i64 (IntKind.i64.wrap (s83.1 + 1))) (by exact xr_assign rfl rfl) rfl rfl rfl ?_
   refine ol_nil ?_
   obtain rfl := Option.some.inj h
   refine lp_in ?_
   exact ⟨v112, o113, e0, e2, e5, e6, e8, rfl, b5, b21, fB⟩
  refine cw_condF rfl c96 ?_
  refine cw_exit ?_
  repeat (first | with_reducible refine thn_e ?_ | with_reducible refine blk_e rfl ?_)
  obtain rfl := Option.some.inj h
  refine lp_exit ?_
  rintro rfl
  refine thn_x ?_
  exact ⟨v90, o91, e0, e2, e8, b5, b21, fB⟩
 rintro ρ125 w126 ⟨v87, o88, e0, e2, e8, b5, b21, fB⟩
 have h := h86
 refine cw_seq ?_
 refine cw_seq ?_
 obtain ⟨x127, j128, h⟩ := bs h
 refine cw_mid (fun ρ' w' => ρ' 2 = .pointer (some ⟨G4, 0, none⟩) ∧ ρ' 8 = .pointer (some ⟨G20, 0, none⟩) ∧ ρ' 97 = .bool x127 ∧ Gr w126 w') ?_ ?_
 ·skip
  obtain ⟨t129, k130, j128⟩ := bs j128
  rcases is j128 with ⟨c132, j128⟩ | ⟨c132, j128⟩
  ·skip
   refine cw_drawL 9 [fun vz wz => vz = (aggV [Seg.cell (.int .i64 t28), Seg.cell (.int .i64 t35), Seg.cell (.int .i64 t42), Seg.cell (.int .i64 t49), Seg.cell (.int .i64 t70), Seg.cell (.int .i64 t56), Seg.cell (.int .i64 t63), Seg.cell (.int .i64 t77), Seg.cell v87 o88.one] : Value), fun vz wz => vz = (.bool t129 : Value), fun vz wz => vz = (.bool (!t129) : Value), fun vz wz => vz = (.bool (!t129) : Value), fun vz _ => vz = undef, fun vz _ => vz = undef, fun vz _ => vz = undef, fun vz _ => vz = undef, fun vz _ => vz = undef] mo rfl ⟨fun _ _ _ h _ => h, fun _ _ _ h _ => h, fun _ _ _ h _ => h, fun _ _ _ h _ => h, fun _ _ _ h _ => h, fun _ _ _ h _ => h, fun _ _ _ h _ => h, fun _ _ _ h _ => h, fun _ _ _ h _ => h, trivial⟩ ?_ ?_
   ·refine ⟨?_, ?_, ?_, ?_, ?_, ?_, ?_, ?_, ?_, trivial⟩
    ·intro ρz wz hz hk hd
     exact sk_val (by exact xr_loadS (ss := [Seg.cell (.int .i64 t28), Seg.cell (.int .i64 t35), Seg.cell (.int .i64 t42), Seg.cell (.int .i64 t49), Seg.cell (.int .i64 t70), Seg.cell (.int .i64 t56), Seg.cell (.int .i64 t63), Seg.cell (.int .i64 t77), Seg.cell v87 o88.one]) rfl ag110 sz110 rfl ((hk 8 rfl).trans e8) ((b21.gr hz).segs 0 9 rfl)) rfl rfl
    ·intro ρz wz hz hk hd
     have d88 := hd 0 rfl 88 rfl
     refine sk_op (by exact opv_call rfl cal75 (ac d88 an) (rickyardref13_Right.ok fu _ (⟨t28, (⟨(⟨t35, t42, t49⟩ : S_api_Geometry), t70, t56, t63⟩ : S_api_Tickets), t77, e84⟩ : S_api_Super) v87 (o88.gr hz).rd _ k130)) rfl ?_
     rintro _ wy ⟨rfl, q131⟩
     exact ⟨rfl, q131⟩
    ·intro ρz wz hz hk hd
     have d89 := hd 1 rfl 89 rfl
     exact sk_val (v := .bool (!t129)) (by exact xr_not rfl d89) rfl rfl
    ·intro ρz wz hz hk hd
     have d90 := hd 2 rfl 90 rfl
     exact sk_val (v := .bool (!t129)) (by exact xr_move rfl d90) rfl rfl
    ·intro ρz wz hz hk hd
     have d91 := hd 3 rfl 91 rfl
     exact sk_skip rfl rfl d91 c132 rfl
    ·intro ρz wz hz hk hd
     have d91 := hd 3 rfl 91 rfl
     exact sk_skip rfl rfl d91 c132 rfl
    ·intro ρz wz hz hk hd
     have d91 := hd 3 rfl 91 rfl
     exact sk_skip rfl rfl d91 c132 rfl
    ·intro ρz wz hz hk hd
     have d91 := hd 3 rfl 91 rfl
     exact sk_skip rfl rfl d91 c132 rfl
    intro ρz wz hz hk hd
    have d91 := hd 3 rfl 91 rfl
    exact sk_skip rfl rfl d91 c132 rfl
   intro ρ133 w134 q135 hk hd
   have e2 := (hk 2 rfl).trans e2
   have e8 := (hk 8 rfl).trans e8
   have e91 := hd 3 rfl 91 rfl
   have b5 := b5.gr q135
   have b21 := b21.gr q135
   have o88 := o88.gr q135
   have fB := fB.gr q135
   refine ol_val (v := .bool true) (by exact xr_pickT rfl e91 c132 rfl) rfl rfl rfl ?_
   refine ol_nil ?_
   obtain rfl := Option.some.inj j128
   refine thn_i ?_
   exact ⟨e2, e8, rfl, q135⟩
  obtain ⟨t136, k137, j128⟩ := bs j128
  refine cw_drawL 9 [fun vz wz => vz = (aggV [Seg.cell (.int .i64 t28), Seg.cell (.int .i64 t35), Seg.cell (.int .i64 t42), Seg.cell (.int .i64 t49), Seg.cell (.int .i64 t70), Seg.cell (.int .i64 t56), Seg.cell (.int .i64 t63), Seg.cell (.int .i64 t77), Seg.cell v87 o88.one] : Value), fun vz wz => vz = (.bool t129 : Value), fun vz wz => vz = (.bool (!t129) : Value), fun vz wz => vz = (.bool (!t129) : Value), fun vz wz => vz = (aggV [Seg.cell (.int .i64 t28), Seg.cell (.int .i64 t35), Seg.cell (.int .i64 t42), Seg.cell (.int .i64 t49), Seg.cell (.int .i64 t70), Seg.cell (.int .i64 t56), Seg.cell (.int .i64 t63), Seg.cell (.int .i64 t77), Seg.cell v87 o88.one] : Value), fun vz wz => vz = (sv t136 : Value), fun vz wz => vz = (V0_0 : Value), fun vz wz => vz = (sv (List.map toB a0) : Value), fun vz wz => vz = (.bool (!decide (t136 = (List.map toB a0))) : Value)] mo rfl ⟨fun _ _ _ h _ => h, fun _ _ _ h _ => h, fun _ _ _ h _ => h, fun _ _ _ h _ => h, fun _ _ _ h _ => h, fun _ _ _ h _ => h, fun _ _ _ h _ => h, fun _ _ _ h _ => h, fun _ _ _ h _ => h, trivial⟩ ?_ ?_
  ·refine ⟨?_, ?_, ?_, ?_, ?_, ?_, ?_, ?_, ?_, trivial⟩
   ·intro ρz wz hz hk hd
    exact sk_val (by exact xr_loadS (ss := [Seg.cell (.int .i64 t28), Seg.cell (.int .i64 t35), Seg.cell (.int .i64 t42), Seg.cell (.int .i64 t49), Seg.cell (.int .i64 t70), Seg.cell (.int .i64 t56), Seg.cell (.int .i64 t63), Seg.cell (.int .i64 t77), Seg.cell v87 o88.one]) rfl ag110 sz110 rfl ((hk 8 rfl).trans e8) ((b21.gr hz).segs 0 9 rfl)) rfl rfl
   ·intro ρz wz hz hk hd
    have d88 := hd 0 rfl 88 rfl
    refine sk_op (by exact opv_call rfl cal75 (ac d88 an) (rickyardref13_Right.ok fu _ (⟨t28, (⟨(⟨t35, t42, t49⟩ : S_api_Geometry), t70, t56, t63⟩ : S_api_Tickets), t77, e84⟩ : S_api_Super) v87 (o88.gr hz).rd _ k130)) rfl ?_
    rintro _ wy ⟨rfl, q131⟩
    exact ⟨rfl, q131⟩
   ·intro ρz wz hz hk hd
    have d89 := hd 1 rfl 89 rfl
    exact sk_val (v := .bool (!t129)) (by exact xr_not rfl d89) rfl rfl
   ·intro ρz wz hz hk hd
    have d90 := hd 2 rfl 90 rfl
    exact sk_val (v := .bool (!t129)) (by exact xr_move rfl d90) rfl rfl
   ·intro ρz wz hz hk hd
    have d91 := hd 3 rfl 91 rfl
    exact sk_gval (by exact xr_loadS (ss := [Seg.cell (.int .i64 t28), Seg.cell (.int .i64 t35), Seg.cell (.int .i64 t42), Seg.cell (.int .i64 t49), Seg.cell (.int .i64 t70), Seg.cell (.int .i64 t56), Seg.cell (.int .i64 t63), Seg.cell (.int .i64 t77), Seg.cell v87 o88.one]) rfl ag110 sz110 rfl ((hk 8 rfl).trans e8) ((b21.gr hz).segs 0 9 rfl)) rfl rfl d91 c132 rfl
   ·intro ρz wz hz hk hd
    have d92 := hd 4 rfl 92 rfl
    have d91 := hd 3 rfl 91 rfl
    refine sk_gop (by exact opv_call rfl cal76 (ac d92 an) (rickyardref13_Put.ok fu _ (⟨t28, (⟨(⟨t35, t42, t49⟩ : S_api_Geometry), t70, t56, t63⟩ : S_api_Tickets), t77, e84⟩ : S_api_Super) v87 (o88.gr hz).rd _ k137)) rfl rfl d91 c132 ?_
    rintro _ wy ⟨rfl, q138⟩
    exact ⟨rfl, q138⟩
   ·intro ρz wz hz hk hd
    have d91 := hd 3 rfl 91 rfl
    exact sk_gval (v := V0_0) (by exact xr_move rfl ((hk 0 rfl).trans e0)) rfl rfl d91 c132 rfl
   ·intro ρz wz hz hk hd
    have d94 := hd 6 rfl 94 rfl
    have d91 := hd 3 rfl 91 rfl
    exact sk_gval (v := sv (List.map toB a0)) (by exact xr_toStr rfl Try.underlying43 Try.underlying5 Try.underlying9 d94 (R0_0.gr (fB.gr hz))) rfl rfl d91 c132 rfl
   intro ρz wz hz hk hd
   have d93 := hd 5 rfl 93 rfl
   have d95 := hd 7 rfl 95 rfl
   have d91 := hd 3 rfl 91 rfl
   exact sk_gval (v := .bool (!decide (t136 = (List.map toB a0)))) (by exact xr_neStr rfl Try.underlying9 d93 d95) rfl rfl d91 c132 rfl
  intro ρ139 w140 q141 hk hd
  have e2 := (hk 2 rfl).trans e2
  have e8 := (hk 8 rfl).trans e8
  have e91 := hd 3 rfl 91 rfl
  have e96 := hd 8 rfl 96 rfl
  have b5 := b5.gr q141
  have b21 := b21.gr q141
  have o88 := o88.gr q141
  have fB := fB.gr q141
  refine ol_val (v := .bool (!decide (t136 = (List.map toB a0)))) (by exact xr_pickF rfl e91 c132 e96) rfl rfl rfl ?_
  refine ol_nil ?_
  obtain rfl := Option.some.inj j128
  refine thn_i ?_
  exact ⟨e2, e8, rfl, q141⟩
 rintro ρ142 w143 ⟨e2, e8, e97, q144⟩
 have b5 := b5.gr q144
 have b21 := b21.gr q144
 have o88 := o88.gr q144
 have fB := fB.gr q144
 rcases is h with ⟨c145, h⟩ | ⟨c145, h⟩
 ·refine cw_condT e97 c145 ?_
  refine cw_seq ?_
  refine cw_region ?_
  refine ol_val (v := aggV [Seg.cell (.int .i64 (0 : Int)), Seg.cell (.int .i64 (0 : Int)), Seg.cell (.int .i64 (0 : Int)), Seg.cell (.int .i64 (0 : Int)), Seg.cell (.int .i64 (0 : Int)), Seg.cell (.int .i64 (0 : Int)), Seg.cell (.int .i64 (0 : Int)), Seg.cell (.int .i64 (0 : Int)), Seg.cell (.slice none 0 0) (by rfl)]) (by exact xr_build (vals := []) rfl trivial (bl110_ _)) rfl rfl rfl ?_
  refine ol_op0 (by exact opv_store (ss' := [Seg.cell (.int .i64 (0 : Int)), Seg.cell (.int .i64 (0 : Int)), Seg.cell (.int .i64 (0 : Int)), Seg.cell (.int .i64 (0 : Int)), Seg.cell (.int .i64 (0 : Int)), Seg.cell (.int .i64 (0 : Int)), Seg.cell (.int .i64 (0 : Int)), Seg.cell (.int .i64 (0 : Int)), Seg.cell (.slice none 0 0) (by rfl)]) (xs := cellsOf [Seg.cell (.int .i64 (0 : Int)), Seg.cell (.int .i64 (0 : Int)), Seg.cell (.int .i64 (0 : Int)), Seg.cell (.int .i64 (0 : Int)), Seg.cell (.int .i64 (0 : Int)), Seg.cell (.int .i64 (0 : Int)), Seg.cell (.int .i64 (0 : Int)), Seg.cell (.int .i64 (0 : Int)), Seg.cell (.slice none 0 0) (by rfl)]) rfl sz110 e2 rfl rfl (len_cellsOf _) (one_cellsOf _) b5 (Spl.segs _ 0 9 [Seg.cell (.int .i64 (0 : Int)), Seg.cell (.int .i64 (0 : Int)), Seg.cell (.int .i64 (0 : Int)), Seg.cell (.int .i64 (0 : Int)), Seg.cell (.int .i64 (0 : Int)), Seg.cell (.int .i64 (0 : Int)), Seg.cell (.int .i64 (0 : Int)), Seg.cell (.int .i64 (0 : Int)), Seg.cell (.slice none 0 0) (by rfl)] rfl rfl)) rfl rfl ?_
  rintro _ w147 ⟨b5, q146⟩
  have fB := fB.wr q146 z7
  refine ol_val (v := .bool false) (by exact xr_assign rfl rfl) rfl rfl rfl ?_
  refine ol_nil ?_
  refine cw_ret ?_
  repeat (first | with_reducible refine thn_r ?_ | with_reducible refine blk_r ?_)
  obtain rfl := Option.some.inj h
  refine fin_cell_tmp Try.results114 e2 ag110 sz110 b5 (by rfl) rfl ?_
  exact ⟨_, rfl, (.slice none 0 0), Own.nil _ _ _ _, rfl, fB⟩
 refine cw_condF e97 c145 ?_
 refine cw_skip ?_
 refine cw_seq ?_
 refine cw_region ?_
 refine ol_val (v := aggV [Seg.cell (.int .i64 t28), Seg.cell (.int .i64 t35), Seg.cell (.int .i64 t42), Seg.cell (.int .i64 t49), Seg.cell (.int .i64 t70), Seg.cell (.int .i64 t56), Seg.cell (.int .i64 t63), Seg.cell (.int .i64 t77), Seg.cell v87 o88.one]) (by exact xr_loadS (ss := [Seg.cell (.int .i64 t28), Seg.cell (.int .i64 t35), Seg.cell (.int .i64 t42), Seg.cell (.int .i64 t49), Seg.cell (.int .i64 t70), Seg.cell (.int .i64 t56), Seg.cell (.int .i64 t63), Seg.cell (.int .i64 t77), Seg.cell v87 o88.one]) rfl ag110 sz110 rfl e8 (b21.segs 0 9 rfl)) rfl rfl rfl ?_
 have f149 := off_ty b5 o88 (by decide)
 refine ol_op0 (by exact opv_store (ss' := [Seg.cell (.int .i64 t28), Seg.cell (.int .i64 t35), Seg.cell (.int .i64 t42), Seg.cell (.int .i64 t49), Seg.cell (.int .i64 t70), Seg.cell (.int .i64 t56), Seg.cell (.int .i64 t63), Seg.cell (.int .i64 t77), Seg.cell v87 o88.one]) (xs := cellsOf [Seg.cell (.int .i64 t28), Seg.cell (.int .i64 t35), Seg.cell (.int .i64 t42), Seg.cell (.int .i64 t49), Seg.cell (.int .i64 t70), Seg.cell (.int .i64 t56), Seg.cell (.int .i64 t63), Seg.cell (.int .i64 t77), Seg.cell v87 o88.one]) rfl sz110 e2 rfl rfl (len_cellsOf _) (one_cellsOf _) b5 (Spl.segs _ 0 9 [Seg.cell (.int .i64 t28), Seg.cell (.int .i64 t35), Seg.cell (.int .i64 t42), Seg.cell (.int .i64 t49), Seg.cell (.int .i64 t70), Seg.cell (.int .i64 t56), Seg.cell (.int .i64 t63), Seg.cell (.int .i64 t77), Seg.cell v87 o88.one] rfl rfl)) rfl rfl ?_
 rintro _ w150 ⟨b5, q148⟩
 have o88 := o88.wr q148 f149
 have fB := fB.wr q148 z7
 refine ol_val (v := .bool true) (by exact xr_assign rfl rfl) rfl rfl rfl ?_
 refine ol_nil ?_
 refine cw_ret ?_
 repeat (first | with_reducible refine thn_r ?_ | with_reducible refine blk_r ?_)
 obtain rfl := Option.some.inj h
 refine fin_cell_tmp Try.results114 e2 ag110 sz110 b5 (by rfl) rfl ?_
 exact ⟨_, rfl, v87, o88, rfl, fB⟩
def rickyardref16_At.f (fu : Nat) (a0 : List UInt8) (a1 : Int) : Option (S_api_Super × Bool) := (if (if (decide (a1 < 0)) = true then true else (if (decide (a1 > 1)) = true then true else (decide ((List.length a0 : Int) < (IntKind.i64.wrap ((IntKind.i64.wrap (64 * a1)) + 64)))))) = true then some ((⟨(0 : Int), (⟨(⟨(0 : Int), (0 : Int), (0 : Int)⟩ : S_api_Geometry), (0 : Int), (0 : Int), (0 : Int)⟩ : S_api_Tickets), (0 : Int), []⟩ : S_api_Super), false) else (if (0 : Int) ≤ (IntKind.i64.wrap (64 * a1)) ∧ (IntKind.i64.wrap (64 * a1)) ≤ (IntKind.i64.wrap ((IntKind.i64.wrap (64 * a1)) + 64)) ∧ (IntKind.i64.wrap ((IntKind.i64.wrap (64 * a1)) + 64)) ≤ (List.length a0 : Int) then ((rickyardref13_Get.f fu (List.map ofB (cut a0 (IntKind.i64.wrap (64 * a1)) (IntKind.i64.wrap ((IntKind.i64.wrap (64 * a1)) + 64)))) : Option (S_api_Super × Bool)).bind fun t21 => some (t21.1, t21.2)) else none))
set_option maxRecDepth 100000 in
set_option maxHeartbeats 400000 in
theorem rickyardref16_At.ok (fu : Nat) (w : World) (a0 : List UInt8) (a1 : Int) (r : S_api_Super × Bool) (h : rickyardref16_At.f fu a0 a1 = some r) :
  Calls Try.prog 71 (([sv a0, .int .i64 a1] : List Value).toArray) w (fun e w' => ∃ v, e = .returned v ∧ ∃ u1 : Value, ∃ o2 : Own (kI .i64) 3 w' w.heap.size u1 r.1.Charts, v = .tuple #[aggV [Seg.cell (.int .i64 r.1.Epoch), Seg.cell (.int .i64 r.1.Tickets.Geometry.Blocks), Seg.cell (.int .i64 r.1.Tickets.Geometry.Slots), Seg.cell (.int .i64 r.1.Tickets.Geometry.Gens), Seg.cell (.int .i64 r.1.Tickets.Top), Seg.cell (.int .i64 r.1.Tickets.High), Seg.cell (.int .i64 r.1.Tickets.Free), Seg.cell (.int .i64 r.1.Dir), Seg.cell u1 o2.one], .bool r.2] ∧ Gr w w') := by
 unfold rickyardref16_At.f at h
 have fB : Gr w w := Fr.refl _ _
 refine calls_cw Try.func71 rfl Try.ntmps71 rfl ?_
 refine cw_seq ?_
 refine cw_region ?_
 refine ol_op (by exact opv_alloc (ss := [Seg.cell (.int .i64 (0 : Int)), Seg.cell (.int .i64 (0 : Int)), Seg.cell (.int .i64 (0 : Int)), Seg.cell (.int .i64 (0 : Int)), Seg.cell (.int .i64 (0 : Int)), Seg.cell (.int .i64 (0 : Int)), Seg.cell (.int .i64 (0 : Int)), Seg.cell (.int .i64 (0 : Int)), Seg.cell (.slice none 0 0) (by rfl)]) rfl ze110 rfl) rfl rfl rfl ?_
 rintro _ w9 ⟨G4, rfl, b5, q6, z7⟩
 have z7 := Nat.le_trans fB.size z7
 have fB := fB.gr q6
 refine ol_val (v := .bool false) (by exact xr_assign rfl rfl) rfl rfl rfl ?_
 refine ol_nil ?_
 refine cw_seq ?_
 refine cw_seq ?_
 refine cw_mid (fun ρ' w' => ρ' 0 = sv a0 ∧ ρ' 1 = .int .i64 a1 ∧ ρ' 4 = .pointer (some ⟨G4, 0, none⟩) ∧ ρ' 19 = .bool (if (decide (a1 < 0)) = true then true else (if (decide (a1 > 1)) = true then true else (decide ((List.length a0 : Int) < (IntKind.i64.wrap ((IntKind.i64.wrap (64 * a1)) + 64)))))) ∧ w9 = w') ?_ ?_
 ·skip
  refine cw_region ?_
  refine ol_val (v := .int .i64 a1) (by exact xr_move rfl rfl) rfl rfl rfl ?_
  refine ol_val (v := .bool (decide (a1 < 0))) (by exact xr_lss rfl rfl rfl) rfl rfl rfl ?_
  refine ol_val (v := .bool (decide (a1 < 0))) (by exact xr_move rfl rfl) rfl rfl rfl ?_
  rcases bt (decide (a1 < 0)) with c10 | c10
  ·skip
   refine ol_gskip rfl rfl rfl rfl rfl c10 ?_
   refine ol_gskip rfl rfl rfl rfl rfl c10 ?_
   refine ol_val (v := .bool true) (by exact xr_pickT rfl rfl c10 rfl) rfl rfl rfl ?_
   refine ol_val (v := .bool true) (by exact xr_move rfl rfl) rfl rfl rfl ?_
   refine ol_gskip rfl rfl rfl rfl rfl rfl ?_
   refine ol_gskip rfl rfl rfl rfl rfl rfl ?_
   refine ol_gskip rfl rfl rfl rfl rfl rfl ?_
   refine ol_gskip rfl rfl rfl rfl rfl rfl ?_
   refine ol_gskip rfl rfl rfl rfl rfl rfl ?_
   refine ol_gskip rfl rfl rfl rfl rfl rfl ?_
   refine ol_val (v := .bool true) (by exact xr_pickT rfl rfl rfl rfl) rfl rfl rfl ?_
   refine ol_nil ?_
   refine thn_i ?_
   exact ⟨rfl, rfl, rfl, (rfl).trans (congrArg (fun z => (.bool z : Value)) (show true = (if (decide (a1 < 0)) = true then true else (if (decide (a1 > 1)) = true then true else (decide ((List.length a0 : Int) < (IntKind.i64.wrap ((IntKind.i64.wrap (64 * a1)) + 64)))))) from by rw [ite_t c10])), rfl⟩
  refine ol_gval (v := .int .i64 a1) (by exact xr_move rfl rfl) rfl rfl rfl rfl rfl c10 ?_
  refine ol_gval (v := .bool (decide (a1 > 1))) (by exact xr_gtr rfl rfl rfl) rfl rfl rfl rfl rfl c10 ?_
  refine ol_val (v := .bool (decide (a1 > 1))) (by exact xr_pickF rfl rfl c10 rfl) rfl rfl rfl ?_
  refine ol_val (v := .bool (decide (a1 > 1))) (by exact xr_move rfl rfl) rfl rfl rfl ?_
  rcases bt (decide (a1 > 1)) with c11 | c11
  ·skip
   refine ol_gskip rfl rfl rfl rfl rfl c11 ?_
   refine ol_gskip rfl rfl rfl rfl rfl c11 ?_
   refine ol_gskip rfl rfl rfl rfl rfl c11 ?_
   refine ol_gskip rfl rfl rfl rfl rfl c11 ?_
   refine ol_gskip rfl rfl rfl rfl rfl c11 ?_
   refine ol_gskip rfl rfl rfl rfl rfl c11 ?_
   refine ol_val (v := .bool true) (by exact xr_pickT rfl rfl c11 rfl) rfl rfl rfl ?_
   refine ol_nil ?_
   refine thn_i ?_
   exact ⟨rfl, rfl, rfl, (rfl).trans (congrArg (fun z => (.bool z : Value)) (show true = (if (decide (a1 < 0)) = true then true else (if (decide (a1 > 1)) = true then true else (decide ((List.length a0 : Int) < (IntKind.i64.wrap ((IntKind.i64.wrap (64 * a1)) + 64)))))) from by rw [ite_f c10, ite_t c11])), rfl⟩
  refine ol_gval (v := sv a0) (by exact xr_move rfl rfl) rfl rfl rfl rfl rfl c11 ?_
  refine ol_gval (v := .int .i64 (List.length a0 : Int)) (by exact xr_lenStr rfl Try.underlying9 rfl) rfl rfl rfl rfl rfl c11 ?_
  refine ol_gval (v := .int .i64 a1) (by exact xr_move rfl rfl) rfl rfl rfl rfl rfl c11 ?_
  refine ol_gval (v := .int .i64 (IntKind.i64.wrap (64 * a1))) (by exact xr_mul rfl rfl rfl) rfl rfl rfl rfl rfl c11 ?_
  refine ol_gval (v := .int .i64 (IntKind.i64.wrap ((IntKind.i64.wrap (64 * a1)) + 64))) (by exact xr_add rfl rfl rfl) rfl rfl rfl rfl rfl c11 ?_
  refine ol_gval (v := .bool (decide ((List.length a0 : Int) < (IntKind.i64.wrap ((IntKind.i64.wrap (64 * a1)) + 64))))) (by exact xr_lss rfl rfl rfl) rfl rfl rfl rfl rfl c11 ?_
  refine ol_val (v := .bool (decide ((List.length a0 : Int) < (IntKind.i64.wrap ((IntKind.i64.wrap (64 * a1)) + 64))))) (by exact xr_pickF rfl rfl c11 rfl) rfl rfl rfl ?_
  refine ol_nil ?_
  refine thn_i ?_
  exact ⟨rfl, rfl, rfl, (rfl).trans (congrArg (fun z => (.bool z : Value)) (show (decide ((List.length a0 : Int) < (IntKind.i64.wrap ((IntKind.i64.wrap (64 * a1)) + 64)))) = (if (decide (a1 < 0)) = true then true else (if (decide (a1 > 1)) = true then true else (decide ((List.length a0 : Int) < (IntKind.i64.wrap ((IntKind.i64.wrap (64 * a1)) + 64)))))) from by rw [ite_f c10, ite_f c11])), rfl⟩
 rintro ρ12 _ ⟨e0, e1, e4, e19, rfl⟩
 rcases is h with ⟨c13, h⟩ | ⟨c13, h⟩
 ·refine cw_condT e19 c13 ?_
  refine cw_seq ?_
  refine cw_region ?_
  refine ol_val (v := aggV [Seg.cell (.int .i64 (0 : Int)), Seg.cell (.int .i64 (0 : Int)), Seg.cell (.int .i64 (0 : Int)), Seg.cell (.int .i64 (0 : Int)), Seg.cell (.int .i64 (0 : Int)), Seg.cell (.int .i64 (0 : Int)), Seg.cell (.int .i64 (0 : Int)), Seg.cell (.int .i64 (0 : Int)), Seg.cell (.slice none 0 0) (by rfl)]) (by exact xr_build (vals := []) rfl trivial (bl110_ _)) rfl rfl rfl ?_
  refine ol_op0 (by exact opv_store (ss' := [Seg.cell (.int .i64 (0 : Int)), Seg.cell (.int .i64 (0 : Int)), Seg.cell (.int .i64 (0 : Int)), Seg.cell (.int .i64 (0 : Int)), Seg.cell (.int .i64 (0 : Int)), Seg.cell (.int .i64 (0 : Int)), Seg.cell (.int .i64 (0 : Int)), Seg.cell (.int .i64 (0 : Int)), Seg.cell (.slice none 0 0) (by rfl)]) (xs := cellsOf [Seg.cell (.int .i64 (0 : Int)), Seg.cell (.int .i64 (0 : Int)), Seg.cell (.int .i64 (0 : Int)), Seg.cell (.int .i64 (0 : Int)), Seg.cell (.int .i64 (0 : Int)), Seg.cell (.int .i64 (0 : Int)), Seg.cell (.int .i64 (0 : Int)), Seg.cell (.int .i64 (0 : Int)), Seg.cell (.slice none 0 0) (by rfl)]) rfl sz110 e4 rfl rfl (len_cellsOf _) (one_cellsOf _) b5 (Spl.segs _ 0 9 [Seg.cell (.int .i64 (0 : Int)), Seg.cell (.int .i64 (0 : Int)), Seg.cell (.int .i64 (0 : Int)), Seg.cell (.int .i64 (0 : Int)), Seg.cell (.int .i64 (0 : Int)), Seg.cell (.int .i64 (0 : Int)), Seg.cell (.int .i64 (0 : Int)), Seg.cell (.int .i64 (0 : Int)), Seg.cell (.slice none 0 0) (by rfl)] rfl rfl)) rfl rfl ?_
  rintro _ w15 ⟨b5, q14⟩
  have fB := fB.wr q14 z7
  refine ol_val (v := .bool false) (by exact xr_assign rfl rfl) rfl rfl rfl ?_
  refine ol_nil ?_
  refine cw_ret ?_
  repeat (first | with_reducible refine thn_r ?_ | with_reducible refine blk_r ?_)
  obtain rfl := Option.some.inj h
  refine fin_cell_tmp Try.results71 e4 ag110 sz110 b5 (by rfl) rfl ?_
  exact ⟨_, rfl, (.slice none 0 0), Own.nil _ _ _ _, rfl, fB⟩
 refine cw_condF e19 c13 ?_
 refine cw_skip ?_
 refine cw_seq ?_
 refine cw_region ?_
 refine ol_val (v := sv a0) (by exact xr_move rfl e0) rfl rfl rfl ?_
 refine ol_val (v := .int .i64 a1) (by exact xr_move rfl e1) rfl rfl rfl ?_
 refine ol_val (v := .int .i64 (IntKind.i64.wrap (64 * a1))) (by exact xr_mul rfl rfl rfl) rfl rfl rfl ?_
 refine ol_val (v := .int .i64 a1) (by exact xr_move rfl e1) rfl rfl rfl ?_
 refine ol_val (v := .int .i64 (IntKind.i64.wrap (64 * a1))) (by exact xr_mul rfl rfl rfl) rfl rfl rfl ?_
 refine ol_val (v := .int .i64 (IntKind.i64.wrap ((IntKind.i64.wrap (64 * a1)) + 64))) (by exact xr_add rfl rfl rfl) rfl rfl rfl ?_
 obtain ⟨g16, h⟩ := gs h
 refine ol_val (v := sv (cut a0 (IntKind.i64.wrap (64 * a1)) (IntKind.i64.wrap ((IntKind.i64.wrap (64 * a1)) + 64)))) (by exact xr_str_lh rfl Try.underlying9 rfl rfl rfl g16.1 g16.2.1 g16.2.2) rfl rfl rfl ?_
 refine ol_op (by exact opv_toBytes rfl Try.underlying9 Try.underlying43 Try.underlying5 rfl) rfl rfl rfl ?_
 rintro v17 w20 ⟨r19, q18⟩
 have b5 := b5.gr q18
 have fB := fB.gr q18
 obtain ⟨t21, k22, h⟩ := bs h
 refine ol_op (by exact opv_call rfl cal114 (ac rfl an) (rickyardref13_Get.ok fu _ (List.map ofB (cut a0 (IntKind.i64.wrap (64 * a1)) (IntKind.i64.wrap ((IntKind.i64.wrap (64 * a1)) + 64)))) v17 (r19) _ k22)) rfl rfl rfl ?_
 rintro _ w27 ⟨u23, o24, rfl, q26⟩
 have o24 := Own.base o24 fB.size
 have b5 := b5.gr q26
 have fB := fB.gr q26
 refine ol_val (v := aggV [Seg.cell (.int .i64 t21.1.Epoch), Seg.cell (.int .i64 t21.1.Tickets.Geometry.Blocks), Seg.cell (.int .i64 t21.1.Tickets.Geometry.Slots), Seg.cell (.int .i64 t21.1.Tickets.Geometry.Gens), Seg.cell (.int .i64 t21.1.Tickets.Top), Seg.cell (.int .i64 t21.1.Tickets.High), Seg.cell (.int .i64 t21.1.Tickets.Free), Seg.cell (.int .i64 t21.1.Dir), Seg.cell u23 o24.one]) (by exact xr_extract rfl rfl rfl) rfl rfl rfl ?_
 refine ol_val (v := .bool t21.2) (by exact xr_extract rfl rfl rfl) rfl rfl rfl ?_
 have f29 := off_ty b5 o24 (by decide)
 refine ol_op0 (by exact opv_store (ss' := [Seg.cell (.int .i64 t21.1.Epoch), Seg.cell (.int .i64 t21.1.Tickets.Geometry.Blocks), Seg.cell (.int .i64 t21.1.Tickets.Geometry.Slots), Seg.cell (.int .i64 t21.1.Tickets.Geometry.Gens), Seg.cell (.int .i64 t21.1.Tickets.Top), Seg.cell (.int .i64 t21.1.Tickets.High), Seg.cell (.int .i64 t21.1.Tickets.Free), Seg.cell (.int .i64 t21.1.Dir), Seg.cell u23 o24.one]) (xs := cellsOf [Seg.cell (.int .i64 t21.1.Epoch), Seg.cell (.int .i64 t21.1.Tickets.Geometry.Blocks), Seg.cell (.int .i64 t21.1.Tickets.Geometry.Slots), Seg.cell (.int .i64 t21.1.Tickets.Geometry.Gens), Seg.cell (.int .i64 t21.1.Tickets.Top), Seg.cell (.int .i64 t21.1.Tickets.High), Seg.cell (.int .i64 t21.1.Tickets.Free), Seg.cell (.int .i64 t21.1.Dir), Seg.cell u23 o24.one]) rfl sz110 e4 rfl rfl (len_cellsOf _) (one_cellsOf _) b5 (Spl.segs _ 0 9 [Seg.cell (.int .i64 t21.1.Epoch), Seg.cell (.int .i64 t21.1.Tickets.Geometry.Blocks), Seg.cell (.int .i64 t21.1.Tickets.Geometry.Slots), Seg.cell (.int .i64 t21.1.Tickets.Geometry.Gens), Seg.cell (.int .i64 t21.1.Tickets.Top), Seg.cell (.int .i64 t21.1.Tickets.High), Seg.cell (.int .i64 t21.1.Tickets.Free), Seg.cell (.int .i64 t21.1.Dir), Seg.cell u23 o24.one] rfl rfl)) rfl rfl ?_
 rintro _ w30 ⟨b5, q28⟩
 have o24 := o24.wr q28 f29
 have fB := fB.wr q28 z7
 refine ol_val (v := .bool t21.2) (by exact xr_assign rfl rfl) rfl rfl rfl ?_
 refine ol_nil ?_
 refine cw_ret ?_
 repeat (first | with_reducible refine thn_r ?_ | with_reducible refine blk_r ?_)
 obtain rfl := Option.some.inj h
 refine fin_cell_tmp Try.results71 e4 ag110 sz110 b5 (by rfl) rfl ?_
 exact ⟨_, rfl, u23, o24, rfl, fB⟩
def rickyardref16_Pick.f (fu : Nat) (a0 : List UInt8) : Option (S_api_Super × Int × Bool) := ((rickyardref16_At.f fu a0 0 : Option (S_api_Super × Bool)).bind fun t10 => ((rickyardref16_At.f fu a0 1 : Option (S_api_Super × Bool)).bind fun t27 => (if (if t27.2 = true then (if (!t10.2) = true then true else (decide (t27.1.Epoch > t10.1.Epoch))) else false) = true then some (t27.1, 1, true) else some (t10.1, 0, t10.2))))
set_option maxRecDepth 100000 in
set_option maxHeartbeats 400000 in
theorem rickyardref16_Pick.ok (fu : Nat) (w : World) (a0 : List UInt8) (r : S_api_Super × Int × Bool) (h : rickyardref16_Pick.f fu a0 = some r) :
  Calls Try.prog 73 (([sv a0] : List Value).toArray) w (fun e w' => ∃ v, e = .returned v ∧ ∃ u1 : Value, ∃ o2 : Own (kI .i64) 3 w' w.heap.size u1 r.1.Charts, v = .tuple #[aggV [Seg.cell (.int .i64 r.1.Epoch), Seg.cell (.int .i64 r.1.Tickets.Geometry.Blocks), Seg.cell (.int .i64 r.1.Tickets.Geometry.Slots), Seg.cell (.int .i64 r.1.Tickets.Geometry.Gens), Seg.cell (.int .i64 r.1.Tickets.Top), Seg.cell (.int .i64 r.1.Tickets.High), Seg.cell (.int .i64 r.1.Tickets.Free), Seg.cell (.int .i64 r.1.Dir), Seg.cell u1 o2.one], .int .i64 r.2.1, .bool r.2.2] ∧ Gr w w') := by
 unfold rickyardref16_Pick.f at h
 have fB : Gr w w := Fr.refl _ _
 refine calls_cw Try.func73 rfl Try.ntmps73 rfl ?_
 refine cw_seq ?_
 refine cw_region ?_
 refine ol_op (by exact opv_alloc (ss := [Seg.cell (.int .i64 (0 : Int)), Seg.cell (.int .i64 (0 : Int)), Seg.cell (.int .i64 (0 : Int)), Seg.cell (.int .i64 (0 : Int)), Seg.cell (.int .i64 (0 : Int)), Seg.cell (.int .i64 (0 : Int)), Seg.cell (.int .i64 (0 : Int)), Seg.cell (.int .i64 (0 : Int)), Seg.cell (.slice none 0 0) (by rfl)]) rfl ze110 rfl) rfl rfl rfl ?_
 rintro _ w9 ⟨G4, rfl, b5, q6, z7⟩
 have z7 := Nat.le_trans fB.size z7
 have fB := fB.gr q6
 refine ol_val (v := .int .i64 0) (by exact xr_assign rfl rfl) rfl rfl rfl ?_
 refine ol_val (v := .bool false) (by exact xr_assign rfl rfl) rfl rfl rfl ?_
 refine ol_nil ?_
 refine cw_seq ?_
 refine cw_region ?_
 refine ol_val (v := sv a0) (by exact xr_move rfl rfl) rfl rfl rfl ?_
 obtain ⟨t10, k11, h⟩ := bs h
 refine ol_op (by exact opv_call rfl cal71 (ac rfl (ac rfl an)) (rickyardref16_At.ok fu _ a0 0 _ k11)) rfl rfl rfl ?_
 rintro _ w16 ⟨u12, o13, rfl, q15⟩
 have o13 := Own.base o13 fB.size
 have b5 := b5.gr q15
 have fB := fB.gr q15
 refine ol_val (v := .tuple #[aggV [Seg.cell (.int .i64 t10.1.Epoch), Seg.cell (.int .i64 t10.1.Tickets.Geometry.Blocks), Seg.cell (.int .i64 t10.1.Tickets.Geometry.Slots), Seg.cell (.int .i64 t10.1.Tickets.Geometry.Gens), Seg.cell (.int .i64 t10.1.Tickets.Top), Seg.cell (.int .i64 t10.1.Tickets.High), Seg.cell (.int .i64 t10.1.Tickets.Free), Seg.cell (.int .i64 t10.1.Dir), Seg.cell u12 o13.one], .bool t10.2]) (by exact xr_move rfl rfl) rfl rfl rfl ?_
 refine ol_val (v := aggV [Seg.cell (.int .i64 t10.1.Epoch), Seg.cell (.int .i64 t10.1.Tickets.Geometry.Blocks), Seg.cell (.int .i64 t10.1.Tickets.Geometry.Slots), Seg.cell (.int .i64 t10.1.Tickets.Geometry.Gens), Seg.cell (.int .i64 t10.1.Tickets.Top), Seg.cell (.int .i64 t10.1.Tickets.High), Seg.cell (.int .i64 t10.1.Tickets.Free), Seg.cell (.int .i64 t10.1.Dir), Seg.cell u12 o13.one]) (by exact xr_extract rfl rfl rfl) rfl rfl rfl ?_
 refine ol_val (v := .bool t10.2) (by exact xr_extract rfl rfl rfl) rfl rfl rfl ?_
 refine ol_op (by exact opv_alloc (ss := [Seg.cell (.int .i64 (0 : Int)), Seg.cell (.int .i64 (0 : Int)), Seg.cell (.int .i64 (0 : Int)), Seg.cell (.int .i64 (0 : Int)), Seg.cell (.int .i64 (0 : Int)), Seg.cell (.int .i64 (0 : Int)), Seg.cell (.int .i64 (0 : Int)), Seg.cell (.int .i64 (0 : Int)), Seg.cell (.slice none 0 0) (by rfl)]) rfl ze110 rfl) rfl rfl rfl ?_
 rintro _ w22 ⟨G17, rfl, b18, q19, z20⟩
 have n23 := b5.ne z20
 have z20 := Nat.le_trans fB.size z20
 have b5 := b5.gr q19
 have o13 := o13.gr q19
 have fB := fB.gr q19
 have f25 := off_ty b18 o13 (by decide)
 refine ol_op0 (by exact opv_store (ss' := [Seg.cell (.int .i64 t10.1.Epoch), Seg.cell (.int .i64 t10.1.Tickets.Geometry.Blocks), Seg.cell (.int .i64 t10.1.Tickets.Geometry.Slots), Seg.cell (.int .i64 t10.1.Tickets.Geometry.Gens), Seg.cell (.int .i64 t10.1.Tickets.Top), Seg.cell (.int .i64 t10.1.Tickets.High), Seg.cell (.int .i64 t10.1.Tickets.Free), Seg.cell (.int .i64 t10.1.Dir), Seg.cell u12 o13.one]) (xs := cellsOf [Seg.cell (.int .i64 t10.1.Epoch), Seg.cell (.int .i64 t10.1.Tickets.Geometry.Blocks), Seg.cell (.int .i64 t10.1.Tickets.Geometry.Slots), Seg.cell (.int .i64 t10.1.Tickets.Geometry.Gens), Seg.cell (.int .i64 t10.1.Tickets.Top), Seg.cell (.int .i64 t10.1.Tickets.High), Seg.cell (.int .i64 t10.1.Tickets.Free), Seg.cell (.int .i64 t10.1.Dir), Seg.cell u12 o13.one]) rfl sz110 rfl rfl rfl (len_cellsOf _) (one_cellsOf _) b18 (Spl.segs _ 0 9 [Seg.cell (.int .i64 t10.1.Epoch), Seg.cell (.int .i64 t10.1.Tickets.Geometry.Blocks), Seg.cell (.int .i64 t10.1.Tickets.Geometry.Slots), Seg.cell (.int .i64 t10.1.Tickets.Geometry.Gens), Seg.cell (.int .i64 t10.1.Tickets.Top), Seg.cell (.int .i64 t10.1.Tickets.High), Seg.cell (.int .i64 t10.1.Tickets.Free), Seg.cell (.int .i64 t10.1.Dir), Seg.cell u12 o13.one] rfl rfl)) rfl rfl ?_
 rintro _ w26 ⟨b18, q24⟩
 have b5 := b5.wr q24 n23
 have o13 := o13.wr q24 f25
 have fB := fB.wr q24 z20
 refine ol_val (v := .bool t10.2) (by exact xr_assign rfl rfl) rfl rfl rfl ?_
 refine ol_nil ?_
 refine cw_seq ?_
 refine cw_region ?_
 refine ol_val (v := sv a0) (by exact xr_move rfl rfl) rfl rfl rfl ?_
 obtain ⟨t27, k28, h⟩ := bs h
 refine ol_op (by exact opv_call rfl cal71 (ac rfl (ac rfl an)) (rickyardref16_At.ok fu _ a0 1 _ k28)) rfl rfl rfl ?_
 rintro _ w33 ⟨u29, o30, rfl, q32⟩
 have a34 := OffV.call o13 o30
 have o30 := Own.base o30 fB.size
 have b5 := b5.gr q32
 have b18 := b18.gr q32
 have o13 := o13.gr q32
 have fB := fB.gr q32
 refine ol_val (v := .tuple #[aggV [Seg.cell (.int .i64 t27.1.Epoch), Seg.cell (.int .i64 t27.1.Tickets.Geometry.Blocks), Seg.cell (.int .i64 t27.1.Tickets.Geometry.Slots), Seg.cell (.int .i64 t27.1.Tickets.Geometry.Gens), Seg.cell (.int .i64 t27.1.Tickets.Top), Seg.cell (.int .i64 t27.1.Tickets.High), Seg.cell (.int .i64 t27.1.Tickets.Free), Seg.cell (.int .i64 t27.1.Dir), Seg.cell u29 o30.one], .bool t27.2]) (by exact xr_move rfl rfl) rfl rfl rfl ?_
 refine ol_val (v := aggV [Seg.cell (.int .i64 t27.1.Epoch), Seg.cell (.int .i64 t27.1.Tickets.Geometry.Blocks), Seg.cell (.int .i64 t27.1.Tickets.Geometry.Slots), Seg.cell (.int .i64 t27.1.Tickets.Geometry.Gens), Seg.cell (.int .i64 t27.1.Tickets.Top), Seg.cell (.int .i64 t27.1.Tickets.High), Seg.cell (.int .i64 t27.1.Tickets.Free), Seg.cell (.int .i64 t27.1.Dir), Seg.cell u29 o30.one]) (by exact xr_extract rfl rfl rfl) rfl rfl rfl ?_
 refine ol_val (v := .bool t27.2) (by exact xr_extract rfl rfl rfl) rfl rfl rfl ?_
 refine ol_op (by exact opv_alloc (ss := [Seg.cell (.int .i64 (0 : Int)), Seg.cell (.int .i64 (0 : Int)), Seg.cell (.int .i64 (0 : Int)), Seg.cell (.int .i64 (0 : Int)), Seg.cell (.int .i64 (0 : Int)), Seg.cell (.int .i64 (0 : Int)), Seg.cell (.int .i64 (0 : Int)), Seg.cell (.int .i64 (0 : Int)), Seg.cell (.slice none 0 0) (by rfl)]) rfl ze110 rfl) rfl rfl rfl ?_
 rintro _ w40 ⟨G35, rfl, b36, q37, z38⟩
 have n41 := b5.ne z38
 have n42 := b18.ne z38
 have z38 := Nat.le_trans fB.size z38
 have b5 := b5.gr q37
 have b18 := b18.gr q37
 have o13 := o13.gr q37
 have o30 := o30.gr q37
 have fB := fB.gr q37
 have f44 := off_ty b36 o13 (by decide)
 have f45 := off_ty b36 o30 (by decide)
 refine ol_op0 (by exact opv_store (ss' := [Seg.cell (.int .i64 t27.1.Epoch), Seg.cell (.int .i64 t27.1.Tickets.Geometry.Blocks), Seg.cell (.int .i64 t27.1.Tickets.Geometry.Slots), Seg.cell (.int .i64 t27.1.Tickets.Geometry.Gens), Seg.cell (.int .i64 t27.1.Tickets.Top), Seg.cell (.int .i64 t27.1.Tickets.High), Seg.cell (.int .i64 t27.1.Tickets.Free), Seg.cell (.int .i64 t27.1.Dir), Seg.cell u29 o30.one]) (xs := cellsOf [Seg.cell (.int .i64 t27.1.Epoch), Seg.cell (.int .i64 t27.1.Tickets.Geometry.Blocks), Seg.cell (.int .i64 t27.1.Tickets.Geometry.Slots), Seg.cell (.int .i64 t27.1.Tickets.Geometry.Gens), Seg.cell (.int .i64 t27.1.Tickets.Top), Seg.cell (.int .i64 t27.1.Tickets.High), Seg.cell (.int .i64 t27.1.Tickets.Free), Seg.cell (.int .i64 t27.1.Dir), Seg.cell u29 o30.one]) rfl sz110 rfl rfl rfl (len_cellsOf _) (one_cellsOf _) b36 (Spl.segs _ 0 9 [Seg.cell (.int .i64 t27.1.Epoch), Seg.cell (.int .i64 t27.1.Tickets.Geometry.Blocks), Seg.cell (.int .i64 t27.1.Tickets.Geometry.Slots), Seg.cell (.int .i64 t27.1.Tickets.Geometry.Gens), Seg.cell (.int .i64 t27.1.Tickets.Top), Seg.cell (.int .i64 t27.1.Tickets.High), Seg.cell (.int .i64 t27.1.Tickets.Free), Seg.cell (.int .i64 t27.1.Dir), Seg.cell u29 o30.one] rfl rfl)) rfl rfl ?_
 rintro _ w46 ⟨b36, q43⟩
 have b5 := b5.wr q43 n41
 have b18 := b18.wr q43 n42
 have o13 := o13.wr q43 f44
 have o30 := o30.wr q43 f45
 have fB := fB.wr q43 z38
 refine ol_val (v := .bool t27.2) (by exact xr_assign rfl rfl) rfl rfl rfl ?_
 refine ol_nil ?_
 refine cw_seq ?_
 refine cw_seq ?_
 refine cw_mid (fun ρ' w' => ρ' 2 = .pointer (some ⟨G4, 0, none⟩) ∧ ρ' 5 = .pointer (some ⟨G17, 0, none⟩) ∧ ρ' 6 = .bool t10.2 ∧ ρ' 7 = .pointer (some ⟨G35, 0, none⟩) ∧ ρ' 30 = .bool (if t27.2 = true then (if (!t10.2) = true then true else (decide (t27.1.Epoch > t10.1.Epoch))) else false) ∧ w46 = w') ?_ ?_
 ·skip
  refine cw_region ?_
  refine ol_val (v := .bool t27.2) (by exact xr_move rfl rfl) rfl rfl rfl ?_
  refine ol_val (v := .bool t27.2) (by exact xr_move rfl rfl) rfl rfl rfl ?_
  rcases bt t27.2 with c47 | c47
  ·skip
   refine ol_gval (v := .bool t10.2) (by exact xr_move rfl rfl) rfl rfl rfl rfl rfl c47 ?_
   refine ol_gval (v := .bool (!t10.2)) (by exact xr_not rfl rfl) rfl rfl rfl rfl rfl c47 ?_
   refine ol_gval (v := .bool (!t10.2)) (by exact xr_move rfl rfl) rfl rfl rfl rfl rfl c47 ?_
   rcases bt (!t10.2) with c48 | c48
   ·skip
    refine ol_gskip rfl rfl rfl rfl rfl c48 ?_
    refine ol_gskip rfl rfl rfl rfl rfl c48 ?_
    refine ol_gskip rfl rfl rfl rfl rfl c48 ?_
    refine ol_gskip rfl rfl rfl rfl rfl c48 ?_
    refine ol_gskip rfl rfl rfl rfl rfl c48 ?_
    refine ol_gval (v := .bool true) (by exact xr_pickT rfl rfl c48 rfl) rfl rfl rfl rfl rfl c47 ?_
    refine ol_val (v := .bool true) (by exact xr_pickT rfl rfl c47 rfl) rfl rfl rfl ?_
    refine ol_nil ?_
    refine thn_i ?_
    exact ⟨rfl, rfl, rfl, rfl, (rfl).trans (congrArg (fun z => (.bool z : Value)) (show true = (if t27.2 = true then (if (!t10.2) = true then true else (decide (t27.1.Epoch > t10.1.Epoch))) else false) from by rw [ite_t c47, ite_t c48])), rfl⟩
   refine ol_gval (v := .pointer (some ⟨G35, 0, none⟩)) (by exact xr_fieldAddr (p := 0) (q := 0) rfl fl110_0 rfl) rfl rfl rfl rfl rfl c48 ?_
   refine ol_gval (v := .int .i64 t27.1.Epoch) (by exact xr_load1 (v := .int .i64 t27.1.Epoch) rfl ag3 rfl (b36.seg 0 rfl rfl)) rfl rfl rfl rfl rfl c48 ?_
   refine ol_gval (v := .pointer (some ⟨G17, 0, none⟩)) (by exact xr_fieldAddr (p := 0) (q := 0) rfl fl110_0 rfl) rfl rfl rfl rfl rfl c48 ?_
   refine ol_gval (v := .int .i64 t10.1.Epoch) (by exact xr_load1 (v := .int .i64 t10.1.Epoch) rfl ag3 rfl (b18.seg 0 rfl rfl)) rfl rfl rfl rfl rfl c48 ?_
   refine ol_gval (v := .bool (decide (t27.1.Epoch > t10.1.Epoch))) (by exact xr_gtr rfl rfl rfl) rfl rfl rfl rfl rfl c48 ?_
   refine ol_gval (v := .bool (decide (t27.1.Epoch > t10.1.Epoch))) (by exact xr_pickF rfl rfl c48 rfl) rfl rfl rfl rfl rfl c47 ?_
   refine ol_val (v := .bool (decide (t27.1.Epoch > t10.1.Epoch))) (by exact xr_pickT rfl rfl c47 rfl) rfl rfl rfl ?_
   refine ol_nil ?_
   refine thn_i ?_
   exact ⟨rfl, rfl, rfl, rfl, (rfl).trans (congrArg (fun z => (.bool z : Value)) (show (decide (t27.1.Epoch > t10.1.Epoch)) = (if t27.2 = true then (if (!t10.2) = true then true else (decide (t27.1.Epoch > t10.1.Epoch))) else false) from by rw [ite_t c47, ite_f c48])), rfl⟩
  refine ol_gskip rfl rfl rfl rfl rfl c47 ?_
  refine ol_gskip rfl rfl rfl rfl rfl c47 ?_
  refine ol_gskip rfl rfl rfl rfl rfl c47 ?_
  refine ol_uskip rfl rfl rfl rfl rfl ?_
  refine ol_uskip rfl rfl rfl rfl rfl ?_
  refine ol_uskip rfl rfl rfl rfl rfl ?_
  refine ol_uskip rfl rfl rfl rfl rfl ?_
  refine ol_uskip rfl rfl rfl rfl rfl ?_
  refine ol_gskip rfl rfl rfl rfl rfl c47 ?_
  refine ol_val (v := .bool false) (by exact xr_pickF rfl rfl c47 rfl) rfl rfl rfl ?_
  refine ol_nil ?_
  refine thn_i ?_
  exact ⟨rfl, rfl, rfl, rfl, (rfl).trans (congrArg (fun z => (.bool z : Value)) (show false = (if t27.2 = true then (if (!t10.2) = true then true else (decide (t27.1.Epoch > t10.1.Epoch))) else false) from by rw [ite_f c47])), rfl⟩
 rintro ρ49 _ ⟨e2, e5, e6, e7, e30, rfl⟩
 rcases is h with ⟨c50, h⟩ | ⟨c50, h⟩
 ·refine cw_condT e30 c50 ?_
  refine cw_seq ?_
  refine cw_region ?_
  refine ol_val (v := aggV [Seg.cell (.int .i64 t27.1.Epoch), Seg.cell (.int .i64 t27.1.Tickets.Geometry.Blocks), Seg.cell (.int .i64 t27.1.Tickets.Geometry.Slots), Seg.cell (.int .i64 t27.1.Tickets.Geometry.Gens), Seg.cell (.int .i64 t27.1.Tickets.Top), Seg.cell (.int .i64 t27.1.Tickets.High), Seg.cell (.int .i64 t27.1.Tickets.Free), Seg.cell (.int .i64 t27.1.Dir), Seg.cell u29 o30.one]) (by exact xr_loadS (ss := [Seg.cell (.int .i64 t27.1.Epoch), Seg.cell (.int .i64 t27.1.Tickets.Geometry.Blocks), Seg.cell (.int .i64 t27.1.Tickets.Geometry.Slots), Seg.cell (.int .i64 t27.1.Tickets.Geometry.Gens), Seg.cell (.int .i64 t27.1.Tickets.Top), Seg.cell (.int .i64 t27.1.Tickets.High), Seg.cell (.int .i64 t27.1.Tickets.Free), Seg.cell (.int .i64 t27.1.Dir), Seg.cell u29 o30.one]) rfl ag110 sz110 rfl e7 (b36.segs 0 9 rfl)) rfl rfl rfl ?_
  have f52 := off_ty b5 o30 (by decide)
  refine ol_op0 (by exact opv_store (ss' := [Seg.cell (.int .i64 t27.1.Epoch), Seg.cell (.int .i64 t27.1.Tickets.Geometry.Blocks), Seg.cell (.int .i64 t27.1.Tickets.Geometry.Slots), Seg.cell (.int .i64 t27.1.Tickets.Geometry.Gens), Seg.cell (.int .i64 t27.1.Tickets.Top), Seg.cell (.int .i64 t27.1.Tickets.High), Seg.cell (.int .i64 t27.1.Tickets.Free), Seg.cell (.int .i64 t27.1.Dir), Seg.cell u29 o30.one]) (xs := cellsOf [Seg.cell (.int .i64 t27.1.Epoch), Seg.cell (.int .i64 t27.1.Tickets.Geometry.Blocks), Seg.cell (.int .i64 t27.1.Tickets.Geometry.Slots), Seg.cell (.int .i64 t27.1.Tickets.Geometry.Gens), Seg.cell (.int .i64 t27.1.Tickets.Top), Seg.cell (.int .i64 t27.1.Tickets.High), Seg.cell (.int .i64 t27.1.Tickets.Free), Seg.cell (.int .i64 t27.1.Dir), Seg.cell u29 o30.one]) rfl sz110 e2 rfl rfl (len_cellsOf _) (one_cellsOf _) b5 (Spl.segs _ 0 9 [Seg.cell (.int .i64 t27.1.Epoch), Seg.cell (.int .i64 t27.1.Tickets.Geometry.Blocks), Seg.cell (.int .i64 t27.1.Tickets.Geometry.Slots), Seg.cell (.int .i64 t27.1.Tickets.Geometry.Gens), Seg.cell (.int .i64 t27.1.Tickets.Top), Seg.cell (.int .i64 t27.1.Tickets.High), Seg.cell (.int .i64 t27.1.Tickets.Free), Seg.cell (.int .i64 t27.1.Dir), Seg.cell u29 o30.one] rfl rfl)) rfl rfl ?_
  rintro _ w53 ⟨b5, q51⟩
  have o30 := o30.wr q51 f52
  have fB := fB.wr q51 z7
  refine ol_val (v := .int .i64 1) (by exact xr_assign rfl rfl) rfl rfl rfl ?_
  refine ol_val (v := .bool true) (by exact xr_assign rfl rfl) rfl rfl rfl ?_
  refine ol_nil ?_
  refine cw_ret ?_
  repeat (first | with_reducible refine thn_r ?_ | with_reducible refine blk_r ?_)
  obtain rfl := Option.some.inj h
  refine fin_cell_tmp2 Try.results73 e2 ag110 sz110 b5 (by rfl) rfl rfl ?_
  exact ⟨_, rfl, u29, o30, rfl, fB⟩
 refine cw_condF e30 c50 ?_
 refine cw_skip ?_
 refine cw_seq ?_
 refine cw_region ?_
 refine ol_val (v := aggV [Seg.cell (.int .i64 t10.1.Epoch), Seg.cell (.int .i64 t10.1.Tickets.Geometry.Blocks), Seg.cell (.int .i64 t10.1.Tickets.Geometry.Slots), Seg.cell (.int .i64 t10.1.Tickets.Geometry.Gens), Seg.cell (.int .i64 t10.1.Tickets.Top), Seg.cell (.int .i64 t10.1.Tickets.High), Seg.cell (.int .i64 t10.1.Tickets.Free), Seg.cell (.int .i64 t10.1.Dir), Seg.cell u12 o13.one]) (by exact xr_loadS (ss := [Seg.cell (.int .i64 t10.1.Epoch), Seg.cell (.int .i64 t10.1.Tickets.Geometry.Blocks), Seg.cell (.int .i64 t10.1.Tickets.Geometry.Slots), Seg.cell (.int .i64 t10.1.Tickets.Geometry.Gens), Seg.cell (.int .i64 t10.1.Tickets.Top), Seg.cell (.int .i64 t10.1.Tickets.High), Seg.cell (.int .i64 t10.1.Tickets.Free), Seg.cell (.int .i64 t10.1.Dir), Seg.cell u12 o13.one]) rfl ag110 sz110 rfl e5 (b18.segs 0 9 rfl)) rfl rfl rfl ?_
 refine ol_val (v := .bool t10.2) (by exact xr_move rfl e6) rfl rfl rfl ?_
 have f55 := off_ty b5 o13 (by decide)
 refine ol_op0 (by exact opv_store (ss' := [Seg.cell (.int .i64 t10.1.Epoch), Seg.cell (.int .i64 t10.1.Tickets.Geometry.Blocks), Seg.cell (.int .i64 t10.1.Tickets.Geometry.Slots), Seg.cell (.int .i64 t10.1.Tickets.Geometry.Gens), Seg.cell (.int .i64 t10.1.Tickets.Top), Seg.cell (.int .i64 t10.1.Tickets.High), Seg.cell (.int .i64 t10.1.Tickets.Free), Seg.cell (.int .i64 t10.1.Dir), Seg.cell u12 o13.one]) (xs := cellsOf [Seg.cell (.int .i64 t10.1.Epoch), Seg.cell (.int .i64 t10.1.Tickets.Geometry.Blocks), Seg.cell (.int .i64 t10.1.Tickets.Geometry.Slots), Seg.cell (.int .i64 t10.1.Tickets.Geometry.Gens), Seg.cell (.int .i64 t10.1.Tickets.Top), Seg.cell (.int .i64 t10.1.Tickets.High), Seg.cell (.int .i64 t10.1.Tickets.Free), Seg.cell (.int .i64 t10.1.Dir), Seg.cell u12 o13.one]) rfl sz110 e2 rfl rfl (len_cellsOf _) (one_cellsOf _) b5 (Spl.segs _ 0 9 [Seg.cell (.int .i64 t10.1.Epoch), Seg.cell (.int .i64 t10.1.Tickets.Geometry.Blocks), Seg.cell (.int .i64 t10.1.Tickets.Geometry.Slots), Seg.cell (.int .i64 t10.1.Tickets.Geometry.Gens), Seg.cell (.int .i64 t10.1.Tickets.Top), Seg.cell (.int .i64 t10.1.Tickets.High), Seg.cell (.int .i64 t10.1.Tickets.Free), Seg.cell (.int .i64 t10.1.Dir), Seg.cell u12 o13.one] rfl rfl)) rfl rfl ?_
 rintro _ w56 ⟨b5, q54⟩
 have o13 := o13.wr q54 f55
 have fB := fB.wr q54 z7
 refine ol_val (v := .int .i64 0) (by exact xr_assign rfl rfl) rfl rfl rfl ?_
 refine ol_val (v := .bool t10.2) (by exact xr_assign rfl rfl) rfl rfl rfl ?_
 refine ol_nil ?_
 refine cw_ret ?_
 repeat (first | with_reducible refine thn_r ?_ | with_reducible refine blk_r ?_)
 obtain rfl := Option.some.inj h
 refine fin_cell_tmp2 Try.results73 e2 ag110 sz110 b5 (by rfl) rfl rfl ?_
 exact ⟨_, rfl, u12, o13, rfl, fB⟩
def rickyardref01_Ints.s0 (fu : Nat) (a0 : List Int) (a1 : List Int) : Int → Option (Sum (Sum Bool Unit) Int) := fun s2 => (if (decide (s2 < (List.length a0 : Int))) = true then (if 0 ≤ s2 ∧ s2 < (List.length a0 : Int) then (if 0 ≤ s2 ∧ s2 < (List.length a1 : Int) then (if (!decide ((ix a0 s2) = (ix a1 s2))) = true then some (Sum.inl (Sum.inl (false))) else some (Sum.inr ((IntKind.i64.wrap (s2 + 1))))) else none) else none) else some (Sum.inl (Sum.inr ())))
def rickyardref01_Ints.f (fu : Nat) (a0 : List Int) (a1 : List Int) : Option Bool := (if (!decide ((List.length a0 : Int) = (List.length a1 : Int))) = true then some (false) else ((loopM (rickyardref01_Ints.s0 fu a0 a1) fu (0)).bind fun e3 => match e3 with | Sum.inl p => some p | Sum.inr x6 => some (true)))
set_option maxRecDepth 100000 in
set_option maxHeartbeats 400000 in
theorem rickyardref01_Ints.ok (fu : Nat) (w : World) (a0 : List Int) (V0_0 : Value) (R0_0 : Rd (kI .i64) w V0_0 a0) (a1 : List Int) (V1_0 : Value) (R1_0 : Rd (kI .i64) w V1_0 a1) (r : Bool) (h : rickyardref01_Ints.f fu a0 a1 = some r) :
  Calls Try.prog 66 (([V0_0, V1_0] : List Value).toArray) w (fun e w' => ∃ v, e = .returned v ∧ v = .bool r ∧ Gr w w') := by
 unfold rickyardref01_Ints.f at h
 have fB : Gr w w := Fr.refl _ _
 refine calls_cw Try.func66 rfl Try.ntmps66 rfl ?_
 refine cw_seq ?_
 refine cw_region ?_
 refine ol_val (v := .bool false) (by exact xr_assign rfl rfl) rfl rfl rfl ?_
 refine ol_nil ?_
 refine cw_seq ?_
 refine cw_seq ?_
 refine cw_region ?_
 refine ol_val (v := V0_0) (by exact xr_move rfl rfl) rfl rfl rfl ?_
 refine ol_val (v := .int .i64 (List.length a0 : Int)) (by exact xr_lenR rfl Try.underlying25 rfl (R0_0.gr fB)) rfl rfl rfl ?_
 refine ol_val (v := V1_0) (by exact xr_move rfl rfl) rfl rfl rfl ?_
 refine ol_val (v := .int .i64 (List.length a1 : Int)) (by exact xr_lenR rfl Try.underlying25 rfl (R1_0.gr fB)) rfl rfl rfl ?_
 refine ol_val (v := .bool (!decide ((List.length a0 : Int) = (List.length a1 : Int)))) (by exact xr_neI rfl Try.underlying3 rfl rfl rfl) rfl rfl rfl ?_
 refine ol_nil ?_
 rcases is h with ⟨c1, h⟩ | ⟨c1, h⟩
 ·refine cw_condT rfl c1 ?_
  refine cw_seq ?_
  refine cw_region ?_
  refine ol_val (v := .bool false) (by exact xr_assign rfl rfl) rfl rfl rfl ?_
  refine ol_nil ?_
  refine cw_ret ?_
  repeat (first | with_reducible refine thn_r ?_ | with_reducible refine blk_r ?_)
  obtain rfl := Option.some.inj h
  refine fin_ret1 Try.results66 rfl ?_
  exact ⟨_, rfl, rfl, fB⟩
 refine cw_condF rfl c1 ?_
 refine cw_skip ?_
 refine cw_seq ?_
 refine cw_seq ?_
 refine cw_region ?_
 refine ol_val (v := .int .i64 0) (by exact xr_assign rfl rfl) rfl rfl rfl ?_
 refine ol_nil ?_
 obtain ⟨e3, l4, h5⟩ := bs h
 refine cw_mid (fun ρ' w' => ∃ x6, e3 = Sum.inr x6 ∧ Gr w w') ?_ ?_
 ·refine cw_block ?_
  refine cw_round (fun (s2 : Int) ρ' w' => ρ' 0 = V0_0 ∧ ρ' 1 = V1_0 ∧ ρ' 5 = .int .i64 s2 ∧ Gr w w') l4 ?_ ?_
  ·skip
   exact ⟨rfl, rfl, rfl, fB⟩
  rintro s2 x9 ρ7 w8 ⟨e0, e1, e5, fB⟩ h
  unfold rickyardref01_Ints.s0 at h
  refine cw_seq ?_
  refine cw_seq ?_
  refine cw_region ?_
  refine ol_val (v := .int .i64 s2) (by exact xr_move rfl e5) rfl rfl rfl ?_
  refine ol_val (v := V0_0) (by exact xr_move rfl e0) rfl rfl rfl ?_
  refine ol_val (v := .int .i64 (List.length a0 : Int)) (by exact xr_lenR rfl Try.underlying25 rfl (R0_0.gr fB)) rfl rfl rfl ?_
  refine ol_val (v := .bool (decide (s2 < (List.length a0 : Int)))) (by exact xr_lss rfl rfl rfl) rfl rfl rfl ?_
  refine ol_nil ?_
  rcases is h with ⟨c10, h⟩ | ⟨c10, h⟩
  ·refine cw_condT rfl c10 ?_
   refine cw_skip ?_
   refine cw_seq ?_
   refine cw_block ?_
   refine cw_seq ?_
   obtain ⟨g11, h⟩ := gs h
   obtain ⟨g12, h⟩ := gs h
   refine cw_drawL 8 [fun vz wz => vz = (V0_0 : Value), fun vz wz => vz = (.int .i64 s2 : Value), fun vz wz => vz = (.pointer (some ⟨(sb V0_0), so V0_0 + Int.toNat s2 * 1, none⟩) : Value), fun vz wz => vz = (.int .i64 (ix a0 s2) : Value), fun vz wz => vz = (V1_0 : Value), fun vz wz => vz = (.int .i64 s2 : Value), fun vz wz => vz = (.pointer (some ⟨(sb V1_0), so V1_0 + Int.toNat s2 * 1, none⟩) : Value), fun vz wz => vz = (.int .i64 (ix a1 s2) : Value)] mo rfl ⟨fun _ _ _ h _ => h, fun _ _ _ h _ => h, fun _ _ _ h _ => h, fun _ _ _ h _ => h, fun _ _ _ h _ => h, fun _ _ _ h _ => h, fun _ _ _ h _ => h, fun _ _ _ h _ => h, trivial⟩ ?_ ?_
   ·refine ⟨?_, ?_, ?_, ?_, ?_, ?_, ?_, ?_, trivial⟩
    ·intro ρz wz hz hk hd
     exact sk_val (v := V0_0) (by exact xr_move rfl ((hk 0 rfl).trans e0)) rfl rfl
    ·intro ρz wz hz hk hd
     exact sk_val (v := .int .i64 s2) (by exact xr_move rfl ((hk 5 rfl).trans e5)) rfl rfl
    ·intro ρz wz hz hk hd
     have d17 := hd 0 rfl 17 rfl
     have d18 := hd 1 rfl 18 rfl
     exact sk_val (by exact xr_indexR (K := (kI .i64)) (v := V0_0) rfl Try.underlying25 sz3 d17 (R0_0.gr (fB.gr hz)) d18 g11.1 g11.2) rfl rfl
    ·intro ρz wz hz hk hd
     have d19 := hd 2 rfl 19 rfl
     exact sk_val (v := .int .i64 (ix a0 s2)) (by exact xr_load1 (v := .int .i64 (ix a0 s2)) rfl ag3 d19 ((R0_0.gr (fB.gr hz)).elem g11.1 g11.2)) rfl rfl
    ·intro ρz wz hz hk hd
     exact sk_val (v := V1_0) (by exact xr_move rfl ((hk 1 rfl).trans e1)) rfl rfl
    ·intro ρz wz hz hk hd
     exact sk_val (v := .int .i64 s2) (by exact xr_move rfl ((hk 5 rfl).trans e5)) rfl rfl
    ·intro ρz wz hz hk hd
     have d21 := hd 4 rfl 21 rfl
     have d22 := hd 5 rfl 22 rfl
     exact sk_val (by exact xr_indexR (K := (kI .i64)) (v := V1_0) rfl Try.underlying25 sz3 d21 (R1_0.gr (fB.gr hz)) d22 g12.1 g12.2) rfl rfl
    intro ρz wz hz hk hd
    have d23 := hd 6 rfl 23 rfl
    exact sk_val (v := .int .i64 (ix a1 s2)) (by exact xr_load1 (v := .int .i64 (ix a1 s2)) rfl ag3 d23 ((R1_0.gr (fB.gr hz)).elem g12.1 g12.2)) rfl rfl
   intro ρ13 w14 q15 hk hd
   have e0 := (hk 0 rfl).trans e0
   have e1 := (hk 1 rfl).trans e1
   have e5 := (hk 5 rfl).trans e5
   have e20 := hd 3 rfl 20 rfl
   have e24 := hd 7 rfl 24 rfl
   have fB := fB.gr q15
   refine ol_val (v := .bool (!decide ((ix a0 s2) = (ix a1 s2)))) (by exact xr_neI rfl Try.underlying3 rfl e20 e24) rfl rfl rfl ?_
   refine ol_nil ?_
   rcases is h with ⟨c16, h⟩ | ⟨c16, h⟩
   ·refine cw_condT rfl c16 ?_
    refine cw_seq ?_
    refine cw_region ?_
    refine ol_val (v := .bool false) (by exact xr_assign rfl rfl) rfl rfl rfl ?_
    refine ol_nil ?_
    refine cw_ret ?_
    repeat (first | with_reducible refine thn_r ?_ | with_reducible refine blk_r ?_)
    obtain rfl := Option.some.inj h
    refine lp_ret ?_
    rintro rfl
    repeat (first | with_reducible refine thn_r ?_ | with_reducible refine blk_r ?_)
    have h := h5
    obtain rfl := Option.some.inj h
    refine fin_ret1 Try.results66 rfl ?_
    exact ⟨_, rfl, rfl, fB⟩
   refine cw_condF rfl c16 ?_
   refine cw_skip ?_
   refine blk_i ?_
   refine cw_region ?_
   refine ol_val (v := .int .i64 s2) (by exact xr_move rfl e5) rfl rfl rfl ?_
   refine ol_val (v := .int .i64 (IntKind.i64.wrap (s2 + 1))) (by exact xr_add rfl rfl rfl) rfl rfl rfl ?_
   refine ol_val (v := .int .i64 (IntKind.i64.wrap (s2 + 1))) (by exact xr_assign rfl rfl) rfl rfl rfl ?_
   refine ol_nil ?_
   obtain rfl := Option.some.inj h
   refine lp_in ?_
   exact ⟨e0, e1, rfl, fB⟩
  refine cw_condF rfl c10 ?_
  refine cw_exit ?_
  repeat (first | with_reducible refine thn_e ?_ | with_reducible refine blk_e rfl ?_)
  obtain rfl := Option.some.inj h
  refine lp_exit ?_
  rintro rfl
  refine thn_x ?_
  exact ⟨_, rfl, fB⟩
 rintro ρ17 w18 ⟨x6, rfl, fB⟩
 have h := h5
 refine cw_seq ?_
 refine cw_region ?_
 refine ol_val (v := .bool true) (by exact xr_assign rfl rfl) rfl rfl rfl ?_
 refine ol_nil ?_
 refine cw_ret ?_
 repeat (first | with_reducible refine thn_r ?_ | with_reducible refine blk_r ?_)
 obtain rfl := Option.some.inj h
 refine fin_ret1 Try.results66 rfl ?_
 exact ⟨_, rfl, rfl, fB⟩
def rickyardref13_Same.f (fu : Nat) (a0 : S_api_Super) (a1 : S_api_Super) : Option Bool := (((if (decide (a0.Epoch = a1.Epoch)) = true then (if (decide (a0.Tickets.Geometry = a1.Tickets.Geometry)) = true then (if (decide (a0.Tickets.High = a1.Tickets.High)) = true then (if (decide (a0.Tickets.Free = a1.Tickets.Free)) = true then (if (decide (a0.Tickets.Top = a1.Tickets.Top)) = true then (if (decide (a0.Dir = a1.Dir)) = true then ((rickyardref01_Ints.f fu a0.Charts a1.Charts : Option Bool).bind fun t22 => some (t22)) else some (false)) else some (false)) else some (false)) else some (false)) else some (false)) else some (false)) : Option Bool).bind fun x14 => some (x14))
set_option maxRecDepth 100000 in
set_option maxHeartbeats 400000 in
theorem rickyardref13_Same.ok (fu : Nat) (w : World) (a0 : S_api_Super) (V0_0 : Value) (R0_0 : Rd (kI .i64) w V0_0 a0.Charts) (a1 : S_api_Super) (V1_0 : Value) (R1_0 : Rd (kI .i64) w V1_0 a1.Charts) (r : Bool) (h : rickyardref13_Same.f fu a0 a1 = some r) :
  Calls Try.prog 74 (([aggV [Seg.cell (.int .i64 a0.Epoch), Seg.cell (.int .i64 a0.Tickets.Geometry.Blocks), Seg.cell (.int .i64 a0.Tickets.Geometry.Slots), Seg.cell (.int .i64 a0.Tickets.Geometry.Gens), Seg.cell (.int .i64 a0.Tickets.Top), Seg.cell (.int .i64 a0.Tickets.High), Seg.cell (.int .i64 a0.Tickets.Free), Seg.cell (.int .i64 a0.Dir), Seg.cell V0_0 R0_0.one], aggV [Seg.cell (.int .i64 a1.Epoch), Seg.cell (.int .i64 a1.Tickets.Geometry.Blocks), Seg.cell (.int .i64 a1.Tickets.Geometry.Slots), Seg.cell (.int .i64 a1.Tickets.Geometry.Gens), Seg.cell (.int .i64 a1.Tickets.Top), Seg.cell (.int .i64 a1.Tickets.High), Seg.cell (.int .i64 a1.Tickets.Free), Seg.cell (.int .i64 a1.Dir), Seg.cell V1_0 R1_0.one]] : List Value).toArray) w (fun e w' => ∃ v, e = .returned v ∧ v = .bool r ∧ Gr w w') := by
 unfold rickyardref13_Same.f at h
 have fB : Gr w w := Fr.refl _ _
 refine calls_cw Try.func74 rfl Try.ntmps74 rfl ?_
 refine cw_seq ?_
 refine cw_region ?_
 refine ol_op (by exact opv_box (ss := [Seg.cell (.int .i64 a0.Epoch), Seg.cell (.int .i64 a0.Tickets.Geometry.Blocks), Seg.cell (.int .i64 a0.Tickets.Geometry.Slots), Seg.cell (.int .i64 a0.Tickets.Geometry.Gens), Seg.cell (.int .i64 a0.Tickets.Top), Seg.cell (.int .i64 a0.Tickets.High), Seg.cell (.int .i64 a0.Tickets.Free), Seg.cell (.int .i64 a0.Dir), Seg.cell V0_0 R0_0.one]) rfl rfl rfl) rfl rfl rfl ?_
 rintro _ w6 ⟨G1, rfl, b2, q3, z4⟩
 have z4 := Nat.le_trans fB.size z4
 have fB := fB.gr q3
 refine ol_op (by exact opv_box (ss := [Seg.cell (.int .i64 a1.Epoch), Seg.cell (.int .i64 a1.Tickets.Geometry.Blocks), Seg.cell (.int .i64 a1.Tickets.Geometry.Slots), Seg.cell (.int .i64 a1.Tickets.Geometry.Gens), Seg.cell (.int .i64 a1.Tickets.Top), Seg.cell (.int .i64 a1.Tickets.High), Seg.cell (.int .i64 a1.Tickets.Free), Seg.cell (.int .i64 a1.Dir), Seg.cell V1_0 R1_0.one]) rfl rfl rfl) rfl rfl rfl ?_
 rintro _ w12 ⟨G7, rfl, b8, q9, z10⟩
 have n13 := b2.ne z10
 have z10 := Nat.le_trans fB.size z10
 have b2 := b2.gr q9
 have fB := fB.gr q9
 refine ol_val (v := .bool false) (by exact xr_assign rfl rfl) rfl rfl rfl ?_
 refine ol_nil ?_
 refine cw_seq ?_
 obtain ⟨x14, j15, h⟩ := bs h
 refine cw_mid (fun ρ' w' => ρ' 4 = .bool x14 ∧ Gr w12 w') ?_ ?_
 ·skip
  refine cw_region ?_
  refine ol_val (v := .pointer (some ⟨G1, 0, none⟩)) (by exact xr_fieldAddr (p := 0) (q := 0) rfl fl110_0 rfl) rfl rfl rfl ?_
  refine ol_val (v := .int .i64 a0.Epoch) (by exact xr_load1 (v := .int .i64 a0.Epoch) rfl ag3 rfl (b2.seg 0 rfl rfl)) rfl rfl rfl ?_
  refine ol_val (v := .pointer (some ⟨G7, 0, none⟩)) (by exact xr_fieldAddr (p := 0) (q := 0) rfl fl110_0 rfl) rfl rfl rfl ?_
  refine ol_val (v := .int .i64 a1.Epoch) (by exact xr_load1 (v := .int .i64 a1.Epoch) rfl ag3 rfl (b8.seg 0 rfl rfl)) rfl rfl rfl ?_
  refine ol_val (v := .bool (decide (a0.Epoch = a1.Epoch))) (by exact xr_eqI rfl Try.underlying3 rfl rfl rfl) rfl rfl rfl ?_
  refine ol_val (v := .bool (decide (a0.Epoch = a1.Epoch))) (by exact xr_move rfl rfl) rfl rfl rfl ?_
  rcases is j15 with ⟨c16, j15⟩ | ⟨c16, j15⟩
  ·skip
   refine ol_gval (v := .pointer (some ⟨G1, 1, none⟩)) (by exact xr_fieldAddr (p := 0) (q := 1) rfl fl110_1 rfl) rfl rfl rfl rfl rfl c16 ?_
   refine ol_gval (v := .pointer (some ⟨G1, 1, none⟩)) (by exact xr_fieldAddr (p := 1) (q := 0) rfl fl108_0 rfl) rfl rfl rfl rfl rfl c16 ?_
   refine ol_gval (v := aggV [Seg.cell (.int .i64 a0.Tickets.Geometry.Blocks), Seg.cell (.int .i64 a0.Tickets.Geometry.Slots), Seg.cell (.int .i64 a0.Tickets.Geometry.Gens)]) (by exact xr_loadS (ss := [Seg.cell (.int .i64 a0.Tickets.Geometry.Blocks), Seg.cell (.int .i64 a0.Tickets.Geometry.Slots), Seg.cell (.int .i64 a0.Tickets.Geometry.Gens)]) rfl ag106 sz106 rfl rfl (b2.segs 1 3 rfl)) rfl rfl rfl rfl rfl c16 ?_
   refine ol_gval (v := .pointer (some ⟨G7, 1, none⟩)) (by exact xr_fieldAddr (p := 0) (q := 1) rfl fl110_1 rfl) rfl rfl rfl rfl rfl c16 ?_
   refine ol_gval (v := .pointer (some ⟨G7, 1, none⟩)) (by exact xr_fieldAddr (p := 1) (q := 0) rfl fl108_0 rfl) rfl rfl rfl rfl rfl c16 ?_
   refine ol_gval (v := aggV [Seg.cell (.int .i64 a1.Tickets.Geometry.Blocks), Seg.cell (.int .i64 a1.Tickets.Geometry.Slots), Seg.cell (.int .i64 a1.Tickets.Geometry.Gens)]) (by exact xr_loadS (ss := [Seg.cell (.int .i64 a1.Tickets.Geometry.Blocks), Seg.cell (.int .i64 a1.Tickets.Geometry.Slots), Seg.cell (.int .i64 a1.Tickets.Geometry.Gens)]) rfl ag106 sz106 rfl rfl (b8.segs 1 3 rfl)) rfl rfl rfl rfl rfl c16 ?_
   refine ol_gval (v := .bool (decide (a0.Tickets.Geometry = a1.Tickets.Geometry))) (by exact xr_eqA (a := a0.Tickets.Geometry) (b := a1.Tickets.Geometry) rfl eqa106 rfl Try.eqGuardType105 rfl rfl rfl rfl) rfl rfl rfl rfl rfl c16 ?_
   refine ol_val (v := .bool (decide (a0.Tickets.Geometry = a1.Tickets.Geometry))) (by exact xr_pickT rfl rfl c16 rfl) rfl rfl rfl ?_
   refine ol_val (v := .bool (decide (a0.Tickets.Geometry = a1.Tickets.Geometry))) (by exact xr_move rfl rfl) rfl rfl rfl ?_
   rcases is j15 with ⟨c17, j15⟩ | ⟨c17, j15⟩
   ·skip
    refine ol_gval (v := .pointer (some ⟨G1, 1, none⟩)) (by exact xr_fieldAddr (p := 0) (q := 1) rfl fl110_1 rfl) rfl rfl rfl rfl rfl c17 ?_
    refine ol_gval (v := .pointer (some ⟨G1, 5, none⟩)) (by exact xr_fieldAddr (p := 1) (q := 4) rfl fl108_2 rfl) rfl rfl rfl rfl rfl c17 ?_
    refine ol_gval (v := .int .i64 a0.Tickets.High) (by exact xr_load1 (v := .int .i64 a0.Tickets.High) rfl ag3 rfl (b2.seg 5 rfl rfl)) rfl rfl rfl rfl rfl c17 ?_
    refine ol_gval (v := .pointer (some ⟨G7, 1, none⟩)) (by exact xr_fieldAddr (p := 0) (q := 1) rfl fl110_1 rfl) rfl rfl rfl rfl rfl c17 ?_
    refine ol_gval (v := .pointer (some ⟨G7, 5, none⟩)) (by exact xr_fieldAddr (p := 1) (q := 4) rfl fl108_2 rfl) rfl rfl rfl rfl rfl c17 ?_
    refine ol_gval (v := .int .i64 a1.Tickets.High) (by exact xr_load1 (v := .int .i64 a1.Tickets.High) rfl ag3 rfl (b8.seg 5 rfl rfl)) rfl rfl rfl rfl rfl c17 ?_
    refine ol_gval (v := .bool (decide (a0.Tickets.High = a1.Tickets.High))) (by exact xr_eqI rfl Try.underlying3 rfl rfl rfl) rfl rfl rfl rfl rfl c17 ?_
    refine ol_val (v := .bool (decide (a0.Tickets.High = a1.Tickets.High))) (by exact xr_pickT rfl rfl c17 rfl) rfl rfl rfl ?_
    refine ol_val (v := .bool (decide (a0.Tickets.High = a1.Tickets.High))) (by exact xr_move rfl rfl) rfl rfl rfl ?_
    rcases is j15 with ⟨c18, j15⟩ | ⟨c18, j15⟩
    ·skip
     refine ol_gval (v := .pointer (some ⟨G1, 1, none⟩)) (by exact xr_fieldAddr (p := 0) (q := 1) rfl fl110_1 rfl) rfl rfl rfl rfl rfl c18 ?_
     refine ol_gval (v := .pointer (some ⟨G1, 6, none⟩)) (by exact xr_fieldAddr (p := 1) (q := 5) rfl fl108_3 rfl) rfl rfl rfl rfl rfl c18 ?_
     refine ol_gval (v := .int .i64 a0.Tickets.Free) (by exact xr_load1 (v := .int .i64 a0.Tickets.Free) rfl ag3 rfl (b2.seg 6 rfl rfl)) rfl rfl rfl rfl rfl c18 ?_
     refine ol_gval (v := .pointer (some ⟨G7, 1, none⟩)) (by exact xr_fieldAddr (p := 0) (q := 1) rfl fl110_1 rfl) rfl rfl rfl rfl rfl c18 ?_
     refine ol_gval (v := .pointer (some ⟨G7, 6, none⟩)) (by exact xr_fieldAddr (p := 1) (q := 5) rfl fl108_3 rfl) rfl rfl rfl rfl rfl c18 ?_
     refine ol_gval (v := .int .i64 a1.Tickets.Free) (by exact xr_load1 (v := .int .i64 a1.Tickets.Free) rfl ag3 rfl (b8.seg 6 rfl rfl)) rfl rfl rfl rfl rfl c18 ?_
     refine ol_gval (v := .bool (decide (a0.Tickets.Free = a1.Tickets.Free))) (by exact xr_eqI rfl Try.underlying3 rfl rfl rfl) rfl rfl rfl rfl rfl c18 ?_
     refine ol_val (v := .bool (decide (a0.Tickets.Free = a1.Tickets.Free))) (by exact xr_pickT rfl rfl c18 rfl) rfl rfl rfl ?_
     refine ol_val (v := .bool (decide (a0.Tickets.Free = a1.Tickets.Free))) (by exact xr_move rfl rfl) rfl rfl rfl ?_
     rcases is j15 with ⟨c19, j15⟩ | ⟨c19, j15⟩
     ·skip
      refine ol_gval (v := .pointer (some ⟨G1, 1, none⟩)) (by exact xr_fieldAddr (p := 0) (q := 1) rfl fl110_1 rfl) rfl rfl rfl rfl rfl c19 ?_
      refine ol_gval (v := .pointer (some ⟨G1, 4, none⟩)) (by exact xr_fieldAddr (p := 1) (q := 3) rfl fl108_1 rfl) rfl rfl rfl rfl rfl c19 ?_
      refine ol_gval (v := .int .i64 a0.Tickets.Top) (by exact xr_load1 (v := .int .i64 a0.Tickets.Top) rfl ag3 rfl (b2.seg 4 rfl rfl)) rfl rfl rfl rfl rfl c19 ?_
      refine ol_gval (v := .pointer (some ⟨G7, 1, none⟩)) (by exact xr_fieldAddr (p := 0) (q := 1) rfl fl110_1 rfl) rfl rfl rfl rfl rfl c19 ?_
      refine ol_gval (v := .pointer (some ⟨G7, 4, none⟩)) (by exact xr_fieldAddr (p := 1) (q := 3) rfl fl108_1 rfl) rfl rfl rfl rfl rfl c19 ?_
      refine ol_gval (v := .int .i64 a1.Tickets.Top) (by exact xr_load1 (v := .int .i64 a1.Tickets.Top) rfl ag3 rfl (b8.seg 4 rfl rfl)) rfl rfl rfl rfl rfl c19 ?_
      refine ol_gval (v := .bool (decide (a0.Tickets.Top = a1.Tickets.Top))) (by exact xr_eqI rfl Try.underlying3 rfl rfl rfl) rfl rfl rfl rfl rfl c19 ?_
      refine ol_val (v := .bool (decide (a0.Tickets.Top = a1.Tickets.Top))) (by exact xr_pickT rfl rfl c19 rfl) rfl rfl rfl ?_
      refine ol_val (v := .bool (decide (a0.Tickets.Top = a1.Tickets.Top))) (by exact xr_move rfl rfl) rfl rfl rfl ?_
      rcases is j15 with ⟨c20, j15⟩ | ⟨c20, j15⟩
      ·skip
       refine ol_gval (v := .pointer (some ⟨G1, 7, none⟩)) (by exact xr_fieldAddr (p := 0) (q := 7) rfl fl110_2 rfl) rfl rfl rfl rfl rfl c20 ?_
       refine ol_gval (v := .int .i64 a0.Dir) (by exact xr_load1 (v := .int .i64 a0.Dir) rfl ag3 rfl (b2.seg 7 rfl rfl)) rfl rfl rfl rfl rfl c20 ?_
       refine ol_gval (v := .pointer (some ⟨G7, 7, none⟩)) (by exact xr_fieldAddr (p := 0) (q := 7) rfl fl110_2 rfl) rfl rfl rfl rfl rfl c20 ?_
       refine ol_gval (v := .int .i64 a1.Dir) (by exact xr_load1 (v := .int .i64 a1.Dir) rfl ag3 rfl (b8.seg 7 rfl rfl)) rfl rfl rfl rfl rfl c20 ?_
       refine ol_gval (v := .bool (decide (a0.Dir = a1.Dir))) (by exact xr_eqI rfl Try.underlying3 rfl rfl rfl) rfl rfl rfl rfl rfl c20 ?_
       refine ol_val (v := .bool (decide (a0.Dir = a1.Dir))) (by exact xr_pickT rfl rfl c20 rfl) rfl rfl rfl ?_
       refine ol_val (v := .bool (decide (a0.Dir = a1.Dir))) (by exact xr_move rfl rfl) rfl rfl rfl ?_
       rcases is j15 with ⟨c21, j15⟩ | ⟨c21, j15⟩
       ·skip
        refine ol_gval (v := .pointer (some ⟨G1, 8, none⟩)) (by exact xr_fieldAddr (p := 0) (q := 8) rfl fl110_3 rfl) rfl rfl rfl rfl rfl c21 ?_
        refine ol_gval (v := V0_0) (by exact xr_load1 (v := V0_0) rfl ag25 rfl (b2.seg 8 rfl rfl)) rfl rfl rfl rfl rfl c21 ?_
        refine ol_gval (v := .pointer (some ⟨G7, 8, none⟩)) (by exact xr_fieldAddr (p := 0) (q := 8) rfl fl110_3 rfl) rfl rfl rfl rfl rfl c21 ?_
        refine ol_gval (v := V1_0) (by exact xr_load1 (v := V1_0) rfl ag25 rfl (b8.seg 8 rfl rfl)) rfl rfl rfl rfl rfl c21 ?_
        obtain ⟨t22, k23, j15⟩ := bs j15
        refine ol_gop (by exact opv_call rfl cal66 (ac rfl (ac rfl an)) (rickyardref01_Ints.ok fu _ a0.Charts V0_0 (R0_0.gr fB) a1.Charts V1_0 (R1_0.gr fB) _ k23)) rfl rfl rfl rfl rfl c21 ?_
        rintro _ w25 ⟨rfl, q24⟩
        have fB := fB.gr q24
        refine ol_val (v := .bool t22) (by exact xr_pickT rfl rfl c21 rfl) rfl rfl rfl ?_
        refine ol_val (v := .bool t22) (by exact xr_assign rfl rfl) rfl rfl rfl ?_
        refine ol_nil ?_
        obtain rfl := Option.some.inj j15
        refine thn_i ?_
        exact ⟨rfl, q24⟩
       refine ol_gskip rfl rfl rfl rfl rfl c21 ?_
       refine ol_gskip rfl rfl rfl rfl rfl c21 ?_
       refine ol_gskip rfl rfl rfl rfl rfl c21 ?_
       refine ol_gskip rfl rfl rfl rfl rfl c21 ?_
       refine ol_gskip rfl rfl rfl rfl rfl c21 ?_
       refine ol_val (v := .bool false) (by exact xr_pickF rfl rfl c21 rfl) rfl rfl rfl ?_
       refine ol_val (v := .bool false) (by exact xr_assign rfl rfl) rfl rfl rfl ?_
       refine ol_nil ?_
       obtain rfl := Option.some.inj j15
       refine thn_i ?_
       exact ⟨rfl, Fr.refl _ _⟩
      refine ol_gskip rfl rfl rfl rfl rfl c20 ?_
      refine ol_gskip rfl rfl rfl rfl rfl c20 ?_
      refine ol_gskip rfl rfl rfl rfl rfl c20 ?_
      refine ol_gskip rfl rfl rfl rfl rfl c20 ?_
      refine ol_gskip rfl rfl rfl rfl rfl c20 ?_
      refine ol_val (v := .bool false) (by exact xr_pickF rfl rfl c20 rfl) rfl rfl rfl ?_
      refine ol_val (v := .bool false) (by exact xr_move rfl rfl) rfl rfl rfl ?_
      refine ol_gskip rfl rfl rfl rfl rfl rfl ?_
      refine ol_gskip rfl rfl rfl rfl rfl rfl ?_
      refine ol_gskip rfl rfl rfl rfl rfl rfl ?_
      refine ol_gskip rfl rfl rfl rfl rfl rfl ?_
      refine ol_gskip rfl rfl rfl rfl rfl rfl ?_
      refine ol_val (v := .bool false) (by exact xr_pickF rfl rfl rfl rfl) rfl rfl rfl ?_
      refine ol_val (v := .bool false) (by exact xr_assign rfl rfl) rfl rfl rfl ?_
      refine ol_nil ?_
      obtain rfl := Option.some.inj j15
      refine thn_i ?_
      exact ⟨rfl, Fr.refl _ _⟩
     refine ol_gskip rfl rfl rfl rfl rfl c19 ?_
     refine ol_gskip rfl rfl rfl rfl rfl c19 ?_
     refine ol_gskip rfl rfl rfl rfl rfl c19 ?_
     refine ol_gskip rfl rfl rfl rfl rfl c19 ?_
     refine ol_gskip rfl rfl rfl rfl rfl c19 ?_
     refine ol_gskip rfl rfl rfl rfl rfl c19 ?_
     refine ol_gskip rfl rfl rfl rfl rfl c19 ?_
     refine ol_val (v := .bool false) (by exact xr_pickF rfl rfl c19 rfl) rfl rfl rfl ?_
     refine ol_val (v := .bool false) (by exact xr_move rfl rfl) rfl rfl rfl ?_
     refine ol_gskip rfl rfl rfl rfl rfl rfl ?_
     refine ol_gskip rfl rfl rfl rfl rfl rfl ?_
     refine ol_gskip rfl rfl rfl rfl rfl rfl ?_
     refine ol_gskip rfl rfl rfl rfl rfl rfl ?_
     refine ol_gskip rfl rfl rfl rfl rfl rfl ?_
     refine ol_val (v := .bool false) (by exact xr_pickF rfl rfl rfl rfl) rfl rfl rfl ?_
     refine ol_val (v := .bool false) (by exact xr_move rfl rfl) rfl rfl rfl ?_
     refine ol_gskip rfl rfl rfl rfl rfl rfl ?_
     refine ol_gskip rfl rfl rfl rfl rfl rfl ?_
     refine ol_gskip rfl rfl rfl rfl rfl rfl ?_
     refine ol_gskip rfl rfl rfl rfl rfl rfl ?_
     refine ol_gskip rfl rfl rfl rfl rfl rfl ?_
     refine ol_val (v := .bool false) (by exact xr_pickF rfl rfl rfl rfl) rfl rfl rfl ?_
     refine ol_val (v := .bool false) (by exact xr_assign rfl rfl) rfl rfl rfl ?_
     refine ol_nil ?_
     obtain rfl := Option.some.inj j15
     refine thn_i ?_
     exact ⟨rfl, Fr.refl _ _⟩
    refine ol_gskip rfl rfl rfl rfl rfl c18 ?_
    refine ol_gskip rfl rfl rfl rfl rfl c18 ?_
    refine ol_gskip rfl rfl rfl rfl rfl c18 ?_
    refine ol_gskip rfl rfl rfl rfl rfl c18 ?_
    refine ol_gskip rfl rfl rfl rfl rfl c18 ?_
    refine ol_gskip rfl rfl rfl rfl rfl c18 ?_
    refine ol_gskip rfl rfl rfl rfl rfl c18 ?_
    refine ol_val (v := .bool false) (by exact xr_pickF rfl rfl c18 rfl) rfl rfl rfl ?_
    refine ol_val (v := .bool false) (by exact xr_move rfl rfl) rfl rfl rfl ?_
    refine ol_gskip rfl rfl rfl rfl rfl rfl ?_
    refine ol_gskip rfl rfl rfl rfl rfl rfl ?_
    refine ol_gskip rfl rfl rfl rfl rfl rfl ?_
    refine ol_gskip rfl rfl rfl rfl rfl rfl ?_
    refine ol_gskip rfl rfl rfl rfl rfl rfl ?_
    refine ol_gskip rfl rfl rfl rfl rfl rfl ?_
    refine ol_gskip rfl rfl rfl rfl rfl rfl ?_
    refine ol_val (v := .bool false) (by exact xr_pickF rfl rfl rfl rfl) rfl rfl rfl ?_
    refine ol_val (v := .bool false) (by exact xr_move rfl rfl) rfl rfl rfl ?_
    refine ol_gskip rfl rfl rfl rfl rfl rfl ?_
    refine ol_gskip rfl rfl rfl rfl rfl rfl ?_
    refine ol_gskip rfl rfl rfl rfl rfl rfl ?_
    refine ol_gskip rfl rfl rfl rfl rfl rfl ?_
    refine ol_gskip rfl rfl rfl rfl rfl rfl ?_
    refine ol_val (v := .bool false) (by exact xr_pickF rfl rfl rfl rfl) rfl rfl rfl ?_
    refine ol_val (v := .bool false) (by exact xr_move rfl rfl) rfl rfl rfl ?_
    refine ol_gskip rfl rfl rfl rfl rfl rfl ?_
    refine ol_gskip rfl rfl rfl rfl rfl rfl ?_
    refine ol_gskip rfl rfl rfl rfl rfl rfl ?_
    refine ol_gskip rfl rfl rfl rfl rfl rfl ?_
    refine ol_gskip rfl rfl rfl rfl rfl rfl ?_
    refine ol_val (v := .bool false) (by exact xr_pickF rfl rfl rfl rfl) rfl rfl rfl ?_
    refine ol_val (v := .bool false) (by exact xr_assign rfl rfl) rfl rfl rfl ?_
    refine ol_nil ?_
    obtain rfl := Option.some.inj j15
    refine thn_i ?_
    exact ⟨rfl, Fr.refl _ _⟩
   refine ol_gskip rfl rfl rfl rfl rfl c17 ?_
   refine ol_gskip rfl rfl rfl rfl rfl c17 ?_
   refine ol_gskip rfl rfl rfl rfl rfl c17 ?_
   refine ol_gskip rfl rfl rfl rfl rfl c17 ?_
   refine ol_gskip rfl rfl rfl rfl rfl c17 ?_
   refine ol_gskip rfl rfl rfl rfl rfl c17 ?_
   refine ol_gskip rfl rfl rfl rfl rfl c17 ?_
   refine ol_val (v := .bool false) (by exact xr_pickF rfl rfl c17 rfl) rfl rfl rfl ?_
   refine ol_val (v := .bool false) (by exact xr_move rfl rfl) rfl rfl rfl ?_
   refine ol_gskip rfl rfl rfl rfl rfl rfl ?_
   refine ol_gskip rfl rfl rfl rfl rfl rfl ?_
   refine ol_gskip rfl rfl rfl rfl rfl rfl ?_
   refine ol_gskip rfl rfl rfl rfl rfl rfl ?_
   refine ol_gskip rfl rfl rfl rfl rfl rfl ?_
   refine ol_gskip rfl rfl rfl rfl rfl rfl ?_
   refine ol_gskip rfl rfl rfl rfl rfl rfl ?_
   refine ol_val (v := .bool false) (by exact xr_pickF rfl rfl rfl rfl) rfl rfl rfl ?_
   refine ol_val (v := .bool false) (by exact xr_move rfl rfl) rfl rfl rfl ?_
   refine ol_gskip rfl rfl rfl rfl rfl rfl ?_
   refine ol_gskip rfl rfl rfl rfl rfl rfl ?_
   refine ol_gskip rfl rfl rfl rfl rfl rfl ?_
   refine ol_gskip rfl rfl rfl rfl rfl rfl ?_
   refine ol_gskip rfl rfl rfl rfl rfl rfl ?_
   refine ol_gskip rfl rfl rfl rfl rfl rfl ?_
   refine ol_gskip rfl rfl rfl rfl rfl rfl ?_
   refine ol_val (v := .bool false) (by exact xr_pickF rfl rfl rfl rfl) rfl rfl rfl ?_
   refine ol_val (v := .bool false) (by exact xr_move rfl rfl) rfl rfl rfl ?_
   refine ol_gskip rfl rfl rfl rfl rfl rfl ?_
   refine ol_gskip rfl rfl rfl rfl rfl rfl ?_
   refine ol_gskip rfl rfl rfl rfl rfl rfl ?_
   refine ol_gskip rfl rfl rfl rfl rfl rfl ?_
   refine ol_gskip rfl rfl rfl rfl rfl rfl ?_
   refine ol_val (v := .bool false) (by exact xr_pickF rfl rfl rfl rfl) rfl rfl rfl ?_
   refine ol_val (v := .bool false) (by exact xr_move rfl rfl) rfl rfl rfl ?_
   refine ol_gskip rfl rfl rfl rfl rfl rfl ?_
   refine ol_gskip rfl rfl rfl rfl rfl rfl ?_
   refine ol_gskip rfl rfl rfl rfl rfl rfl ?_
   refine ol_gskip rfl rfl rfl rfl rfl rfl ?_
   refine ol_gskip rfl rfl rfl rfl rfl rfl ?_
   refine ol_val (v := .bool false) (by exact xr_pickF rfl rfl rfl rfl) rfl rfl rfl ?_
   refine ol_val (v := .bool false) (by exact xr_assign rfl rfl) rfl rfl rfl ?_
   refine ol_nil ?_
   obtain rfl := Option.some.inj j15
   refine thn_i ?_
   exact ⟨rfl, Fr.refl _ _⟩
  refine ol_gskip rfl rfl rfl rfl rfl c16 ?_
  refine ol_gskip rfl rfl rfl rfl rfl c16 ?_
  refine ol_gskip rfl rfl rfl rfl rfl c16 ?_
  refine ol_gskip rfl rfl rfl rfl rfl c16 ?_
  refine ol_gskip rfl rfl rfl rfl rfl c16 ?_
  refine ol_gskip rfl rfl rfl rfl rfl c16 ?_
  refine ol_gskip rfl rfl rfl rfl rfl c16 ?_
  refine ol_val (v := .bool false) (by exact xr_pickF rfl rfl c16 rfl) rfl rfl rfl ?_
  refine ol_val (v := .bool false) (by exact xr_move rfl rfl) rfl rfl rfl ?_
  refine ol_gskip rfl rfl rfl rfl rfl rfl ?_
  refine ol_gskip rfl rfl rfl rfl rfl rfl ?_
  refine ol_gskip rfl rfl rfl rfl rfl rfl ?_
  refine ol_gskip rfl rfl rfl rfl rfl rfl ?_
  refine ol_gskip rfl rfl rfl rfl rfl rfl ?_
  refine ol_gskip rfl rfl rfl rfl rfl rfl ?_
  refine ol_gskip rfl rfl rfl rfl rfl rfl ?_
  refine ol_val (v := .bool false) (by exact xr_pickF rfl rfl rfl rfl) rfl rfl rfl ?_
  refine ol_val (v := .bool false) (by exact xr_move rfl rfl) rfl rfl rfl ?_
  refine ol_gskip rfl rfl rfl rfl rfl rfl ?_
  refine ol_gskip rfl rfl rfl rfl rfl rfl ?_
  refine ol_gskip rfl rfl rfl rfl rfl rfl ?_
  refine ol_gskip rfl rfl rfl rfl rfl rfl ?_
  refine ol_gskip rfl rfl rfl rfl rfl rfl ?_
  refine ol_gskip rfl rfl rfl rfl rfl rfl ?_
  refine ol_gskip rfl rfl rfl rfl rfl rfl ?_
  refine ol_val (v := .bool false) (by exact xr_pickF rfl rfl rfl rfl) rfl rfl rfl ?_
  refine ol_val (v := .bool false) (by exact xr_move rfl rfl) rfl rfl rfl ?_
  refine ol_gskip rfl rfl rfl rfl rfl rfl ?_
  refine ol_gskip rfl rfl rfl rfl rfl rfl ?_
  refine ol_gskip rfl rfl rfl rfl rfl rfl ?_
  refine ol_gskip rfl rfl rfl rfl rfl rfl ?_
  refine ol_gskip rfl rfl rfl rfl rfl rfl ?_
  refine ol_gskip rfl rfl rfl rfl rfl rfl ?_
  refine ol_gskip rfl rfl rfl rfl rfl rfl ?_
  refine ol_val (v := .bool false) (by exact xr_pickF rfl rfl rfl rfl) rfl rfl rfl ?_
  refine ol_val (v := .bool false) (by exact xr_move rfl rfl) rfl rfl rfl ?_
  refine ol_gskip rfl rfl rfl rfl rfl rfl ?_
  refine ol_gskip rfl rfl rfl rfl rfl rfl ?_
  refine ol_gskip rfl rfl rfl rfl rfl rfl ?_
  refine ol_gskip rfl rfl rfl rfl rfl rfl ?_
  refine ol_gskip rfl rfl rfl rfl rfl rfl ?_
  refine ol_val (v := .bool false) (by exact xr_pickF rfl rfl rfl rfl) rfl rfl rfl ?_
  refine ol_val (v := .bool false) (by exact xr_move rfl rfl) rfl rfl rfl ?_
  refine ol_gskip rfl rfl rfl rfl rfl rfl ?_
  refine ol_gskip rfl rfl rfl rfl rfl rfl ?_
  refine ol_gskip rfl rfl rfl rfl rfl rfl ?_
  refine ol_gskip rfl rfl rfl rfl rfl rfl ?_
  refine ol_gskip rfl rfl rfl rfl rfl rfl ?_
  refine ol_val (v := .bool false) (by exact xr_pickF rfl rfl rfl rfl) rfl rfl rfl ?_
  refine ol_val (v := .bool false) (by exact xr_assign rfl rfl) rfl rfl rfl ?_
  refine ol_nil ?_
  obtain rfl := Option.some.inj j15
  refine thn_i ?_
  exact ⟨rfl, Fr.refl _ _⟩
 rintro ρ26 w27 ⟨e4, q28⟩
 have fB := fB.gr q28
 refine cw_ret ?_
 repeat (first | with_reducible refine thn_r ?_ | with_reducible refine blk_r ?_)
 obtain rfl := Option.some.inj h
 refine fin_ret1 Try.results74 e4 ?_
 exact ⟨_, rfl, rfl, fB⟩
def rickyardlaw16_RootPicks.f (fu : Nat) (a0 : List Int) (a1 : Int) : Option Bool := ((((rickyardlaw16_awake.f fu : Option Bool).bind fun t3 => (if (!t3) = true then some (true) else some ((decide ((List.length a0 : Int) > 500))))) : Option Bool).bind fun x1 => (if x1 = true then ((rickyardlaw16_awake.f fu : Option Bool).bind fun t12 => some (t12)) else ((pmem_From.f fu a0 : Option S_pmem_Device).bind fun t16 => (if 0 ≤ (IntKind.i64.wrap (64 * (IntKind.i64.wrap (Int.tdiv (List.length a0 : Int) 64)))) ∧ (IntKind.i64.wrap (64 * (IntKind.i64.wrap (Int.tdiv (List.length a0 : Int) 64)))) ≤ (List.length a0 : Int) then ((root_Read.f fu t16 a1 : Option (S_api_Super × Bool)).bind fun t34 => ((rickyardref16_At.f fu (List.map toB (cut a0 0 (IntKind.i64.wrap (64 * (IntKind.i64.wrap (Int.tdiv (List.length a0 : Int) 64)))))) a1 : Option (S_api_Super × Bool)).bind fun t54 => ((root_Pick.f fu t16 : Option (S_api_Super × Int × Bool)).bind fun t77 => ((rickyardref16_Pick.f fu (List.map toB (cut a0 0 (IntKind.i64.wrap (64 * (IntKind.i64.wrap (Int.tdiv (List.length a0 : Int) 64)))))) : Option (S_api_Super × Int × Bool)).bind fun t99 => (((if (decide (t34.2 = t54.2)) = true then ((rickyardref13_Same.f fu t34.1 t54.1 : Option Bool).bind fun t127 => (if t127 = true then (if (decide (t77.2.2 = t99.2.2)) = true then (if (decide (t77.2.1 = t99.2.1)) = true then ((rickyardref13_Same.f fu t77.1 t99.1 : Option Bool).bind fun t134 => some (t134)) else some (false)) else some (false)) else some (false))) else some (false)) : Option Bool).bind fun x124 => some (x124)))))) else none))))
set_option maxRecDepth 100000 in
set_option maxHeartbeats 400000 in
theorem rickyardlaw16_RootPicks.ok (fu : Nat) (w : World) (a0 : List Int) (V0_0 : Value) (R0_0 : Rd (kI .u8) w V0_0 a0) (a1 : Int) (r : Bool) (h : rickyardlaw16_RootPicks.f fu a0 a1 = some r) :
  Calls Try.prog 18 (([V0_0, .int .i64 a1] : List Value).toArray) w (fun e w' => ∃ v, e = .returned v ∧ v = .bool r ∧ Gr w w') := by
 unfold rickyardlaw16_RootPicks.f at h
 have fB : Gr w w := Fr.refl _ _
 refine calls_cw Try.func18 rfl Try.ntmps18 rfl ?_
 refine cw_seq ?_
 refine cw_region ?_
 refine ol_val (v := .bool false) (by exact xr_assign rfl rfl) rfl rfl rfl ?_
 refine ol_nil ?_
 refine cw_seq ?_
 refine cw_seq ?_
 obtain ⟨x1, j2, h⟩ := bs h
 refine cw_mid (fun ρ' w' => ρ' 0 = V0_0 ∧ ρ' 1 = .int .i64 a1 ∧ ρ' 23 = .bool x1 ∧ Gr w w') ?_ ?_
 ·skip
  refine cw_region ?_
  obtain ⟨t3, k4, j2⟩ := bs j2
  refine ol_op (by exact opv_call rfl cal69 an (rickyardlaw16_awake.ok fu _ _ k4)) rfl rfl rfl ?_
  rintro _ w6 ⟨rfl, q5⟩
  have fB := fB.gr q5
  refine ol_val (v := .bool (!t3)) (by exact xr_not rfl rfl) rfl rfl rfl ?_
  refine ol_val (v := .bool (!t3)) (by exact xr_move rfl rfl) rfl rfl rfl ?_
  rcases is j2 with ⟨c7, j2⟩ | ⟨c7, j2⟩
  ·skip
   refine ol_gskip rfl rfl rfl rfl rfl c7 ?_
   refine ol_gskip rfl rfl rfl rfl rfl c7 ?_
   refine ol_gskip rfl rfl rfl rfl rfl c7 ?_
   refine ol_val (v := .bool true) (by exact xr_pickT rfl rfl c7 rfl) rfl rfl rfl ?_
   refine ol_nil ?_
   obtain rfl := Option.some.inj j2
   refine thn_i ?_
   exact ⟨rfl, rfl, rfl, q5⟩
  refine ol_gval (v := V0_0) (by exact xr_move rfl rfl) rfl rfl rfl rfl rfl c7 ?_
  refine ol_gval (v := .int .i64 (List.length a0 : Int)) (by exact xr_lenR rfl Try.underlying43 rfl (R0_0.gr fB)) rfl rfl rfl rfl rfl c7 ?_
  refine ol_gval (v := .bool (decide ((List.length a0 : Int) > 500))) (by exact xr_gtr rfl rfl rfl) rfl rfl rfl rfl rfl c7 ?_
  refine ol_val (v := .bool (decide ((List.length a0 : Int) > 500))) (by exact xr_pickF rfl rfl c7 rfl) rfl rfl rfl ?_
  refine ol_nil ?_
  obtain rfl := Option.some.inj j2
  refine thn_i ?_
  exact ⟨rfl, rfl, rfl, q5⟩
 rintro ρ8 w9 ⟨e0, e1, e23, q10⟩
 have fB := fB.gr q10
 rcases is h with ⟨c11, h⟩ | ⟨c11, h⟩
 ·refine cw_condT e23 c11 ?_
  refine cw_seq ?_
  refine cw_region ?_
  obtain ⟨t12, k13, h⟩ := bs h
  refine ol_op (by exact opv_call rfl cal69 an (rickyardlaw16_awake.ok fu _ _ k13)) rfl rfl rfl ?_
  rintro _ w15 ⟨rfl, q14⟩
  have fB := fB.gr q14
  refine ol_val (v := .bool t12) (by exact xr_assign rfl rfl) rfl rfl rfl ?_
  refine ol_nil ?_
  refine cw_ret ?_
  repeat (first | with_reducible refine thn_r ?_ | with_reducible refine blk_r ?_)
  obtain rfl := Option.some.inj h
  refine fin_ret1 Try.results18 rfl ?_
  exact ⟨_, rfl, rfl, fB⟩
 refine cw_condF e23 c11 ?_
 refine cw_skip ?_
 refine cw_seq ?_
 refine cw_region ?_
 refine ol_val (v := V0_0) (by exact xr_move rfl e0) rfl rfl rfl ?_
 obtain ⟨t16, k17, h⟩ := bs h
 refine ol_op (by exact opv_call rfl cal48 (ac rfl an) (pmem_From.ok fu _ a0 V0_0 (R0_0.gr fB) _ k17)) rfl rfl rfl ?_
 rintro u18 w21 ⟨_, p19, rfl, q20⟩
 obtain ⟨G22, u26, u29, o27, o30, rfl, z23, b24⟩ := p19
 have o27 := Own.base o27 fB.size
 have o30 := Own.base o30 fB.size
 have z23 := Nat.le_trans fB.size z23
 have fB := fB.gr q20
 refine ol_val (v := .pointer (some ⟨G22, 0, none⟩)) (by exact xr_assign rfl rfl) rfl rfl rfl ?_
 refine ol_nil ?_
 refine cw_seq ?_
 refine cw_seq ?_
 refine cw_region ?_
 refine ol_val (v := .pointer (some ⟨G22, 0, none⟩)) (by exact xr_move rfl rfl) rfl rfl rfl ?_
 refine ol_val (v := .bool false) (by exact xr_eqP (b := false) rfl Try.underlying30 rfl rfl (by simp) (by simp)) rfl rfl rfl ?_
 refine ol_nil ?_
 refine cw_condF rfl rfl ?_
 refine cw_skip ?_
 refine cw_seq ?_
 refine cw_region ?_
 refine ol_val (v := V0_0) (by exact xr_move rfl e0) rfl rfl rfl ?_
 refine ol_val (v := V0_0) (by exact xr_move rfl e0) rfl rfl rfl ?_
 refine ol_val (v := .int .i64 (List.length a0 : Int)) (by exact xr_lenR rfl Try.underlying43 rfl (R0_0.gr fB)) rfl rfl rfl ?_
 refine ol_val (v := .int .i64 (IntKind.i64.wrap (Int.tdiv (List.length a0 : Int) 64))) (by exact xr_quo rfl rfl rfl (by decide)) rfl rfl rfl ?_
 refine ol_val (v := .int .i64 (IntKind.i64.wrap (64 * (IntKind.i64.wrap (Int.tdiv (List.length a0 : Int) 64))))) (by exact xr_mul rfl rfl rfl) rfl rfl rfl ?_
 obtain ⟨g33, h⟩ := gs h
 refine ol_val (v := subv 1 V0_0 0 (Int.toNat (IntKind.i64.wrap (64 * (IntKind.i64.wrap (Int.tdiv (List.length a0 : Int) 64)))))) (by exact xr_slice_h (K := (kI .u8)) (v := V0_0) rfl Try.underlying43 sz5 rfl (R0_0.gr fB) rfl g33.1 g33.2) rfl rfl rfl ?_
 have r32 : Rd (kI .u8) w21 (subv 1 V0_0 0 (Int.toNat (IntKind.i64.wrap (64 * (IntKind.i64.wrap (Int.tdiv (List.length a0 : Int) 64)))))) (cut a0 0 (IntKind.i64.wrap (64 * (IntKind.i64.wrap (Int.tdiv (List.length a0 : Int) 64))))) := (R0_0.gr fB).cut (lo := 0) (hi := (IntKind.i64.wrap (64 * (IntKind.i64.wrap (Int.tdiv (List.length a0 : Int) 64))))) (by decide) g33.1 g33.2
 refine ol_val (v := sv (List.map toB (cut a0 0 (IntKind.i64.wrap (64 * (IntKind.i64.wrap (Int.tdiv (List.length a0 : Int) 64))))))) (by exact xr_toStr rfl Try.underlying43 Try.underlying5 Try.underlying9 rfl r32) rfl rfl rfl ?_
 refine ol_val (v := sv (List.map toB (cut a0 0 (IntKind.i64.wrap (64 * (IntKind.i64.wrap (Int.tdiv (List.length a0 : Int) 64))))))) (by exact xr_assign rfl rfl) rfl rfl rfl ?_
 refine ol_nil ?_
 refine cw_seq ?_
 refine cw_region ?_
 refine ol_val (v := .pointer (some ⟨G22, 0, none⟩)) (by exact xr_move rfl rfl) rfl rfl rfl ?_
 refine ol_val (v := .int .i64 a1) (by exact xr_move rfl e1) rfl rfl rfl ?_
 obtain ⟨t34, k35, h⟩ := bs h
 refine ol_op (by exact opv_call rfl cal70 (ac rfl (ac rfl an)) (root_Read.ok fu _ t16 G22 u26 (o27.rd) u29 (o30.rd) b24 a1 _ k35)) rfl rfl rfl ?_
 rintro _ w40 ⟨u36, o37, rfl, q39⟩
 have a41 := OffV.call o30 o37
 have o37 := Own.base o37 fB.size
 have b24 := b24.gr q39
 have o27 := o27.gr q39
 have o30 := o30.gr q39
 have fB := fB.gr q39
 refine ol_val (v := .tuple #[aggV [Seg.cell (.int .i64 t34.1.Epoch), Seg.cell (.int .i64 t34.1.Tickets.Geometry.Blocks), Seg.cell (.int .i64 t34.1.Tickets.Geometry.Slots), Seg.cell (.int .i64 t34.1.Tickets.Geometry.Gens), Seg.cell (.int .i64 t34.1.Tickets.Top), Seg.cell (.int .i64 t34.1.Tickets.High), Seg.cell (.int .i64 t34.1.Tickets.Free), Seg.cell (.int .i64 t34.1.Dir), Seg.cell u36 o37.one], .bool t34.2]) (by exact xr_move rfl rfl) rfl rfl rfl ?_
 refine ol_val (v := aggV [Seg.cell (.int .i64 t34.1.Epoch), Seg.cell (.int .i64 t34.1.Tickets.Geometry.Blocks), Seg.cell (.int .i64 t34.1.Tickets.Geometry.Slots), Seg.cell (.int .i64 t34.1.Tickets.Geometry.Gens), Seg.cell (.int .i64 t34.1.Tickets.Top), Seg.cell (.int .i64 t34.1.Tickets.High), Seg.cell (.int .i64 t34.1.Tickets.Free), Seg.cell (.int .i64 t34.1.Dir), Seg.cell u36 o37.one]) (by exact xr_extract rfl rfl rfl) rfl rfl rfl ?_
 refine ol_val (v := .bool t34.2) (by exact xr_extract rfl rfl rfl) rfl rfl rfl ?_
 refine ol_op (by exact opv_alloc (ss := [Seg.cell (.int .i64 (0 : Int)), Seg.cell (.int .i64 (0 : Int)), Seg.cell (.int .i64 (0 : Int)), Seg.cell (.int .i64 (0 : Int)), Seg.cell (.int .i64 (0 : Int)), Seg.cell (.int .i64 (0 : Int)), Seg.cell (.int .i64 (0 : Int)), Seg.cell (.int .i64 (0 : Int)), Seg.cell (.slice none 0 0) (by rfl)]) rfl ze110 rfl) rfl rfl rfl ?_
 rintro _ w47 ⟨G42, rfl, b43, q44, z45⟩
 have n48 := b24.ne z45
 have z45 := Nat.le_trans fB.size z45
 have b24 := b24.gr q44
 have o27 := o27.gr q44
 have o30 := o30.gr q44
 have o37 := o37.gr q44
 have fB := fB.gr q44
 have f50 := off_ty b43 o27 (by decide)
 have f51 := off_ty b43 o30 (by decide)
 have f52 := off_ty b43 o37 (by decide)
 refine ol_op0 (by exact opv_store (ss' := [Seg.cell (.int .i64 t34.1.Epoch), Seg.cell (.int .i64 t34.1.Tickets.Geometry.Blocks), Seg.cell (.int .i64 t34.1.Tickets.Geometry.Slots), Seg.cell (.int .i64 t34.1.Tickets.Geometry.Gens), Seg.cell (.int .i64 t34.1.Tickets.Top), Seg.cell (.int .i64 t34.1.Tickets.High), Seg.cell (.int .i64 t34.1.Tickets.Free), Seg.cell (.int .i64 t34.1.Dir), Seg.cell u36 o37.one]) (xs := cellsOf [Seg.cell (.int .i64 t34.1.Epoch), Seg.cell (.int .i64 t34.1.Tickets.Geometry.Blocks), Seg.cell (.int .i64 t34.1.Tickets.Geometry.Slots), Seg.cell (.int .i64 t34.1.Tickets.Geometry.Gens), Seg.cell (.int .i64 t34.1.Tickets.Top), Seg.cell (.int .i64 t34.1.Tickets.High), Seg.cell (.int .i64 t34.1.Tickets.Free), Seg.cell (.int .i64 t34.1.Dir), Seg.cell u36 o37.one]) rfl sz110 rfl rfl rfl (len_cellsOf _) (one_cellsOf _) b43 (Spl.segs _ 0 9 [Seg.cell (.int .i64 t34.1.Epoch), Seg.cell (.int .i64 t34.1.Tickets.Geometry.Blocks), Seg.cell (.int .i64 t34.1.Tickets.Geometry.Slots), Seg.cell (.int .i64 t34.1.Tickets.Geometry.Gens), Seg.cell (.int .i64 t34.1.Tickets.Top), Seg.cell (.int .i64 t34.1.Tickets.High), Seg.cell (.int .i64 t34.1.Tickets.Free), Seg.cell (.int .i64 t34.1.Dir), Seg.cell u36 o37.one] rfl rfl)) rfl rfl ?_
 rintro _ w53 ⟨b43, q49⟩
 have b24 := b24.wr q49 n48
 have o27 := o27.wr q49 f50
 have o30 := o30.wr q49 f51
 have o37 := o37.wr q49 f52
 have fB := fB.wr q49 z45
 refine ol_val (v := .bool t34.2) (by exact xr_assign rfl rfl) rfl rfl rfl ?_
 refine ol_nil ?_
 refine cw_seq ?_
 refine cw_region ?_
 refine ol_val (v := sv (List.map toB (cut a0 0 (IntKind.i64.wrap (64 * (IntKind.i64.wrap (Int.tdiv (List.length a0 : Int) 64))))))) (by exact xr_move rfl rfl) rfl rfl rfl ?_
 refine ol_val (v := .int .i64 a1) (by exact xr_move rfl e1) rfl rfl rfl ?_
 obtain ⟨t54, k55, h⟩ := bs h
 refine ol_op (by exact opv_call rfl cal71 (ac rfl (ac rfl an)) (rickyardref16_At.ok fu _ (List.map toB (cut a0 0 (IntKind.i64.wrap (64 * (IntKind.i64.wrap (Int.tdiv (List.length a0 : Int) 64)))))) a1 _ k55)) rfl rfl rfl ?_
 rintro _ w60 ⟨u56, o57, rfl, q59⟩
 have a61 := OffV.call o30 o57
 have a62 := OffV.call o37 o57
 have o57 := Own.base o57 fB.size
 have b24 := b24.gr q59
 have b43 := b43.gr q59
 have o27 := o27.gr q59
 have o30 := o30.gr q59
 have o37 := o37.gr q59
 have fB := fB.gr q59
 refine ol_val (v := .tuple #[aggV [Seg.cell (.int .i64 t54.1.Epoch), Seg.cell (.int .i64 t54.1.Tickets.Geometry.Blocks), Seg.cell (.int .i64 t54.1.Tickets.Geometry.Slots), Seg.cell (.int .i64 t54.1.Tickets.Geometry.Gens), Seg.cell (.int .i64 t54.1.Tickets.Top), Seg.cell (.int .i64 t54.1.Tickets.High), Seg.cell (.int .i64 t54.1.Tickets.Free), Seg.cell (.int .i64 t54.1.Dir), Seg.cell u56 o57.one], .bool t54.2]) (by exact xr_move rfl rfl) rfl rfl rfl ?_
 refine ol_val (v := aggV [Seg.cell (.int .i64 t54.1.Epoch), Seg.cell (.int .i64 t54.1.Tickets.Geometry.Blocks), Seg.cell (.int .i64 t54.1.Tickets.Geometry.Slots), Seg.cell (.int .i64 t54.1.Tickets.Geometry.Gens), Seg.cell (.int .i64 t54.1.Tickets.Top), Seg.cell (.int .i64 t54.1.Tickets.High), Seg.cell (.int .i64 t54.1.Tickets.Free), Seg.cell (.int .i64 t54.1.Dir), Seg.cell u56 o57.one]) (by exact xr_extract rfl rfl rfl) rfl rfl rfl ?_
 refine ol_val (v := .bool t54.2) (by exact xr_extract rfl rfl rfl) rfl rfl rfl ?_
 refine ol_op (by exact opv_alloc (ss := [Seg.cell (.int .i64 (0 : Int)), Seg.cell (.int .i64 (0 : Int)), Seg.cell (.int .i64 (0 : Int)), Seg.cell (.int .i64 (0 : Int)), Seg.cell (.int .i64 (0 : Int)), Seg.cell (.int .i64 (0 : Int)), Seg.cell (.int .i64 (0 : Int)), Seg.cell (.int .i64 (0 : Int)), Seg.cell (.slice none 0 0) (by rfl)]) rfl ze110 rfl) rfl rfl rfl ?_
 rintro _ w68 ⟨G63, rfl, b64, q65, z66⟩
 have n69 := b24.ne z66
 have n70 := b43.ne z66
 have z66 := Nat.le_trans fB.size z66
 have b24 := b24.gr q65
 have b43 := b43.gr q65
 have o27 := o27.gr q65
 have o30 := o30.gr q65
 have o37 := o37.gr q65
 have o57 := o57.gr q65
 have fB := fB.gr q65
 have f72 := off_ty b64 o27 (by decide)
 have f73 := off_ty b64 o30 (by decide)
 have f74 := off_ty b64 o37 (by decide)
 have f75 := off_ty b64 o57 (by decide)
 refine ol_op0 (by exact opv_store (ss' := [Seg.cell (.int .i64 t54.1.Epoch), Seg.cell (.int .i64 t54.1.Tickets.Geometry.Blocks), Seg.cell (.int .i64 t54.1.Tickets.Geometry.Slots), Seg.cell (.int .i64 t54.1.Tickets.Geometry.Gens), Seg.cell (.int .i64 t54.1.Tickets.Top), Seg.cell (.int .i64 t54.1.Tickets.High), Seg.cell (.int .i64 t54.1.Tickets.Free), Seg.cell (.int .i64 t54.1.Dir), Seg.cell u56 o57.one]) (xs := cellsOf [Seg.cell (.int .i64 t54.1.Epoch), Seg.cell (.int .i64 t54.1.Tickets.Geometry.Blocks), Seg.cell (.int .i64 t54.1.Tickets.Geometry.Slots), Seg.cell (.int .i64 t54.1.Tickets.Geometry.Gens), Seg.cell (.int .i64 t54.1.Tickets.Top), Seg.cell (.int .i64 t54.1.Tickets.High), Seg.cell (.int .i64 t54.1.Tickets.Free), Seg.cell (.int .i64 t54.1.Dir), Seg.cell u56 o57.one]) rfl sz110 rfl rfl rfl (len_cellsOf _) (one_cellsOf _) b64 (Spl.segs _ 0 9 [Seg.cell (.int .i64 t54.1.Epoch), Seg.cell (.int .i64 t54.1.Tickets.Geometry.Blocks), Seg.cell (.int .i64 t54.1.Tickets.Geometry.Slots), Seg.cell (.int .i64 t54.1.Tickets.Geometry.Gens), Seg.cell (.int .i64 t54.1.Tickets.Top), Seg.cell (.int .i64 t54.1.Tickets.High), Seg.cell (.int .i64 t54.1.Tickets.Free), Seg.cell (.int .i64 t54.1.Dir), Seg.cell u56 o57.one] rfl rfl)) rfl rfl ?_
 rintro _ w76 ⟨b64, q71⟩
 have b24 := b24.wr q71 n69
 have b43 := b43.wr q71 n70
 have o27 := o27.wr q71 f72
 have o30 := o30.wr q71 f73
 have o37 := o37.wr q71 f74
 have o57 := o57.wr q71 f75
 have fB := fB.wr q71 z66
 refine ol_val (v := .bool t54.2) (by exact xr_assign rfl rfl) rfl rfl rfl ?_
 refine ol_nil ?_
 refine cw_seq ?_
 refine cw_region ?_
 refine ol_val (v := .pointer (some ⟨G22, 0, none⟩)) (by exact xr_move rfl rfl) rfl rfl rfl ?_
 obtain ⟨t77, k78, h⟩ := bs h
 refine ol_op (by exact opv_call rfl cal72 (ac rfl an) (root_Pick.ok fu _ t16 G22 u26 (o27.rd) u29 (o30.rd) b24 _ k78)) rfl rfl rfl ?_
 rintro _ w83 ⟨u79, o80, rfl, q82⟩
 have a84 := OffV.call o37 o80
 have a85 := OffV.call o57 o80
 have o80 := Own.base o80 fB.size
 have b43 := b43.gr q82
 have b64 := b64.gr q82
 have o37 := o37.gr q82
 have o57 := o57.gr q82
 have fB := fB.gr q82
 refine ol_val (v := .tuple #[aggV [Seg.cell (.int .i64 t77.1.Epoch), Seg.cell (.int .i64 t77.1.Tickets.Geometry.Blocks), Seg.cell (.int .i64 t77.1.Tickets.Geometry.Slots), Seg.cell (.int .i64 t77.1.Tickets.Geometry.Gens), Seg.cell (.int .i64 t77.1.Tickets.Top), Seg.cell (.int .i64 t77.1.Tickets.High), Seg.cell (.int .i64 t77.1.Tickets.Free), Seg.cell (.int .i64 t77.1.Dir), Seg.cell u79 o80.one], .int .i64 t77.2.1, .bool t77.2.2]) (by exact xr_move rfl rfl) rfl rfl rfl ?_
 refine ol_val (v := aggV [Seg.cell (.int .i64 t77.1.Epoch), Seg.cell (.int .i64 t77.1.Tickets.Geometry.Blocks), Seg.cell (.int .i64 t77.1.Tickets.Geometry.Slots), Seg.cell (.int .i64 t77.1.Tickets.Geometry.Gens), Seg.cell (.int .i64 t77.1.Tickets.Top), Seg.cell (.int .i64 t77.1.Tickets.High), Seg.cell (.int .i64 t77.1.Tickets.Free), Seg.cell (.int .i64 t77.1.Dir), Seg.cell u79 o80.one]) (by exact xr_extract rfl rfl rfl) rfl rfl rfl ?_
 refine ol_val (v := .int .i64 t77.2.1) (by exact xr_extract rfl rfl rfl) rfl rfl rfl ?_
 refine ol_val (v := .bool t77.2.2) (by exact xr_extract rfl rfl rfl) rfl rfl rfl ?_
 refine ol_op (by exact opv_alloc (ss := [Seg.cell (.int .i64 (0 : Int)), Seg.cell (.int .i64 (0 : Int)), Seg.cell (.int .i64 (0 : Int)), Seg.cell (.int .i64 (0 : Int)), Seg.cell (.int .i64 (0 : Int)), Seg.cell (.int .i64 (0 : Int)), Seg.cell (.int .i64 (0 : Int)), Seg.cell (.int .i64 (0 : Int)), Seg.cell (.slice none 0 0) (by rfl)]) rfl ze110 rfl) rfl rfl rfl ?_
 rintro _ w91 ⟨G86, rfl, b87, q88, z89⟩
 have n92 := b43.ne z89
 have n93 := b64.ne z89
 have z89 := Nat.le_trans fB.size z89
 have b43 := b43.gr q88
 have b64 := b64.gr q88
 have o37 := o37.gr q88
 have o57 := o57.gr q88
 have o80 := o80.gr q88
 have fB := fB.gr q88
 have f95 := off_ty b87 o37 (by decide)
 have f96 := off_ty b87 o57 (by decide)
 have f97 := off_ty b87 o80 (by decide)
 refine ol_op0 (by exact opv_store (ss' := [Seg.cell (.int .i64 t77.1.Epoch), Seg.cell (.int .i64 t77.1.Tickets.Geometry.Blocks), Seg.cell (.int .i64 t77.1.Tickets.Geometry.Slots), Seg.cell (.int .i64 t77.1.Tickets.Geometry.Gens), Seg.cell (.int .i64 t77.1.Tickets.Top), Seg.cell (.int .i64 t77.1.Tickets.High), Seg.cell (.int .i64 t77.1.Tickets.Free), Seg.cell (.int .i64 t77.1.Dir), Seg.cell u79 o80.one]) (xs := cellsOf [Seg.cell (.int .i64 t77.1.Epoch), Seg.cell (.int .i64 t77.1.Tickets.Geometry.Blocks), Seg.cell (.int .i64 t77.1.Tickets.Geometry.Slots), Seg.cell (.int .i64 t77.1.Tickets.Geometry.Gens), Seg.cell (.int .i64 t77.1.Tickets.Top), Seg.cell (.int .i64 t77.1.Tickets.High), Seg.cell (.int .i64 t77.1.Tickets.Free), Seg.cell (.int .i64 t77.1.Dir), Seg.cell u79 o80.one]) rfl sz110 rfl rfl rfl (len_cellsOf _) (one_cellsOf _) b87 (Spl.segs _ 0 9 [Seg.cell (.int .i64 t77.1.Epoch), Seg.cell (.int .i64 t77.1.Tickets.Geometry.Blocks), Seg.cell (.int .i64 t77.1.Tickets.Geometry.Slots), Seg.cell (.int .i64 t77.1.Tickets.Geometry.Gens), Seg.cell (.int .i64 t77.1.Tickets.Top), Seg.cell (.int .i64 t77.1.Tickets.High), Seg.cell (.int .i64 t77.1.Tickets.Free), Seg.cell (.int .i64 t77.1.Dir), Seg.cell u79 o80.one] rfl rfl)) rfl rfl ?_
 rintro _ w98 ⟨b87, q94⟩
 have b43 := b43.wr q94 n92
 have b64 := b64.wr q94 n93
 have o37 := o37.wr q94 f95
 have o57 := o57.wr q94 f96
 have o80 := o80.wr q94 f97
 have fB := fB.wr q94 z89
 refine ol_val (v := .int .i64 t77.2.1) (by exact xr_assign rfl rfl) rfl rfl rfl ?_
 refine ol_val (v := .bool t77.2.2) (by exact xr_assign rfl rfl) rfl rfl rfl ?_
 refine ol_nil ?_
 refine cw_seq ?_
 refine cw_region ?_
 refine ol_val (v := sv (List.map toB (cut a0 0 (IntKind.i64.wrap (64 * (IntKind.i64.wrap (Int.tdiv (List.length a0 : Int) 64))))))) (by exact xr_move rfl rfl) rfl rfl rfl ?_
 obtain ⟨t99, k100, h⟩ := bs h
 refine ol_op (by exact opv_call rfl cal73 (ac rfl an) (rickyardref16_Pick.ok fu _ (List.map toB (cut a0 0 (IntKind.i64.wrap (64 * (IntKind.i64.wrap (Int.tdiv (List.length a0 : Int) 64)))))) _ k100)) rfl rfl rfl ?_
 rintro _ w105 ⟨u101, o102, rfl, q104⟩
 have a106 := OffV.call o37 o102
 have a107 := OffV.call o57 o102
 have a108 := OffV.call o80 o102
 have o102 := Own.base o102 fB.size
 have b43 := b43.gr q104
 have b64 := b64.gr q104
 have b87 := b87.gr q104
 have o37 := o37.gr q104
 have o57 := o57.gr q104
 have o80 := o80.gr q104
 have fB := fB.gr q104
 refine ol_val (v := .tuple #[aggV [Seg.cell (.int .i64 t99.1.Epoch), Seg.cell (.int .i64 t99.1.Tickets.Geometry.Blocks), Seg.cell (.int .i64 t99.1.Tickets.Geometry.Slots), Seg.cell (.int .i64 t99.1.Tickets.Geometry.Gens), Seg.cell (.int .i64 t99.1.Tickets.Top), Seg.cell (.int .i64 t99.1.Tickets.High), Seg.cell (.int .i64 t99.1.Tickets.Free), Seg.cell (.int .i64 t99.1.Dir), Seg.cell u101 o102.one], .int .i64 t99.2.1, .bool t99.2.2]) (by exact xr_move rfl rfl) rfl rfl rfl ?_
 refine ol_val (v := aggV [Seg.cell (.int .i64 t99.1.Epoch), Seg.cell (.int .i64 t99.1.Tickets.Geometry.Blocks), Seg.cell (.int .i64 t99.1.Tickets.Geometry.Slots), Seg.cell (.int .i64 t99.1.Tickets.Geometry.Gens), Seg.cell (.int .i64 t99.1.Tickets.Top), Seg.cell (.int .i64 t99.1.Tickets.High), Seg.cell (.int .i64 t99.1.Tickets.Free), Seg.cell (.int .i64 t99.1.Dir), Seg.cell u101 o102.one]) (by exact xr_extract rfl rfl rfl) rfl rfl rfl ?_
 refine ol_val (v := .int .i64 t99.2.1) (by exact xr_extract rfl rfl rfl) rfl rfl rfl ?_
 refine ol_val (v := .bool t99.2.2) (by exact xr_extract rfl rfl rfl) rfl rfl rfl ?_
 refine ol_op (by exact opv_alloc (ss := [Seg.cell (.int .i64 (0 : Int)), Seg.cell (.int .i64 (0 : Int)), Seg.cell (.int .i64 (0 : Int)), Seg.cell (.int .i64 (0 : Int)), Seg.cell (.int .i64 (0 : Int)), Seg.cell (.int .i64 (0 : Int)), Seg.cell (.int .i64 (0 : Int)), Seg.cell (.int .i64 (0 : Int)), Seg.cell (.slice none 0 0) (by rfl)]) rfl ze110 rfl) rfl rfl rfl ?_
 rintro _ w114 ⟨G109, rfl, b110, q111, z112⟩
 have n115 := b43.ne z112
 have n116 := b64.ne z112
 have n117 := b87.ne z112
 have z112 := Nat.le_trans fB.size z112
 have b43 := b43.gr q111
 have b64 := b64.gr q111
 have b87 := b87.gr q111
 have o37 := o37.gr q111
 have o57 := o57.gr q111
 have o80 := o80.gr q111
 have o102 := o102.gr q111
 have fB := fB.gr q111
 have f119 := off_ty b110 o37 (by decide)
 have f120 := off_ty b110 o57 (by decide)
 have f121 := off_ty b110 o80 (by decide)
 have f122 := off_ty b110 o102 (by decide)
 refine ol_op0 (by exact opv_store (ss' := [Seg.cell (.int .i64 t99.1.Epoch), Seg.cell (.int .i64 t99.1.Tickets.Geometry.Blocks), Seg.cell (.int .i64 t99.1.Tickets.Geometry.Slots), Seg.cell (.int .i64 t99.1.Tickets.Geometry.Gens), Seg.cell (.int .i64 t99.1.Tickets.Top), Seg.cell (.int .i64 t99.1.Tickets.High), Seg.cell (.int .i64 t99.1.Tickets.Free), Seg.cell (.int .i64 t99.1.Dir), Seg.cell u101 o102.one]) (xs := cellsOf [Seg.cell (.int .i64 t99.1.Epoch), Seg.cell (.int .i64 t99.1.Tickets.Geometry.Blocks), Seg.cell (.int .i64 t99.1.Tickets.Geometry.Slots), Seg.cell (.int .i64 t99.1.Tickets.Geometry.Gens), Seg.cell (.int .i64 t99.1.Tickets.Top), Seg.cell (.int .i64 t99.1.Tickets.High), Seg.cell (.int .i64 t99.1.Tickets.Free), Seg.cell (.int .i64 t99.1.Dir), Seg.cell u101 o102.one]) rfl sz110 rfl rfl rfl (len_cellsOf _) (one_cellsOf _) b110 (Spl.segs _ 0 9 [Seg.cell (.int .i64 t99.1.Epoch), Seg.cell (.int .i64 t99.1.Tickets.Geometry.Blocks), Seg.cell (.int .i64 t99.1.Tickets.Geometry.Slots), Seg.cell (.int .i64 t99.1.Tickets.Geometry.Gens), Seg.cell (.int .i64 t99.1.Tickets.Top), Seg.cell (.int .i64 t99.1.Tickets.High), Seg.cell (.int .i64 t99.1.Tickets.Free), Seg.cell (.int .i64 t99.1.Dir), Seg.cell u101 o102.one] rfl rfl)) rfl rfl ?_
 rintro _ w123 ⟨b110, q118⟩
 have b43 := b43.wr q118 n115
 have b64 := b64.wr q118 n116
 have b87 := b87.wr q118 n117
 have o37 := o37.wr q118 f119
 have o57 := o57.wr q118 f120
 have o80 := o80.wr q118 f121
 have o102 := o102.wr q118 f122
 have fB := fB.wr q118 z112
 refine ol_val (v := .int .i64 t99.2.1) (by exact xr_assign rfl rfl) rfl rfl rfl ?_
 refine ol_val (v := .bool t99.2.2) (by exact xr_assign rfl rfl) rfl rfl rfl ?_
 refine ol_nil ?_
 refine cw_seq ?_
 obtain ⟨x124, j125, h⟩ := bs h
 refine cw_mid (fun ρ' w' => ρ' 4 = .bool x124 ∧ Gr w123 w') ?_ ?_
 ·skip
  refine cw_region ?_
  refine ol_val (v := .bool t34.2) (by exact xr_move rfl rfl) rfl rfl rfl ?_
  refine ol_val (v := .bool t54.2) (by exact xr_move rfl rfl) rfl rfl rfl ?_
  refine ol_val (v := .bool (decide (t34.2 = t54.2))) (by exact xr_eqB rfl Try.underlying4 rfl rfl) rfl rfl rfl ?_
  refine ol_val (v := .bool (decide (t34.2 = t54.2))) (by exact xr_move rfl rfl) rfl rfl rfl ?_
  rcases is j125 with ⟨c126, j125⟩ | ⟨c126, j125⟩
  ·skip
   refine ol_gval (v := aggV [Seg.cell (.int .i64 t34.1.Epoch), Seg.cell (.int .i64 t34.1.Tickets.Geometry.Blocks), Seg.cell (.int .i64 t34.1.Tickets.Geometry.Slots), Seg.cell (.int .i64 t34.1.Tickets.Geometry.Gens), Seg.cell (.int .i64 t34.1.Tickets.Top), Seg.cell (.int .i64 t34.1.Tickets.High), Seg.cell (.int .i64 t34.1.Tickets.Free), Seg.cell (.int .i64 t34.1.Dir), Seg.cell u36 o37.one]) (by exact xr_loadS (ss := [Seg.cell (.int .i64 t34.1.Epoch), Seg.cell (.int .i64 t34.1.Tickets.Geometry.Blocks), Seg.cell (.int .i64 t34.1.Tickets.Geometry.Slots), Seg.cell (.int .i64 t34.1.Tickets.Geometry.Gens), Seg.cell (.int .i64 t34.1.Tickets.Top), Seg.cell (.int .i64 t34.1.Tickets.High), Seg.cell (.int .i64 t34.1.Tickets.Free), Seg.cell (.int .i64 t34.1.Dir), Seg.cell u36 o37.one]) rfl ag110 sz110 rfl rfl (b43.segs 0 9 rfl)) rfl rfl rfl rfl rfl c126 ?_
   refine ol_gval (v := aggV [Seg.cell (.int .i64 t54.1.Epoch), Seg.cell (.int .i64 t54.1.Tickets.Geometry.Blocks), Seg.cell (.int .i64 t54.1.Tickets.Geometry.Slots), Seg.cell (.int .i64 t54.1.Tickets.Geometry.Gens), Seg.cell (.int .i64 t54.1.Tickets.Top), Seg.cell (.int .i64 t54.1.Tickets.High), Seg.cell (.int .i64 t54.1.Tickets.Free), Seg.cell (.int .i64 t54.1.Dir), Seg.cell u56 o57.one]) (by exact xr_loadS (ss := [Seg.cell (.int .i64 t54.1.Epoch), Seg.cell (.int .i64 t54.1.Tickets.Geometry.Blocks), Seg.cell (.int .i64 t54.1.Tickets.Geometry.Slots), Seg.cell (.int .i64 t54.1.Tickets.Geometry.Gens), Seg.cell (.int .i64 t54.1.Tickets.Top), Seg.cell (.int .i64 t54.1.Tickets.High), Seg.cell (.int .i64 t54.1.Tickets.Free), Seg.cell (.int .i64 t54.1.Dir), Seg.cell u56 o57.one]) rfl ag110 sz110 rfl rfl (b64.segs 0 9 rfl)) rfl rfl rfl rfl rfl c126 ?_
   obtain ⟨t127, k128, j125⟩ := bs j125
   refine ol_gop (by exact opv_call rfl cal74 (ac rfl (ac rfl an)) (rickyardref13_Same.ok fu _ t34.1 u36 (o37.rd) t54.1 u56 (o57.rd) _ k128)) rfl rfl rfl rfl rfl c126 ?_
   rintro _ w130 ⟨rfl, q129⟩
   have b87 := b87.gr q129
   have b110 := b110.gr q129
   have o80 := o80.gr q129
   have o102 := o102.gr q129
   have fB := fB.gr q129
   refine ol_val (v := .bool t127) (by exact xr_pickT rfl rfl c126 rfl) rfl rfl rfl ?_
   refine ol_val (v := .bool t127) (by exact xr_move rfl rfl) rfl rfl rfl ?_
   rcases is j125 with ⟨c131, j125⟩ | ⟨c131, j125⟩
   ·skip
    refine ol_gval (v := .bool t77.2.2) (by exact xr_move rfl rfl) rfl rfl rfl rfl rfl c131 ?_
    refine ol_gval (v := .bool t99.2.2) (by exact xr_move rfl rfl) rfl rfl rfl rfl rfl c131 ?_
    refine ol_gval (v := .bool (decide (t77.2.2 = t99.2.2))) (by exact xr_eqB rfl Try.underlying4 rfl rfl) rfl rfl rfl rfl rfl c131 ?_
    refine ol_val (v := .bool (decide (t77.2.2 = t99.2.2))) (by exact xr_pickT rfl rfl c131 rfl) rfl rfl rfl ?_
    refine ol_val (v := .bool (decide (t77.2.2 = t99.2.2))) (by exact xr_move rfl rfl) rfl rfl rfl ?_
    rcases is j125 with ⟨c132, j125⟩ | ⟨c132, j125⟩
    ·skip
     refine ol_gval (v := .int .i64 t77.2.1) (by exact xr_move rfl rfl) rfl rfl rfl rfl rfl c132 ?_
     refine ol_gval (v := .int .i64 t99.2.1) (by exact xr_move rfl rfl) rfl rfl rfl rfl rfl c132 ?_
     refine ol_gval (v := .bool (decide (t77.2.1 = t99.2.1))) (by exact xr_eqI rfl Try.underlying3 rfl rfl rfl) rfl rfl rfl rfl rfl c132 ?_
     refine ol_val (v := .bool (decide (t77.2.1 = t99.2.1))) (by exact xr_pickT rfl rfl c132 rfl) rfl rfl rfl ?_
     refine ol_val (v := .bool (decide (t77.2.1 = t99.2.1))) (by exact xr_move rfl rfl) rfl rfl rfl ?_
     rcases is j125 with ⟨c133, j125⟩ | ⟨c133, j125⟩
     ·skip
      refine ol_gval (v := aggV [Seg.cell (.int .i64 t77.1.Epoch), Seg.cell (.int .i64 t77.1.Tickets.Geometry.Blocks), Seg.cell (.int .i64 t77.1.Tickets.Geometry.Slots), Seg.cell (.int .i64 t77.1.Tickets.Geometry.Gens), Seg.cell (.int .i64 t77.1.Tickets.Top), Seg.cell (.int .i64 t77.1.Tickets.High), Seg.cell (.int .i64 t77.1.Tickets.Free), Seg.cell (.int .i64 t77.1.Dir), Seg.cell u79 o80.one]) (by exact xr_loadS (ss := [Seg.cell (.int .i64 t77.1.Epoch), Seg.cell (.int .i64 t77.1.Tickets.Geometry.Blocks), Seg.cell (.int .i64 t77.1.Tickets.Geometry.Slots), Seg.cell (.int .i64 t77.1.Tickets.Geometry.Gens), Seg.cell (.int .i64 t77.1.Tickets.Top), Seg.cell (.int .i64 t77.1.Tickets.High), Seg.cell (.int .i64 t77.1.Tickets.Free), Seg.cell (.int .i64 t77.1.Dir), Seg.cell u79 o80.one]) rfl ag110 sz110 rfl rfl (b87.segs 0 9 rfl)) rfl rfl rfl rfl rfl c133 ?_
      refine ol_gval (v := aggV [Seg.cell (.int .i64 t99.1.Epoch), Seg.cell (.int .i64 t99.1.Tickets.Geometry.Blocks), Seg.cell (.int .i64 t99.1.Tickets.Geometry.Slots), Seg.cell (.int .i64 t99.1.Tickets.Geometry.Gens), Seg.cell (.int .i64 t99.1.Tickets.Top), Seg.cell (.int .i64 t99.1.Tickets.High), Seg.cell (.int .i64 t99.1.Tickets.Free), Seg.cell (.int .i64 t99.1.Dir), Seg.cell u101 o102.one]) (by exact xr_loadS (ss := [Seg.cell (.int .i64 t99.1.Epoch), Seg.cell (.int .i64 t99.1.Tickets.Geometry.Blocks), Seg.cell (.int .i64 t99.1.Tickets.Geometry.Slots), Seg.cell (.int .i64 t99.1.Tickets.Geometry.Gens), Seg.cell (.int .i64 t99.1.Tickets.Top), Seg.cell (.int .i64 t99.1.Tickets.High), Seg.cell (.int .i64 t99.1.Tickets.Free), Seg.cell (.int .i64 t99.1.Dir), Seg.cell u101 o102.one]) rfl ag110 sz110 rfl rfl (b110.segs 0 9 rfl)) rfl rfl rfl rfl rfl c133 ?_
      obtain ⟨t134, k135, j125⟩ := bs j125
      refine ol_gop (by exact opv_call rfl cal74 (ac rfl (ac rfl an)) (rickyardref13_Same.ok fu _ t77.1 u79 (o80.rd) t99.1 u101 (o102.rd) _ k135)) rfl rfl rfl rfl rfl c133 ?_
      rintro _ w137 ⟨rfl, q136⟩
      have fB := fB.gr q136
      refine ol_val (v := .bool t134) (by exact xr_pickT rfl rfl c133 rfl) rfl rfl rfl ?_
      refine ol_val (v := .bool t134) (by exact xr_assign rfl rfl) rfl rfl rfl ?_
      refine ol_nil ?_
      obtain rfl := Option.some.inj j125
      refine thn_i ?_
      exact ⟨rfl, (q129.gr q136)⟩
     refine ol_gskip rfl rfl rfl rfl rfl c133 ?_
     refine ol_gskip rfl rfl rfl rfl rfl c133 ?_
     refine ol_gskip rfl rfl rfl rfl rfl c133 ?_
     refine ol_val (v := .bool false) (by exact xr_pickF rfl rfl c133 rfl) rfl rfl rfl ?_
     refine ol_val (v := .bool false) (by exact xr_assign rfl rfl) rfl rfl rfl ?_
     refine ol_nil ?_
     obtain rfl := Option.some.inj j125
     refine thn_i ?_
     exact ⟨rfl, q129⟩
    refine ol_gskip rfl rfl rfl rfl rfl c132 ?_
    refine ol_gskip rfl rfl rfl rfl rfl c132 ?_
    refine ol_gskip rfl rfl rfl rfl rfl c132 ?_
    refine ol_val (v := .bool false) (by exact xr_pickF rfl rfl c132 rfl) rfl rfl rfl ?_
    refine ol_val (v := .bool false) (by exact xr_move rfl rfl) rfl rfl rfl ?_
    refine ol_gskip rfl rfl rfl rfl rfl rfl ?_
    refine ol_gskip rfl rfl rfl rfl rfl rfl ?_
    refine ol_gskip rfl rfl rfl rfl rfl rfl ?_
    refine ol_val (v := .bool false) (by exact xr_pickF rfl rfl rfl rfl) rfl rfl rfl ?_
    refine ol_val (v := .bool false) (by exact xr_assign rfl rfl) rfl rfl rfl ?_
    refine ol_nil ?_
    obtain rfl := Option.some.inj j125
    refine thn_i ?_
    exact ⟨rfl, q129⟩
   refine ol_gskip rfl rfl rfl rfl rfl c131 ?_
   refine ol_gskip rfl rfl rfl rfl rfl c131 ?_
   refine ol_gskip rfl rfl rfl rfl rfl c131 ?_
   refine ol_val (v := .bool false) (by exact xr_pickF rfl rfl c131 rfl) rfl rfl rfl ?_
   refine ol_val (v := .bool false) (by exact xr_move rfl rfl) rfl rfl rfl ?_
   refine ol_gskip rfl rfl rfl rfl rfl rfl ?_
   refine ol_gskip rfl rfl rfl rfl rfl rfl ?_
   refine ol_gskip rfl rfl rfl rfl rfl rfl ?_
   refine ol_val (v := .bool false) (by exact xr_pickF rfl rfl rfl rfl) rfl rfl rfl ?_
   refine ol_val (v := .bool false) (by exact xr_move rfl rfl) rfl rfl rfl ?_
   refine ol_gskip rfl rfl rfl rfl rfl rfl ?_
   refine ol_gskip rfl rfl rfl rfl rfl rfl ?_
   refine ol_gskip rfl rfl rfl rfl rfl rfl ?_
   refine ol_val (v := .bool false) (by exact xr_pickF rfl rfl rfl rfl) rfl rfl rfl ?_
   refine ol_val (v := .bool false) (by exact xr_assign rfl rfl) rfl rfl rfl ?_
   refine ol_nil ?_
   obtain rfl := Option.some.inj j125
   refine thn_i ?_
   exact ⟨rfl, q129⟩
  refine ol_gskip rfl rfl rfl rfl rfl c126 ?_
  refine ol_gskip rfl rfl rfl rfl rfl c126 ?_
  refine ol_gskip rfl rfl rfl rfl rfl c126 ?_
  refine ol_val (v := .bool false) (by exact xr_pickF rfl rfl c126 rfl) rfl rfl rfl ?_
  refine ol_val (v := .bool false) (by exact xr_move rfl rfl) rfl rfl rfl ?_
  refine ol_gskip rfl rfl rfl rfl rfl rfl ?_
  refine ol_gskip rfl rfl rfl rfl rfl rfl ?_
  refine ol_gskip rfl rfl rfl rfl rfl rfl ?_
  refine ol_val (v := .bool false) (by exact xr_pickF rfl rfl rfl rfl) rfl rfl rfl ?_
  refine ol_val (v := .bool false) (by exact xr_move rfl rfl) rfl rfl rfl ?_
  refine ol_gskip rfl rfl rfl rfl rfl rfl ?_
  refine ol_gskip rfl rfl rfl rfl rfl rfl ?_
  refine ol_gskip rfl rfl rfl rfl rfl rfl ?_
  refine ol_val (v := .bool false) (by exact xr_pickF rfl rfl rfl rfl) rfl rfl rfl ?_
  refine ol_val (v := .bool false) (by exact xr_move rfl rfl) rfl rfl rfl ?_
  refine ol_gskip rfl rfl rfl rfl rfl rfl ?_
  refine ol_gskip rfl rfl rfl rfl rfl rfl ?_
  refine ol_gskip rfl rfl rfl rfl rfl rfl ?_
  refine ol_val (v := .bool false) (by exact xr_pickF rfl rfl rfl rfl) rfl rfl rfl ?_
  refine ol_val (v := .bool false) (by exact xr_assign rfl rfl) rfl rfl rfl ?_
  refine ol_nil ?_
  obtain rfl := Option.some.inj j125
  refine thn_i ?_
  exact ⟨rfl, Fr.refl _ _⟩
 rintro ρ138 w139 ⟨e4, q140⟩
 have fB := fB.gr q140
 refine cw_ret ?_
 repeat (first | with_reducible refine thn_r ?_ | with_reducible refine blk_r ?_)
 obtain rfl := Option.some.inj h
 refine fin_ret1 Try.results18 e4 ?_
 exact ⟨_, rfl, rfl, fB⟩
end Go.Proofs.Ytklhbaghbmndeaa
namespace Go.Xw
open Go
variable {P : Program} {w : World}
def Opn {α : Type} (P : Program) (w : World) (T : TypeId) (K : Kd α) (ok : α → Prop) : Prop :=
  ∀ {H : Type} (enc : TypeId × Value → H) (base : Nat) (sp : Nat → Bool) (held : Bool) (fuel : Nat) (cs : List Value) (x : DataW H × List MemPlace), DataW.trod enc P w base sp held fuel T cs = some x → ∃ a : α, cs = K.enc a ∧ ok a
theorem opn_int {T : TypeId} {k : IntKind} (ht : P.underlying T = some (.int k)) : Opn P w T (kI k) (fun n => (Lit.int k n).wf = true) := by
  intro H enc base sp held fuel cs x h
  obtain ⟨n, rfl, _, hw⟩ := DataW.trod_int ht h
  exact ⟨n, rfl, hw⟩
theorem ms_len {α β : Type} {f : α → Option β} : ∀ {l : List α} {ys : List β}, l.mapM f = some ys → ys.length = l.length
  | [], ys, h => by simp at h; subst h; rfl
  | a :: l, ys, h => by
    rw [List.mapM_cons] at h
    obtain ⟨b, _, h⟩ := Option.bind_eq_some_iff.1 h
    obtain ⟨bs, hb, h⟩ := Option.bind_eq_some_iff.1 h
    simp at h
    subst h
    simp [ms_len hb]
theorem ms_get {α β : Type} {f : α → Option β} : ∀ {l : List α} {ys : List β}, l.mapM f = some ys → ∀ (i : Nat) (a : α), l[i]? = some a → ∃ y, ys[i]? = some y ∧ f a = some y
  | [], ys, h, i, a, ha => by simp at ha
  | b :: l, ys, h, i, a, ha => by
    rw [List.mapM_cons] at h
    obtain ⟨c, hc, h⟩ := Option.bind_eq_some_iff.1 h
    obtain ⟨bs, hb, h⟩ := Option.bind_eq_some_iff.1 h
    simp at h
    subst h
    cases i with
    | zero =>
      simp at ha
      subst ha
      exact ⟨c, rfl, hc⟩
    | succ i =>
      simp at ha
      obtain ⟨y, h1, h2⟩ := ms_get hb i a ha
      exact ⟨y, by simpa using h1, h2⟩
/-- Slices: a cell that reads as a list. -/
def OpnS {α : Type} (P : Program) (w : World) (T : TypeId) (K : Kd α) (ok : α → Prop) : Prop :=
  ∀ {H : Type} (enc : TypeId × Value → H) (base : Nat) (sp : Nat → Bool) (held : Bool) (fuel : Nat) (cs : List Value) (x : DataW H × List MemPlace), DataW.trod enc P w base sp held fuel T cs = some x → ∃ (l : List α) (V : Value), cs = [V] ∧ Rd K w V l ∧ (∀ a ∈ l, ok a) ∧ l.length ≤ maxLen ∧ (sb V < w.heap.size ∨ l = [])
theorem cells_get {base : Nat} {a : Addr} {n : Nat} {cs : List Value} (h : w.cells? base a n = some cs) : cs.length = n ∧ ∀ j, j < n → w.cell? (a.add j) = cs[j]? := by
  unfold World.cells? at h
  split at h
  · refine ⟨by simpa using ms_len h, fun j hj => ?_⟩
    obtain ⟨y, h1, h2⟩ := ms_get h j j (by simp [hj])
    rw [h1, h2]
  · cases h
theorem opn_slice {α : Type} {K : Kd α} {ok : α → Prop} {T e : TypeId} (ht : P.underlying T = some (.slice e)) (he : P.cellsOf e = K.size) (hk : 0 < K.size) (ho : Opn P w e K ok) : OpnS P w T K ok := by
  intro H enc base sp held fuel cs x h
  rcases DataW.trod_slice ht h with ⟨rfl, _⟩ | ⟨a, len, cap, elems, rest, n, rfl, rfl, _, _, hl, hm, hlen, hel, _, _⟩
  · exact ⟨[], _, rfl, Rd.nil K w, by simp, by simp, .inr rfl⟩
  · have hex : ∀ i, i < len → ∃ b, (∀ j z, (K.enc b)[j]? = some z → w.cell? (a.add (i * K.size + j)) = some z) ∧ ok b := by
      intro i hi
      have h1 := hel i hi
      rw [List.getElem?_eq_getElem (by omega)] at h1
      obtain ⟨cs, h2, h3⟩ := Option.bind_eq_some_iff.1 h1
      obtain ⟨b, rfl, hb⟩ := ho enc base sp held n cs _ h3
      obtain ⟨h4, h5⟩ := cells_get h2
      rw [he] at h4 h5
      refine ⟨b, fun j z hz => ?_, hb⟩
      have hj : j < K.size := by rw [← h4]; exact (List.getElem?_eq_some_iff.1 hz).1
      have := h5 j hj
      rw [hz] at this
      rw [← this]
      congr 1
      unfold Addr.add
      by_cases hi0 : i * K.size = 0
      · by_cases hj0 : j = 0
        · simp [hi0, hj0]
        · simp [hi0, hj0]
      · by_cases hj0 : j = 0
        · simp [hi0, hj0]
        · have : i * K.size + j ≠ 0 := by omega
          simp [hi0, hj0, this, Nat.add_assoc]
    have hlist : ∀ m, m ≤ len → ∃ l : List α, l.length = m ∧ (∀ b ∈ l, ok b) ∧ ∀ j z, (l.flatMap K.enc)[j]? = some z → w.cell? (a.add j) = some z := by
      intro m
      induction m with
      | zero => intro _; exact ⟨[], rfl, by simp, by simp⟩
      | succ m ih =>
        intro hm
        obtain ⟨l, h1, h2, h3⟩ := ih (by omega)
        obtain ⟨b, h4, h5⟩ := hex m (by omega)
        refine ⟨l ++ [b], by simp [h1], ?_, ?_⟩
        · intro c hc
          rcases List.mem_append.1 hc with hc | hc
          · exact h2 c hc
          · obtain rfl := List.mem_singleton.1 hc
            exact h5
        · intro j z hz
          have hL : (l.flatMap K.enc).length = m * K.size := by rw [len_flat, h1]
          simp only [List.flatMap_append, List.flatMap_cons, List.flatMap_nil, List.append_nil] at hz
          by_cases hj : j < m * K.size
          · rw [List.getElem?_append_left (by omega)] at hz
            exact h3 j z hz
          · rw [List.getElem?_append_right (by omega), hL] at hz
            have := h4 (j - m * K.size) z hz
            rwa [show m * K.size + (j - m * K.size) = j from by omega] at this
    obtain ⟨l, h1, h2, h3⟩ := hlist len (Nat.le_refl _)
    have hpos : 0 < l.length → ∃ z, w.cell? a = some z := by
      intro hp
      cases l with
      | nil => simp at hp
      | cons b l =>
        have hb : (K.enc b).length = K.size := K.len b
        have : ∃ z, ((b :: l).flatMap K.enc)[0]? = some z := ⟨_, List.getElem?_eq_getElem (by simp [List.flatMap_cons, hb]; omega)⟩
        obtain ⟨z, hz⟩ := this
        have := h3 0 z hz
        exact ⟨z, by simpa [Addr.add] using this⟩
    refine ⟨l, _, rfl, ⟨some a, cap, by rw [h1], by omega, fun hp => ?_⟩, h2, by omega, ?_⟩
    · obtain ⟨z, hz⟩ := hpos hp
      obtain ⟨b, o, s⟩ := a
      have hs : s = none := by
        unfold World.cell? at hz
        split at hz
        · cases s with
          | none => rfl
          | some _ => simp at hz
        · cases hz
      subst hs
      refine ⟨b, o, rfl, fun j v hv => ?_⟩
      have := h3 j v hv
      rwa [Addr.add_lit] at this
    · rcases Nat.eq_zero_or_pos l.length with h0 | hp
      · exact .inr (List.eq_nil_of_length_eq_zero h0)
      · obtain ⟨z, hz⟩ := hpos hp
        refine .inl ?_
        unfold World.cell? at hz
        split at hz
        · rename_i hh
          exact (Array.getElem?_eq_some_iff.1 hh).1
        · cases hz
end Go.Xw
namespace Go.Proofs.Ytklhbaghbmndeaa
open Go Go.Xw
end Go.Proofs.Ytklhbaghbmndeaa
namespace Go.Proofs.Ytklhbaghbmndeaa.Pure
open Go Go.Xw
/-- Of the places from `lo` on the first `j`, each turned by `g`. -/
def upd {α : Type} (g : Nat → α → α) (lo j : Nat) (cs : List α) : List α := cs.mapIdx fun i c => if lo ≤ i ∧ i < lo + j then g i c else c
theorem getD_set {α : Type} (cs : List α) (i k : Nat) (v d : α) (hi : i < cs.length) : (cs.set i v).getD k d = if i = k then v else cs.getD k d := by
  simp only [List.getD_eq_getElem?_getD, List.getElem?_set]
  by_cases h : i = k
  · subst h
    simp [hi]
  · simp [h]
def I32 (x : BitVec 32) : Int := (x.toNat : Int)
theorem I32_lt (x : BitVec 32) : 0 ≤ I32 x ∧ I32 x ≤ 4294967295 := by
  unfold I32
  have := x.isLt
  omega
theorem ofI (x : BitVec 32) : BitVec.ofInt 32 (I32 x) = x := by
  unfold I32
  rw [BitVec.ofInt_natCast, BitVec.ofNat_toNat, BitVec.setWidth_eq]
theorem I32_of {n : Int} (h0 : 0 ≤ n) (h1 : n ≤ 4294967295) : n = I32 (BitVec.ofNat 32 n.toNat) := by
  unfold I32
  rw [BitVec.toNat_ofNat, Nat.mod_eq_of_lt (by omega)]
  omega
theorem wI32 (x : BitVec 32) : IntKind.u32.wrap (I32 x) = I32 x := wu32 (I32_lt x).1 (I32_lt x).2
theorem bx32 (x y : BitVec 32) : bXor .u32 (I32 x) (I32 y) = I32 (x ^^^ y) := by
  unfold bXor
  show IntKind.u32.wrap (((BitVec.ofInt 32 (I32 x) ^^^ BitVec.ofInt 32 (I32 y)).toNat : Nat) : Int) = _
  rw [ofI, ofI]
  exact wI32 _
theorem ba32 (x y : BitVec 32) : bAnd .u32 (I32 x) (I32 y) = I32 (x &&& y) := by
  unfold bAnd
  show IntKind.u32.wrap (((BitVec.ofInt 32 (I32 x) &&& BitVec.ofInt 32 (I32 y)).toNat : Nat) : Int) = _
  rw [ofI, ofI]
  exact wI32 _
theorem sr32 (x : BitVec 32) (n : Nat) (hn : n ≤ 32) : shR .u32 (I32 x) (n : Int) = I32 (x >>> n) := by
  unfold shR I32
  rw [BitVec.toNat_ushiftRight, Nat.shiftRight_eq_div_pow]
  show Int.fdiv (x.toNat : Int) (2 ^ min ((n : Int).toNat) 32) = _
  rw [Int.toNat_natCast, Nat.min_eq_left hn, Int.fdiv_eq_ediv_of_nonneg _ (Int.le_of_lt (Int.pow_pos (by decide)))]
  simp
def poly : BitVec 32 := 2197175160#32
def stp (x : BitVec 32) : BitVec 32 := (x >>> 1) ^^^ (if x.getLsbD 0 then poly else 0#32)
theorem lsb_and (x : BitVec 32) : (I32 (x &&& 1#32) = 1) ↔ x.getLsbD 0 = true := by
  unfold I32
  rw [BitVec.toNat_and]
  show ((x.toNat &&& 1 : Nat) : Int) = 1 ↔ x.toNat.testBit 0 = true
  rw [Nat.and_one_is_mod, Nat.testBit_zero]
  simp
  omega
theorem rstep_eq (fu : Nat) (x : BitVec 32) : rickyardref02_Step.f fu (I32 x) = some (I32 (stp x)) := by
  unfold rickyardref02_Step.f stp
  have hb := I32_lt x
  have e1 : Int.tmod (I32 x) 2 = I32 (x &&& 1#32) := by
    rw [Int.tmod_eq_emod_of_nonneg hb.1]
    unfold I32
    rw [BitVec.toNat_and]
    show ((x.toNat : Int)) % 2 = ((x.toNat &&& 1 : Nat) : Int)
    rw [Nat.and_one_is_mod]
    omega
  have e2 : Int.tdiv (I32 x) 2 = I32 (x >>> 1) := by
    rw [Int.tdiv_eq_ediv_of_nonneg hb.1]
    unfold I32
    rw [BitVec.toNat_ushiftRight, Nat.shiftRight_eq_div_pow]
    omega
  have e3 : bXor .u32 (I32 (x >>> 1)) 2197175160 = I32 (x >>> 1 ^^^ poly) := bx32 (x >>> 1) poly
  rw [e1, e2, wI32, e3]
  by_cases h : x.getLsbD 0 = true
  · rw [if_pos (by simpa using (lsb_and x).2 h), if_pos h]
  · rw [if_neg (by simpa using fun e => h ((lsb_and x).1 e)), if_neg h]
    simp
theorem xor4 (a b p q : BitVec 32) : (a ^^^ b) ^^^ (p ^^^ q) = (a ^^^ p) ^^^ (b ^^^ q) := by
  rw [BitVec.xor_assoc, ← BitVec.xor_assoc b, BitVec.xor_comm b p, BitVec.xor_assoc p, ← BitVec.xor_assoc]
theorem sel_xor (a b : Bool) (p : BitVec 32) : (if (a ^^ b) = true then p else 0#32) = (if a = true then p else 0#32) ^^^ (if b = true then p else 0#32) := by
  cases a <;> cases b <;> simp
theorem stp_xor (x y : BitVec 32) : stp (x ^^^ y) = stp x ^^^ stp y := by
  unfold stp
  rw [BitVec.ushiftRight_xor_distrib, BitVec.getLsbD_xor, sel_xor, xor4]
def stps : Nat → BitVec 32 → BitVec 32
  | 0, x => x
  | n + 1, x => stps n (stp x)
theorem stps_xor : ∀ (n : Nat) (x y : BitVec 32), stps n (x ^^^ y) = stps n x ^^^ stps n y
  | 0, x, y => rfl
  | n + 1, x, y => by
    unfold stps
    rw [stp_xor, stps_xor n]
theorem stps_add (m : Nat) : ∀ (n : Nat) (x : BitVec 32), stps (n + m) x = stps m (stps n x)
  | 0, x => by simp [stps]
  | n + 1, x => by
    rw [Nat.add_right_comm]
    show stps (n + m) (stp x) = stps m (stps n (stp x))
    exact stps_add m n (stp x)
theorem stps_succ (n : Nat) (x : BitVec 32) : stps (n + 1) x = stp (stps n x) := stps_add 1 n x
theorem stp_even {x : BitVec 32} (h : x.getLsbD 0 = false) : stp x = x >>> 1 := by
  unfold stp
  rw [h]
  simp
theorem stps_high (x : BitVec 32) : ∀ n, (∀ j, j < n → x.getLsbD j = false) → stps n x = x >>> n
  | 0, _ => by simp [stps]
  | n + 1, h => by
    rw [stps_succ, stps_high x n fun j hj => h j (by omega)]
    rw [stp_even (by rw [BitVec.getLsbD_ushiftRight]; exact h (n + 0) (by omega)), ← BitVec.shiftRight_add]
theorem low_bit (n j : Nat) (hj : j < n) (hn : n ≤ 32) : (BitVec.ofNat 32 (2 ^ n - 1)).getLsbD j = true := by
  rw [BitVec.getLsbD_ofNat, Nat.testBit_two_pow_sub_one]
  simp
  omega
theorem high_bit (n j : Nat) (hj : n ≤ j) : (BitVec.ofNat 32 (2 ^ n - 1)).getLsbD j = false := by
  rw [BitVec.getLsbD_ofNat, Nat.testBit_two_pow_sub_one]
  simp
  omega
/-- n steps: what is above the lowest n bits moves down, the lowest n bits make the rest. -/
theorem stps_split (n : Nat) (hn : n ≤ 32) (x : BitVec 32) : stps n x = (x >>> n) ^^^ stps n (x &&& BitVec.ofNat 32 (2 ^ n - 1)) := by
  have e : x = (x &&& ~~~ BitVec.ofNat 32 (2 ^ n - 1)) ^^^ (x &&& BitVec.ofNat 32 (2 ^ n - 1)) := by
    apply BitVec.eq_of_getLsbD_eq
    intro i hi
    rw [BitVec.getLsbD_xor, BitVec.getLsbD_and, BitVec.getLsbD_and, BitVec.getLsbD_not]
    cases x.getLsbD i <;> cases (BitVec.ofNat 32 (2 ^ n - 1)).getLsbD i <;> simp [hi]
  conv => lhs; rw [e]
  rw [stps_xor, stps_high]
  · congr 1
    apply BitVec.eq_of_getLsbD_eq
    intro i hi
    rw [BitVec.getLsbD_ushiftRight, BitVec.getLsbD_ushiftRight, BitVec.getLsbD_and, BitVec.getLsbD_not, high_bit n (n + i) (by omega)]
    by_cases h : n + i < 32
    · simp [h]
    · have : x.getLsbD (n + i) = false := BitVec.getLsbD_of_ge _ _ (by omega)
      simp [this]
  · intro j hj
    rw [BitVec.getLsbD_and, BitVec.getLsbD_not, low_bit n j hj hn]
    simp
def Bytes (l : List Int) : Prop := ∀ x ∈ l, 0 ≤ x ∧ x ≤ 255
def b32 (c : Int) : BitVec 32 := BitVec.ofNat 32 c.toNat
theorem b32_eq {c : Int} (h : 0 ≤ c ∧ c ≤ 255) : IntKind.u32.wrap c = I32 (b32 c) := by
  rw [wu32 h.1 (by omega)]
  exact I32_of h.1 (by omega)
def take8 (x : BitVec 32) (c : Int) : BitVec 32 := stps 8 (x ^^^ b32 c)
def regs (x : BitVec 32) (l : List Int) : BitVec 32 := l.foldl take8 x
def tabL : List Int := (List.range 16).map fun i => I32 (stps 4 (BitVec.ofNat 32 i))
def tabA : Arr 16 Int := ⟨tabL, rfl⟩
theorem table_at (n : Nat) : crc_Table.f (n + 20) = some tabA := by kernel_rfl
theorem table_eq {fu : Nat} (h : 20 ≤ fu) : crc_Table.f fu = some tabA := by
  obtain ⟨n, rfl⟩ : ∃ n, fu = n + 20 := ⟨fu - 20, by omega⟩
  exact table_at n
theorem tab_get : ∀ i : Fin 16, Arr.get tabA ((i : Nat) : Int) = I32 (stps 4 (BitVec.ofNat 32 (i : Nat))) := by decide +kernel
theorem nib (x : BitVec 32) : bXor .u32 (shR .u32 (I32 x) 4) (Arr.get tabA (bAnd .u32 (I32 x) 15)) = I32 (stps 4 x) := by
  have e1 : bAnd .u32 (I32 x) 15 = I32 (x &&& 15#32) := ba32 x 15#32
  have e2 : shR .u32 (I32 x) 4 = I32 (x >>> 4) := sr32 x 4 (by decide)
  have hlt : (x &&& 15#32).toNat < 16 := by
    rw [BitVec.toNat_and]
    exact Nat.lt_of_le_of_lt Nat.and_le_right (by decide)
  have e3 : Arr.get tabA (I32 (x &&& 15#32)) = I32 (stps 4 (x &&& 15#32)) := by
    have := tab_get ⟨(x &&& 15#32).toNat, hlt⟩
    simp only [BitVec.ofNat_toNat, BitVec.setWidth_eq] at this
    exact this
  rw [e1, e2, e3, bx32]
  exact congrArg I32 (stps_split 4 (by decide) x).symm
theorem nib_in (x : BitVec 32) : 0 ≤ bAnd .u32 (I32 x) 15 ∧ bAnd .u32 (I32 x) 15 < 16 := by
  have e1 : bAnd .u32 (I32 x) 15 = I32 (x &&& 15#32) := ba32 x 15#32
  have hlt : (x &&& 15#32).toNat < 16 := by
    rw [BitVec.toNat_and]
    exact Nat.lt_of_le_of_lt Nat.and_le_right (by decide)
  rw [e1]
  unfold I32
  omega
theorem ix_nat {α : Type} [Inhabited α] {l : List α} {j : Nat} (h : j < l.length) : ix l (j : Int) = l[j] := by
  simp [ix, List.getD_eq_getElem?_getD, List.getElem?_eq_getElem h]
theorem take_next {α : Type} {l : List α} {j : Nat} (h : j < l.length) : l.take (j + 1) = l.take j ++ [l[j]] := by
  rw [List.take_add_one, List.getElem?_eq_getElem h]
  rfl
theorem reg_eq {fu : Nat} {x : BitVec 32} {l : List Int} (hb : Bytes l) (hl : l.length ≤ 9000000000000000000) (hf : l.length < fu) : crc_register.f fu tabA (I32 x) l = some (I32 (regs x l)) := by
  unfold crc_register.f
  have : loopM (crc_register.s0 fu tabA l) fu (I32 x, 0) = some (I32 (regs x l)) := by
    refine loopM_run (S := fun j => (I32 (regs x (l.take j)), (j : Int))) l.length (by simp [regs]) ?_ ?_ hf
    · intro j hj
      unfold crc_register.s0
      have h1 : (j : Int) < (l.length : Int) := by omega
      have w3 : IntKind.i64.wrap ((j : Int) + 1) = ((j + 1 : Nat) : Int) := by rw [w64 (by omega) (by omega)]; omega
      have hc := hb _ (List.getElem_mem hj)
      have e1 : bXor .u32 (I32 (regs x (l.take j))) (IntKind.u32.wrap (ix l (j : Int))) = I32 (regs x (l.take j) ^^^ b32 l[j]) := by
        rw [ix_nat hj, b32_eq hc, bx32]
      have e2 : regs x (l.take (j + 1)) = stps 4 (stps 4 (regs x (l.take j) ^^^ b32 l[j])) := by
        rw [take_next hj]
        unfold regs
        rw [List.foldl_append]
        exact stps_add 4 4 _
      simp only [h1, decide_true, if_true, e1, nib, w3, e2]
      rw [if_pos ⟨by omega, trivial⟩, if_pos (nib_in _), if_pos (nib_in _)]
    · unfold crc_register.s0
      simp
  rw [this]
  rfl
def ones : BitVec 32 := 4294967295#32
def crc (l : List Int) : BitVec 32 := regs ones l ^^^ ones
theorem sum_eq {fu : Nat} {l : List Int} (hb : Bytes l) (hl : l.length ≤ 9000000000000000000) (hf : l.length + 20 < fu) : crc_Sum.f fu [l] = some (I32 (crc l)) := by
  unfold crc_Sum.f
  rw [table_eq (by omega)]
  have : loopM (crc_Sum.s0 fu [l] tabA) fu (4294967295, 0) = some (I32 (regs ones l)) := by
    refine loopM_run (S := fun j => (if j = 0 then I32 ones else I32 (regs ones l), (j : Int))) 1 rfl ?_ ?_ (by omega)
    · intro j hj
      obtain rfl : j = 0 := by omega
      unfold crc_Sum.s0
      have e0 : ix [l] ((0 : Nat) : Int) = l := rfl
      have w3 : IntKind.i64.wrap (((0 : Nat) : Int) + 1) = ((0 + 1 : Nat) : Int) := by decide
      simp only [e0, w3, if_true, reg_eq hb hl (by omega : l.length < fu)]
      simp
    · unfold crc_Sum.s0
      simp
  simp only [Option.bind_some]
  rw [this]
  simp only [Option.bind_some]
  exact congrArg some (bx32 _ ones)
theorem rsteps_eq {fu : Nat} {x : BitVec 32} (hf : 8 < fu) : rickyardref02_Steps.f fu (I32 x) 8 = some (I32 (stps 8 x)) := by
  unfold rickyardref02_Steps.f
  have : loopM (rickyardref02_Steps.s0 fu 8) fu (I32 x, 0) = some (I32 (stps 8 x)) := by
    refine loopM_run (S := fun j => (I32 (stps j x), (j : Int))) 8 rfl ?_ ?_ hf
    · intro j hj
      unfold rickyardref02_Steps.s0
      have h1 : (j : Int) < 8 := by omega
      have w3 : IntKind.i64.wrap ((j : Int) + 1) = ((j + 1 : Nat) : Int) := by rw [w64 (by omega) (by omega)]; omega
      simp only [h1, decide_true, if_true, rstep_eq, w3, stps_succ]
      rfl
    · unfold rickyardref02_Steps.s0
      simp
  rw [this]
  rfl
theorem rsum_eq {fu : Nat} {l : List Int} (hb : Bytes l) (hl : l.length ≤ 9000000000000000000) (hf : l.length + 20 < fu) : rickyardref02_Sum.f fu l = some (I32 (crc l)) := by
  unfold rickyardref02_Sum.f
  have : loopM (rickyardref02_Sum.s0 fu l) fu (4294967295, 0) = some (I32 (regs ones l)) := by
    refine loopM_run (S := fun j => (I32 (regs ones (l.take j)), (j : Int))) l.length (by simp [regs]; rfl) ?_ ?_ (by omega)
    · intro j hj
      unfold rickyardref02_Sum.s0
      have h1 : (j : Int) < (l.length : Int) := by omega
      have w3 : IntKind.i64.wrap ((j : Int) + 1) = ((j + 1 : Nat) : Int) := by rw [w64 (by omega) (by omega)]; omega
      have hc := hb _ (List.getElem_mem hj)
      have e1 : bXor .u32 (I32 (regs ones (l.take j))) (IntKind.u32.wrap (ix l (j : Int))) = I32 (regs ones (l.take j) ^^^ b32 l[j]) := by
        rw [ix_nat hj, b32_eq hc, bx32]
      have e2 : regs ones (l.take (j + 1)) = stps 8 (regs ones (l.take j) ^^^ b32 l[j]) := by
        rw [take_next hj]
        unfold regs
        rw [List.foldl_append]
        rfl
      simp only [h1, decide_true, if_true, e1, w3, e2, rsteps_eq (by omega : 8 < fu)]
      rw [if_pos ⟨by omega, trivial⟩]
      rfl
    · unfold rickyardref02_Sum.s0
      simp
  rw [this]
  have e : IntKind.u32.wrap (4294967295 - I32 (regs ones l)) = I32 (crc l) := by
    have hlt := (regs ones l).isLt
    have h2 : (crc l).toNat = 4294967295 - (regs ones l).toNat := by
      unfold crc
      have : regs ones l ^^^ ones = ~~~ (regs ones l) := by
        apply BitVec.eq_of_getLsbD_eq
        intro i hi
        have ho : ones.getLsbD i = true := by
          have := low_bit 32 i hi (by decide)
          exact this
        rw [BitVec.getLsbD_xor, BitVec.getLsbD_not, ho]
        simp [hi]
      rw [this, BitVec.toNat_not]
    unfold I32
    rw [h2, wu32 (by omega) (by omega)]
    omega
  simp only [Option.bind_some, e]
def lay (v n : Nat) : List Int := (List.range n).map fun i => ((v / 256 ^ i % 256 : Nat) : Int)
theorem lay_len (v n : Nat) : (lay v n).length = n := by simp [lay]
theorem lay_succ (v n : Nat) : lay v (n + 1) = lay v n ++ [((v / 256 ^ n % 256 : Nat) : Int)] := by
  simp [lay, List.range_succ]
theorem lay_bytes (v n : Nat) : Bytes (lay v n) := by
  intro x hx
  simp only [lay, List.mem_map] at hx
  obtain ⟨i, _, rfl⟩ := hx
  omega
theorem wu8_mod {n : Nat} : IntKind.u8.wrap (n : Int) = ((n % 256 : Nat) : Int) := by
  unfold IntKind.wrap
  simp only [IntKind.signed, IntKind.bits]
  simp
theorem shr64 (n : Nat) : shR .u64 (n : Int) 8 = ((n / 256 : Nat) : Int) := by
  unfold shR
  show Int.fdiv (n : Int) (2 ^ min ((8 : Int).toNat) 64) = _
  rw [show (2 : Int) ^ min ((8 : Int).toNat) 64 = 256 from by decide, Int.fdiv_eq_ediv_of_nonneg _ (by decide)]
  omega
theorem wn64 (q : Nat) (h : q < 18446744073709551616) : IntKind.u64.wrap (q : Int) = (q : Int) := wu64 (by omega) (by omega)
theorem tdn (q : Nat) : Int.tdiv (q : Int) 256 = ((q / 256 : Nat) : Int) := by
  rw [Int.tdiv_eq_ediv_of_nonneg (by omega)]
  omega
theorem tmn (q : Nat) : Int.tmod (q : Int) 256 = ((q % 256 : Nat) : Int) := by
  rw [Int.tmod_eq_emod_of_nonneg (by omega)]
  omega
theorem wn8 (q : Nat) : IntKind.u8.wrap ((q % 256 : Nat) : Int) = ((q % 256 : Nat) : Int) := wu8 (by omega) (by omega)
theorem olay_eq {fu v n : Nat} (hn : n ≤ 8) (hf : n < fu) : octet_Lay.f fu (v : Int) (n : Int) = some (lay v n) := by
  unfold octet_Lay.f
  have h0 : ¬ ((n : Int) < 0) := by omega
  have h8 : ¬ ((n : Int) > 8) := by omega
  have hL : Int.toNat (n : Int) ≤ LIM := by
    have : (8 : Nat) ≤ LIM := by decide
    omega
  simp only [h0, h8, decide_false, Bool.false_eq_true, if_false]
  rw [if_pos ⟨by omega, hL⟩]
  have : loopM (octet_Lay.s0 fu (n : Int)) fu ((v : Int), 0, List.replicate (Int.toNat (n : Int)) (0 : Int)) = some (lay v n) := by
    refine loopM_run (S := fun j => (((v / 256 ^ j : Nat) : Int), (j : Int), lay v j ++ List.replicate (n - j) (0 : Int))) n (by simp [lay]) ?_ ?_ hf
    · intro j hj
      unfold octet_Lay.s0
      have w3 : IntKind.i64.wrap ((j : Int) + 1) = ((j + 1 : Nat) : Int) := by rw [w64 (by omega) (by omega)]; omega
      have e1 : (List.replicate (Int.toNat (n : Int)) (0 : Int)).length = n := by simp
      have e2 : (lay v j ++ List.replicate (n - j) (0 : Int)).length = n := by rw [List.length_append, lay_len, List.length_replicate]; omega
      have e3 : List.set (lay v j ++ List.replicate (n - j) (0 : Int)) (Int.toNat (j : Int)) (IntKind.u8.wrap ((v / 256 ^ j : Nat) : Int)) = lay v (j + 1) ++ List.replicate (n - (j + 1)) (0 : Int) := by
        rw [Int.toNat_natCast, List.set_append, if_neg (by rw [lay_len]; omega), lay_len, Nat.sub_self, wu8_mod, lay_succ, show n - j = n - (j + 1) + 1 from by omega, List.replicate_succ]
        simp
      have e4 : shR .u64 ((v / 256 ^ j : Nat) : Int) 8 = ((v / 256 ^ (j + 1) : Nat) : Int) := by
        rw [shr64, Nat.div_div_eq_div_mul, Nat.pow_succ]
      have h1 : (j : Int) < (n : Int) := by omega
      simp only [e1, e2, e3, e4, w3, h1, decide_true, if_true]
      rw [if_pos ⟨by omega, trivial⟩]
    · unfold octet_Lay.s0
      simp
  rw [this]
  rfl
theorem roctet_eq {fu v i : Nat} (hv : v < 18446744073709551616) (hi : i ≤ 1000) (hf : i < fu) : rickyardref01_Octet.f fu (v : Int) (i : Int) = some ((v / 256 ^ i % 256 : Nat) : Int) := by
  unfold rickyardref01_Octet.f
  have : loopM (rickyardref01_Octet.s0 fu (i : Int)) fu ((v : Int), 0) = some ((v / 256 ^ i : Nat) : Int) := by
    refine loopM_run (S := fun j => (((v / 256 ^ j : Nat) : Int), (j : Int))) i (by simp) ?_ ?_ hf
    · intro j hj
      unfold rickyardref01_Octet.s0
      have w3 : IntKind.i64.wrap ((j : Int) + 1) = ((j + 1 : Nat) : Int) := by rw [w64 (by omega) (by omega)]; omega
      have h1 : (j : Int) < (i : Int) := by omega
      have hle : v / 256 ^ j ≤ v := Nat.div_le_self _ _
      have e1 : Int.tdiv ((v / 256 ^ j : Nat) : Int) 256 = ((v / 256 ^ (j + 1) : Nat) : Int) := by
        rw [tdn, Nat.pow_succ, ← Nat.div_div_eq_div_mul]
      have hle2 : v / 256 ^ (j + 1) ≤ v := Nat.div_le_self _ _
      have e2 : IntKind.u64.wrap ((v / 256 ^ (j + 1) : Nat) : Int) = ((v / 256 ^ (j + 1) : Nat) : Int) := wn64 _ (Nat.lt_of_le_of_lt hle2 hv)
      simp only [h1, decide_true, if_true, e1, e2, w3]
    · unfold rickyardref01_Octet.s0
      simp
  rw [this]
  simp only [Option.bind_some, tmn, wn8]
theorem rlay_eq {fu v n : Nat} (hv : v < 18446744073709551616) (hn : n ≤ 8) (hf : n < fu) : rickyardref01_Lay.f fu (v : Int) (n : Int) = some ((lay v n).map toB) := by
  unfold rickyardref01_Lay.f
  have : loopM (rickyardref01_Lay.s0 fu (v : Int) (n : Int)) fu ([], 0) = some ((lay v n).map toB) := by
    refine loopM_run (S := fun j => ((lay v j).map toB, (j : Int))) n (by simp [lay]) ?_ ?_ hf
    · intro j hj
      unfold rickyardref01_Lay.s0
      have w3 : IntKind.i64.wrap ((j : Int) + 1) = ((j + 1 : Nat) : Int) := by rw [w64 (by omega) (by omega)]; omega
      have h1 : (j : Int) < (n : Int) := by omega
      have hlim : ((lay v j).map toB).length + ([((v / 256 ^ j % 256 : Nat) : Int)].map toB).length ≤ LIM := by
        have : (9 : Nat) ≤ LIM := by decide
        simp only [List.length_map, lay_len, List.length_cons, List.length_nil]
        omega
      simp only [h1, decide_true, if_true, roctet_eq (fu := fu) hv (by omega : j ≤ 1000) (by omega), Option.bind_some, w3]
      rw [if_pos hlim, lay_succ, List.map_append]
    · unfold rickyardref01_Lay.s0
      simp
  rw [this]
  rfl
def num : List Int → Nat
  | [] => 0
  | c :: l => c.toNat + 256 * num l
theorem num_append : ∀ (a b : List Int), num (a ++ b) = num a + 256 ^ a.length * num b
  | [], b => by simp [num]
  | c :: a, b => by
    simp only [List.cons_append, num, num_append a b, List.length_cons, Nat.pow_succ]
    rw [Nat.mul_add, Nat.add_assoc, ← Nat.mul_assoc, Nat.mul_comm 256 (256 ^ a.length)]
theorem num_lt : ∀ {l : List Int}, Bytes l → num l < 256 ^ l.length
  | [], _ => by simp [num]
  | c :: l, h => by
    have h1 := h c (by simp)
    have h2 := num_lt (l := l) fun x hx => h x (by simp [hx])
    simp only [num, List.length_cons, Nat.pow_succ]
    omega
theorem lay_num : ∀ {l : List Int}, Bytes l → lay (num l) l.length = l
  | [], _ => rfl
  | c :: l, h => by
    have h1 := h c (by simp)
    have h2 := lay_num (l := l) fun x hx => h x (by simp [hx])
    have e : lay (num (c :: l)) (l.length + 1) = c :: lay (num l) l.length := by
      unfold lay
      rw [List.range_succ_eq_map, List.map_cons, List.map_map]
      congr 1
      · simp only [num, Nat.pow_zero, Nat.div_one]
        omega
      · apply List.map_congr_left
        intro i hi
        simp only [Function.comp, num, Nat.succ_eq_add_one, Nat.pow_succ]
        rw [Nat.mul_comm (256 ^ i) 256, ← Nat.div_div_eq_div_mul, show (c.toNat + 256 * num l) / 256 = num l from by omega]
    rw [List.length_cons, e, h2]
theorem num_lay (v : Nat) : ∀ n, num (lay v n) = v % 256 ^ n
  | 0 => by simp [lay, num, Nat.mod_one]
  | n + 1 => by
    rw [lay_succ, num_append, num_lay v n, lay_len]
    simp only [num]
    rw [Int.toNat_natCast, Nat.mul_zero, Nat.add_zero, Nat.pow_succ, Nat.mod_mul]
theorem or_add (a c j : Nat) (ha : a < 256 ^ j) : a ||| c * 256 ^ j = a + 256 ^ j * c := by
  have e : 256 ^ j = 2 ^ (8 * j) := by rw [Nat.pow_mul]
  rw [e] at ha ⊢
  rw [Nat.mul_comm c, Nat.or_comm, ← Nat.two_pow_add_eq_or_of_lt ha, Nat.add_comm]
theorem read_eq {fu : Nat} {l : List Int} (hb : Bytes l) (hl : l.length ≤ 8) (hf : l.length < fu) : octet_Read.f fu l = some ((num l : Nat) : Int) := by
  unfold octet_Read.f
  have hm : mnI (l.length : Int) 8 = (l.length : Int) := by
    unfold mnI
    split <;> omega
  have hc : cut l 0 (l.length : Int) = l := by
    unfold cut
    simp
  rw [hm, if_pos ⟨by omega, Int.le_refl _⟩]
  have : loopM (octet_Read.s0 fu l) fu (0, 0) = some ((num l : Nat) : Int) := by
    refine loopM_run (S := fun j => (((num (l.take j) : Nat) : Int), (j : Int))) l.length (by simp [num]) ?_ ?_ hf
    · intro j hj
      unfold octet_Read.s0
      rw [hm, hc]
      have h1 : (j : Int) < (l.length : Int) := by omega
      have w3 : IntKind.i64.wrap ((j : Int) + 1) = ((j + 1 : Nat) : Int) := by rw [w64 (by omega) (by omega)]; omega
      have w4 : IntKind.i64.wrap (8 * (j : Int)) = ((8 * j : Nat) : Int) := by rw [w64 (by omega) (by omega)]; omega
      have hcb := hb _ (List.getElem_mem hj)
      obtain ⟨c, hc'⟩ : ∃ c : Nat, l[j] = (c : Int) := ⟨l[j].toNat, by omega⟩
      have hlt : num (l.take j) < 256 ^ j := by
        have := num_lt (l := l.take j) fun x hx => hb x (List.mem_of_mem_take hx)
        rwa [List.length_take, Nat.min_eq_left (by omega)] at this
      have e256 : (256 : Nat) ^ j * 256 ≤ 256 ^ 8 := by
        rw [← Nat.pow_succ]
        exact Nat.pow_le_pow_right (by decide) (by omega)
      have e8 : (256 : Nat) ^ 8 = 18446744073709551616 := by decide
      have hcj : c * 256 ^ j < 18446744073709551616 := by
        have : c * 256 ^ j ≤ 255 * 256 ^ j := Nat.mul_le_mul_right _ (by omega)
        have : 0 < 256 ^ j := Nat.pow_pos (by decide)
        omega
      have e1 : shL .u64 (IntKind.u64.wrap (ix l (j : Int))) ((8 * j : Nat) : Int) = ((c * 256 ^ j : Nat) : Int) := by
        rw [ix_nat hj, hc', wu64 (by omega) (by omega)]
        unfold shL
        rw [Int.toNat_natCast, Nat.min_eq_left (by show 8 * j ≤ 64; omega)]
        have : (c : Int) * 2 ^ (8 * j) = ((c * 256 ^ j : Nat) : Int) := by
          have h256 : ((256 ^ j : Nat) : Int) = 2 ^ (8 * j) := by
            rw [Int.natCast_pow, Int.pow_mul]
            exact congrArg (fun z : Int => z ^ j) (by decide : ((256 : Nat) : Int) = 2 ^ 8)
          rw [Int.natCast_mul, h256]
        rw [this, wu64 (by omega) (by omega)]
      have e2 : bOr .u64 ((num (l.take j) : Nat) : Int) ((c * 256 ^ j : Nat) : Int) = ((num (l.take (j + 1)) : Nat) : Int) := by
        unfold bOr
        show IntKind.u64.wrap (((BitVec.ofInt 64 ((num (l.take j) : Nat) : Int) ||| BitVec.ofInt 64 ((c * 256 ^ j : Nat) : Int)).toNat : Nat) : Int) = _
        rw [BitVec.ofInt_natCast, BitVec.ofInt_natCast, BitVec.toNat_or, BitVec.toNat_ofNat, BitVec.toNat_ofNat, Nat.mod_eq_of_lt (by omega), Nat.mod_eq_of_lt (by omega), or_add _ _ _ hlt, take_next hj, num_append]
        have hs : num (l.take j) + 256 ^ j * c < 18446744073709551616 := by
          rw [Nat.mul_comm]
          have : c * 256 ^ j ≤ 255 * 256 ^ j := Nat.mul_le_mul_right _ (by omega)
          omega
        rw [wu64 (by omega) (by omega)]
        simp only [num, hc', Int.toNat_natCast, List.length_take, Nat.min_eq_left (by omega : j ≤ l.length), Nat.mul_zero, Nat.add_zero]
      simp only [h1, decide_true, if_true, w4, e1, e2, w3]
      rw [if_pos ⟨by omega, trivial⟩, if_pos (by omega)]
    · unfold octet_Read.s0
      rw [hm, hc]
      simp
  rw [this]
  rfl
end Go.Proofs.Ytklhbaghbmndeaa.Pure
namespace Go.Proofs.Ytklhbaghbmndeaa
open Go Go.Xw
end Go.Proofs.Ytklhbaghbmndeaa
namespace Go.Proofs.Ytklhbaghbmndeaa.Pure
open Go Go.Xw
abbrev Cell := S_pmem_cell
abbrev Dev := S_pmem_Device
def pick (p : S_pmem_plan) : Int := if p.list.length = 0 then -1 else ix p.list p.at_
def mayI (off : Bool) (k n : Int) : Int := if off = true then 3 else if k < 0 ∨ k ≥ n then 2 else 0
def loadD (d : Dev) (k : Int) : Int × Int := if mayI d.off k (d.cells.length : Int) = 0 then ((ix d.cells k).stored, 0) else (0, mayI d.off k (d.cells.length : Int))
def I64 (x : Int) : Prop := -9223372036854775808 ≤ x ∧ x ≤ 9223372036854775807
def U64 (x : Int) : Prop := 0 ≤ x ∧ x ≤ 18446744073709551615
def okC (c : Cell) : Prop := U64 c.lasts ∧ U64 c.stored ∧ U64 c.sent
/-- A device of `n` words that is as it should be, behind at most `B` steps. -/
structure DevOk (n : Nat) (B : Int) (d : Dev) : Prop where
  len : d.cells.length = n
  val : ∀ c ∈ d.cells, okC c
  at0 : d.plan.list.length ≠ 0 → 0 ≤ d.plan.at_ ∧ d.plan.at_ < (d.plan.list.length : Int)
  pl : d.plan.list.length ≤ 1000
  arm : d.armed = true → 0 ≤ d.left ∧ d.left ≤ 9223372036854775807 ∧ d.off = decide (d.left = 0)
  una : d.armed = false → d.off = false
  st : 0 ≤ d.steps ∧ d.steps ≤ B
theorem DevOk.up {n : Nat} {B C : Int} {d : Dev} (h : DevOk n B d) (hc : B ≤ C) : DevOk n C d := ⟨h.len, h.val, h.at0, h.pl, h.arm, h.una, ⟨h.st.1, by have := h.st; omega⟩⟩
theorem may_eq {fu : Nat} {d : Dev} {k m : Int} : pmem_Device_may.f fu d k m = some (mayI d.off k m) := by
  unfold pmem_Device_may.f mayI
  cases d.off
  · simp only [Bool.false_eq_true, if_false]
    by_cases h1 : k < 0
    · simp [h1]
    · by_cases h2 : k ≥ m <;> simp [h1, h2]
  · simp
theorem may_zero {b : Bool} {k m : Int} : mayI b k m = 0 ↔ b = false ∧ 0 ≤ k ∧ k < m := by
  unfold mayI
  cases b
  · simp only [Bool.false_eq_true, if_false]
    split <;> simp <;> omega
  · simp
theorem load_eq {fu : Nat} {k : Int} {d : Dev} : pmem_Device_Load.f fu d k = some (loadD d k) := by
  unfold pmem_Device_Load.f loadD
  rw [may_eq]
  simp only [Option.bind_some]
  by_cases e : mayI d.off k (d.cells.length : Int) = 0
  · obtain ⟨ho, h0, h1⟩ := may_zero.1 e
    rw [decide_eq_true e, if_pos e, if_neg (by decide), if_pos ⟨h0, h1⟩]
  · rw [decide_eq_false e, if_neg e, if_pos (by decide)]
theorem lines_eq {fu : Nat} {d : Dev} (h : d.cells.length ≤ 1000000) : pmem_Device_Lines.f fu d = some ((d.cells.length / 8 : Nat) : Int) := by
  unfold pmem_Device_Lines.f
  rw [Int.tdiv_eq_ediv_of_nonneg (by omega), w64 (by omega) (by omega)]
  congr 1
end Go.Proofs.Ytklhbaghbmndeaa.Pure
namespace Go.Proofs.Ytklhbaghbmndeaa
open Go Go.Xw
end Go.Proofs.Ytklhbaghbmndeaa
namespace Go.Proofs.Ytklhbaghbmndeaa.Pure
open Go Go.Xw
def octs (ws : List Int) : List Int := ws.flatMap fun w => lay w.toNat 8
theorem octs_len : ∀ ws : List Int, (octs ws).length = 8 * ws.length
  | [] => rfl
  | w :: ws => by
    have := octs_len ws
    simp only [octs, List.flatMap_cons, List.length_append, lay_len, List.length_cons] at *
    omega
theorem octs_append (a b : List Int) : octs (a ++ b) = octs a ++ octs b := by simp [octs]
theorem octs_one (w : Int) : octs [w] = lay w.toNat 8 := by simp [octs]
theorem octsB (ws : List Int) : Bytes (octs ws) := by
  intro x hx
  obtain ⟨w, _, h⟩ := List.mem_flatMap.1 hx
  exact lay_bytes _ _ x h
theorem octets_eq {fu : Nat} {ws : List Int} (hv : ∀ w ∈ ws, U64 w) (hl : ws.length ≤ 100000) (hf : ws.length + 8 < fu) : octet_Octets.f fu ws = some (octs ws) := by
  unfold octet_Octets.f
  have : loopM (octet_Octets.s0 fu ws) fu ([], 0) = some (octs ws) := by
    refine loopM_run (S := fun j => (octs (ws.take j), (j : Int))) ws.length (by simp [octs]) ?_ ?_ (by omega)
    · intro j hj
      unfold octet_Octets.s0
      have w3 : IntKind.i64.wrap ((j : Int) + 1) = ((j + 1 : Nat) : Int) := by rw [w64 (by omega) (by omega)]; omega
      have c1 : 0 ≤ (j : Int) ∧ (j : Int) < (ws.length : Int) := by omega
      have hu := hv _ (List.getElem_mem hj)
      obtain ⟨v, hv'⟩ : ∃ v : Nat, ws[j] = (v : Int) := ⟨ws[j].toNat, by unfold U64 at hu; omega⟩
      simp only [w3]
      rw [decide_eq_true c1.2, if_pos rfl, if_pos c1, ix_nat hj, hv', show octet_Lay.f fu (v : Int) 8 = some (lay v 8) from olay_eq (n := 8) (by omega) (by omega)]
      simp only [Option.bind_some]
      rw [if_pos (by rw [octs_len, lay_len, List.length_take]; exact Nat.le_trans (by omega : _ ≤ 1000008) (by decide)), take_next hj, octs_append, octs_one, hv', Int.toNat_natCast]
    · unfold octet_Octets.s0
      rw [decide_eq_false (show ¬ ((ws.length : Int) < (ws.length : Int)) by omega), if_neg (by decide), List.take_length]
  rw [this]
  rfl
def storedD (d : Dev) : List Int := d.cells.map fun c => c.stored
end Go.Proofs.Ytklhbaghbmndeaa.Pure
namespace Go.Proofs.Ytklhbaghbmndeaa
open Go Go.Xw
end Go.Proofs.Ytklhbaghbmndeaa
namespace Go.Proofs.Ytklhbaghbmndeaa.Pure
open Go Go.Xw
theorem loopM_inv {σ ε : Type} {step : σ → Option (Sum ε σ)} (P : Nat → σ → Prop) (n : Nat) (Q : ε → Prop) (h : ∀ j s, j < n → P j s → ∃ s', step s = some (.inr s') ∧ P (j + 1) s') (he : ∀ s, P n s → ∃ e, step s = some (.inl e) ∧ Q e) : ∀ {k j : Nat} {s : σ}, P j s → j ≤ n → n - j < k → ∃ e, loopM step k s = some e ∧ Q e
  | 0, j, s, _, _, hk => by omega
  | k + 1, j, s, hp, hj, hk => by
    unfold loopM
    by_cases e1 : j = n
    · subst e1
      obtain ⟨e, h1, h2⟩ := he s hp
      rw [h1]
      exact ⟨e, rfl, h2⟩
    · obtain ⟨s', h1, h2⟩ := h j s (by omega) hp
      rw [h1]
      exact loopM_inv P n Q h he h2 (by omega) (by omega)
def Small (acts : List S_rickyardlaw05_Act) (m : Nat) : Prop := acts.length ≤ m ∧ ∀ a ∈ acts, a.L.length ≤ 40
instance (acts : List S_rickyardlaw05_Act) (m : Nat) : Decidable (Small acts m) := inferInstanceAs (Decidable (_ ∧ _))
/-- The fuel. -/
abbrev FU : Nat := 200000
theorem next64 {j n : Nat} (h : j < n) (hn : n ≤ 100000) : IntKind.i64.wrap ((j : Int) + 1) = ((j + 1 : Nat) : Int) := by rw [w64 (by omega) (by omega)]; omega
theorem octs_take (ws : List Int) (i : Nat) : (octs ws).take (8 * i) = octs (ws.take i) := by
  by_cases h : i ≤ ws.length
  · have e : octs ws = octs (ws.take i) ++ octs (ws.drop i) := by rw [← octs_append, List.take_append_drop]
    rw [e, List.take_append_of_le_length (by rw [octs_len, List.length_take]; omega), List.take_of_length_le (by rw [octs_len, List.length_take]; omega)]
  · rw [List.take_of_length_le (by rw [octs_len]; omega), List.take_of_length_le (by omega)]
theorem octs_drop (ws : List Int) (i : Nat) : (octs ws).drop (8 * i) = octs (ws.drop i) := by
  by_cases h : i ≤ ws.length
  · have e : octs ws = octs (ws.take i) ++ octs (ws.drop i) := by rw [← octs_append, List.take_append_drop]
    have hl : (octs (ws.take i)).length = 8 * i := by rw [octs_len, List.length_take]; omega
    rw [e, ← hl, List.drop_left]
  · rw [List.drop_of_length_le (by rw [octs_len]; omega), List.drop_of_length_le (by omega)]
    rfl
theorem octs_cut (ws : List Int) (i j : Nat) : cut (octs ws) ((8 * i : Nat) : Int) ((8 * j : Nat) : Int) = octs (cut ws (i : Int) (j : Int)) := by
  unfold cut
  rw [Int.toNat_natCast, Int.toNat_natCast, Int.toNat_natCast, Int.toNat_natCast, octs_take, octs_drop]
theorem cut_get {α : Type} {l : List α} {a b i : Nat} (h : i < (cut l (a : Int) (b : Int)).length) (h2 : a + i < l.length) : (cut l (a : Int) (b : Int))[i] = l[a + i] := by
  simp only [cut, Int.toNat_natCast, List.getElem_drop, List.getElem_take]
theorem cut_len' {α : Type} {l : List α} {a b : Nat} (h : b ≤ l.length) : (cut l (a : Int) (b : Int)).length = b - a := by
  simp only [cut, Int.toNat_natCast, List.length_drop, List.length_take]
  omega
theorem cut_map {α β : Type} (f : α → β) (l : List α) (i j : Int) : cut (l.map f) i j = (cut l i j).map f := by
  unfold cut
  rw [← List.map_take, ← List.map_drop]
theorem of_toB {l : List Int} (h : Bytes l) : (l.map toB).map ofB = l := by
  rw [List.map_map]
  conv => rhs; rw [← List.map_id l]
  apply List.map_congr_left
  intro x hx
  have := h x hx
  simp only [Function.comp, ofB, toB, UInt8.toNat_ofNat', id]
  omega
theorem Bytes.drop {l : List Int} (h : Bytes l) (n : Nat) : Bytes (l.drop n) := fun x hx => h x (List.mem_of_mem_drop hx)
theorem Bytes.take {l : List Int} (h : Bytes l) (n : Nat) : Bytes (l.take n) := fun x hx => h x (List.mem_of_mem_take hx)
theorem getD_toB {l : List Int} (hb : Bytes l) {i : Nat} (h : i < l.length) : ofB (List.getD (l.map toB) (Int.toNat (i : Int)) 0) = ix l (i : Int) := by
  rw [Int.toNat_natCast, List.getD_eq_getElem?_getD, List.getElem?_map, List.getElem?_eq_getElem h, ix_nat h]
  have := of_toB (l := [l[i]]) (by intro x hx; obtain rfl := List.mem_singleton.1 hx; exact hb _ (List.getElem_mem h))
  simpa using this
theorem num_lt8 {l : List Int} (hb : Bytes l) (hl : l.length ≤ 8) : num l < 18446744073709551616 := by
  have h1 := num_lt hb
  have h2 : (256 : Nat) ^ l.length ≤ 256 ^ 8 := Nat.pow_le_pow_right (by decide) hl
  have h3 : (256 : Nat) ^ 8 = 18446744073709551616 := by decide
  omega
theorem rnumber_eq {fu : Nat} {l : List Int} (hb : Bytes l) (hl : l.length ≤ 8) (hf : l.length < fu) : rickyardref01_Number.f fu (l.map toB) = some ((num l : Nat) : Int) := by
  unfold rickyardref01_Number.f
  have w0 : IntKind.i64.wrap (((l.map toB).length : Int) - 1) = (l.length : Int) - 1 := by rw [List.length_map, w64 (by omega) (by omega)]
  rw [w0]
  have : loopM (rickyardref01_Number.s0 fu (l.map toB)) fu (0, (l.length : Int) - 1) = some ((num l : Nat) : Int) := by
    refine loopM_run (S := fun j => (((num (l.drop (l.length - j)) : Nat) : Int), (l.length : Int) - 1 - (j : Int))) l.length (by simp [num]) ?_ ?_ hf
    · intro j hj
      unfold rickyardref01_Number.s0
      obtain ⟨i, hi⟩ : ∃ i : Nat, l.length - j = i + 1 := ⟨l.length - j - 1, by omega⟩
      have e1 : (l.length : Int) - 1 - (j : Int) = (i : Int) := by omega
      have hil : i < l.length := by omega
      have e2 : l.length - (j + 1) = i := by omega
      have c1 : (i : Int) ≥ 0 := by omega
      have c2 : (i : Int) < 8 := by omega
      have c3 : True ∧ (i : Int) < ((l.map toB).length : Int) := ⟨trivial, by rw [List.length_map]; omega⟩
      have w1 : IntKind.i64.wrap ((i : Int) - 1) = (l.length : Int) - 1 - ((j + 1 : Nat) : Int) := by rw [w64 (by omega) (by omega)]; omega
      have hcb := hb _ (List.getElem_mem hil)
      obtain ⟨c, hc⟩ : ∃ c : Nat, l[i] = (c : Int) := ⟨l[i].toNat, by omega⟩
      have hd : l.drop i = l[i] :: l.drop (i + 1) := List.drop_eq_getElem_cons hil
      have hn : num (l.drop i) = c + 256 * num (l.drop (i + 1)) := by rw [hd, num, hc, Int.toNat_natCast]
      have hlt := num_lt8 (hb.drop i) (by rw [List.length_drop]; omega)
      rw [hn] at hlt
      have w2 : IntKind.u64.wrap (((num (l.drop (i + 1)) : Nat) : Int) * 256) = ((num (l.drop (i + 1)) : Nat) : Int) * 256 := wu64 (by omega) (by omega)
      have w3 : IntKind.u64.wrap (ix l (i : Int)) = (c : Int) := by rw [ix_nat hil, hc, wu64 (by omega) (by omega)]
      have w4 : IntKind.u64.wrap (((num (l.drop (i + 1)) : Nat) : Int) * 256 + (c : Int)) = ((num (l.drop i) : Nat) : Int) := by rw [wu64 (by omega) (by omega), hn]; omega
      simp only [e1, hi, e2, getD_toB hb hil, w1, w2, w3, w4, c1, c2, decide_true, if_true]
      rw [if_pos c3]
      rfl
    · unfold rickyardref01_Number.s0
      have : ¬ (l.length : Int) - 1 - (l.length : Int) ≥ 0 := by omega
      simp only [this]
      simp
  rw [this]
  rfl
theorem read_long {fu : Nat} {l : List Int} (h : 8 ≤ l.length) : octet_Read.f fu l = octet_Read.f fu (l.take 8) := by
  have h8 : (l.take 8).length = 8 := by rw [List.length_take]; omega
  have e1 : mnI (l.length : Int) 8 = 8 := by unfold mnI; split <;> omega
  have e2 : mnI ((l.take 8).length : Int) 8 = 8 := by rw [h8]; rfl
  have e3 : cut l 0 8 = l.take 8 := rfl
  have e4 : cut (l.take 8) 0 8 = l.take 8 := by
    unfold cut
    rw [List.take_of_length_le (by rw [h8]; decide)]
    rfl
  have es : octet_Read.s0 fu l = octet_Read.s0 fu (l.take 8) := by
    unfold octet_Read.s0
    rw [e1, e2, e3, e4]
  unfold octet_Read.f
  rw [e1, e2, es, if_pos (by omega), if_pos (by rw [h8]; decide)]
def wordsU (l : List Int) (j : Nat) : List Int := (List.range j).map fun i => ((num ((l.drop (8 * i)).take 8) : Nat) : Int)
theorem wordsU_succ (l : List Int) (j : Nat) : wordsU l (j + 1) = wordsU l j ++ [((num ((l.drop (8 * j)).take 8) : Nat) : Int)] := by
  simp [wordsU, List.range_succ]
theorem wordsU_len (l : List Int) (j : Nat) : (wordsU l j).length = j := by simp [wordsU]
theorem chunk_len {l : List Int} {j : Nat} (h : 8 * j + 8 ≤ l.length) : ((l.drop (8 * j)).take 8).length = 8 := by
  rw [List.length_take, List.length_drop]
  omega
theorem octs_words {l : List Int} (hb : Bytes l) : ∀ j, 8 * j ≤ l.length → octs (wordsU l j) = l.take (8 * j)
  | 0, _ => by simp [wordsU, octs]
  | j + 1, h => by
    have hc : ((l.drop (8 * j)).take 8).length = 8 := chunk_len (by omega)
    have hl := lay_num ((hb.drop (8 * j)).take 8)
    rw [hc] at hl
    rw [wordsU_succ, octs_append, octs_one, octs_words hb j (by omega), Int.toNat_natCast, hl, show 8 * (j + 1) = 8 * j + 8 from by omega, List.take_add]
theorem words_U64 {l : List Int} (hb : Bytes l) {n : Nat} : ∀ w ∈ wordsU l n, U64 w := by
  intro w hw
  obtain ⟨i, _, rfl⟩ := List.mem_map.1 hw
  have := num_lt8 ((hb.drop (8 * i)).take 8) (by rw [List.length_take]; omega)
  unfold U64
  omega
theorem words_eq {fu n : Nat} {l : List Int} (hb : Bytes l) (hl : l.length = 8 * n) (hn : n ≤ 100000) (hf : n + 8 < fu) : octet_Words.f fu l = some (wordsU l n) := by
  unfold octet_Words.f
  have : loopM (octet_Words.s0 fu) fu (l, []) = some (wordsU l n) := by
    refine loopM_run (S := fun j => (l.drop (8 * j), wordsU l j)) n (by simp [wordsU]) ?_ ?_ (by omega)
    · intro j hj
      unfold octet_Words.s0
      have hdl : (l.drop (8 * j)).length = 8 * n - 8 * j := by rw [List.length_drop, hl]
      have c1 : ((l.drop (8 * j)).length : Int) ≥ 8 := by omega
      have hc : ((l.drop (8 * j)).take 8).length = 8 := chunk_len (by omega)
      have hr : octet_Read.f fu (l.drop (8 * j)) = some ((num ((l.drop (8 * j)).take 8) : Nat) : Int) := by
        rw [read_long (by omega)]
        exact read_eq ((hb.drop _).take _) (by omega) (by omega)
      have e1 : cut (l.drop (8 * j)) 8 ((l.drop (8 * j)).length : Int) = l.drop (8 * (j + 1)) := by
        unfold cut
        rw [Int.toNat_natCast, List.take_length, show Int.toNat 8 = 8 from rfl, List.drop_drop]
        congr 1
      simp only [e1]
      rw [decide_eq_true c1, if_pos rfl, hr]
      simp only [Option.bind_some]
      rw [if_pos (by rw [wordsU_len]; exact Nat.le_trans (by simp only [List.length_cons, List.length_nil]; omega : _ ≤ 100001) (by decide)), if_pos c1, wordsU_succ]
    · unfold octet_Words.s0
      have : ¬ (((l.drop (8 * n)).length : Int) ≥ 8) := by rw [List.length_drop]; omega
      simp only [this, decide_false, Bool.false_eq_true, if_false]
  rw [this]
  rfl
def wordC (w : Int) : Cell := ⟨w, w, 0, false⟩
def fromD (l : List Int) : Dev := ⟨(wordsU l (8 * (l.length / 64))).map wordC, ⟨[], 0⟩, false, false, 0, 0⟩
theorem wordsU_take {l : List Int} {n : Nat} : ∀ j, 8 * j ≤ n → wordsU (l.take n) j = wordsU l j
  | 0, _ => rfl
  | j + 1, h => by
    rw [wordsU_succ, wordsU_succ, wordsU_take j (by omega)]
    congr 4
    rw [List.drop_take, List.take_take, Nat.min_eq_left (by omega)]
theorem from_eq {fu : Nat} {l : List Int} (hb : Bytes l) (hl : l.length ≤ 100000) (hf : l.length + 8 < fu) : pmem_From.f fu l = some (fromD l) := by
  unfold pmem_From.f
  have hd : l.length / 64 ≤ 1562 := by omega
  have e0 : Int.tdiv (l.length : Int) 64 = ((l.length / 64 : Nat) : Int) := by
    rw [Int.tdiv_eq_ediv_of_nonneg (by omega)]
    omega
  have e1 : mnI (IntKind.i64.wrap (Int.tdiv (l.length : Int) 64)) 4096 = ((l.length / 64 : Nat) : Int) := by
    rw [e0, w64 (by omega) (by omega)]
    unfold mnI
    split <;> omega
  have e2 : IntKind.i64.wrap (((l.length / 64 : Nat) : Int) * 64) = ((64 * (l.length / 64) : Nat) : Int) := by rw [w64 (by omega) (by omega)]; omega
  rw [e1, e2, if_pos (by omega)]
  have e3 : cut l 0 ((64 * (l.length / 64) : Nat) : Int) = l.take (64 * (l.length / 64)) := by
    unfold cut
    rw [Int.toNat_natCast]
    rfl
  have hwo : octet_Words.f fu (l.take (64 * (l.length / 64))) = some (wordsU l (8 * (l.length / 64))) := by
    rw [words_eq (n := 8 * (l.length / 64)) (hb.take _) (by rw [List.length_take]; omega) (by omega) (by omega), wordsU_take _ (by omega)]
  rw [e3, hwo]
  simp only [Option.bind_some]
  generalize hW : wordsU l (8 * (l.length / 64)) = ws
  have hwl : ws.length = 8 * (l.length / 64) := by rw [← hW, wordsU_len]
  have : loopM (pmem_From.s0 fu ws) fu (0, []) = some (ws.map wordC) := by
    refine loopM_run (S := fun j => ((j : Int), (ws.take j).map wordC)) ws.length (by simp) ?_ ?_ (by omega)
    · intro j hj
      unfold pmem_From.s0
      have c1 : 0 ≤ (j : Int) ∧ (j : Int) < (ws.length : Int) := by omega
      have hlim : List.length ((ws.take j).map wordC) + List.length [(⟨(ix ws (j : Int)), (ix ws (j : Int)), (0 : Int), false⟩ : S_pmem_cell)] ≤ LIM := by
        rw [List.length_map, List.length_take]
        exact Nat.le_trans (by simp only [List.length_cons, List.length_nil]; omega : _ ≤ 100001) (by decide)
      simp only []
      rw [decide_eq_true c1.2, if_pos rfl, if_pos c1, if_pos hlim, next64 hj (by omega), ix_nat hj, take_next hj, List.map_append]
      rfl
    · unfold pmem_From.s0
      rw [decide_eq_false (show ¬ ((ws.length : Int) < (ws.length : Int)) by omega), if_neg (by decide), List.take_length]
  rw [this]
  unfold fromD
  rw [hW]
  rfl
theorem from_ok {l : List Int} (hb : Bytes l) : DevOk (8 * (l.length / 64)) 0 (fromD l) := by
  refine ⟨by simp [fromD, wordsU], fun c hc => ?_, fun h => absurd rfl h, by simp [fromD], fun h => (by cases h), fun _ => rfl, by simp [fromD]⟩
  obtain ⟨w, hw, rfl⟩ := List.mem_map.1 hc
  have := words_U64 hb w hw
  exact ⟨this, this, by unfold U64; simp [wordC]⟩
theorem from_stored (l : List Int) : storedD (fromD l) = wordsU l (8 * (l.length / 64)) := by
  simp [storedD, fromD, wordC, Function.comp_def]
end Go.Proofs.Ytklhbaghbmndeaa.Pure
namespace Go.Proofs.Ytklhbaghbmndeaa
open Go Go.Xw
end Go.Proofs.Ytklhbaghbmndeaa
namespace Go.Proofs.Ytklhbaghbmndeaa.Pure
open Go Go.Xw
def inL (d : Dev) (line : Int) : Prop := 0 ≤ line ∧ line < ((d.cells.length / 8 : Nat) : Int)
instance (d : Dev) (line : Int) : Decidable (inL d line) := inferInstanceAs (Decidable (_ ∧ _))
def lineC (d : Dev) (line : Int) : List Int := (List.range 8).map fun (i : Nat) => (ix d.cells (8 * line + (i : Int))).stored
def readD (d : Dev) (line : Int) : List Int × Int := if inL d line then if d.off = true then ([], 3) else (octs (lineC d line), 0) else ([], 2)
theorem pmay_eq {fu : Nat} {d : Dev} {k : Int} (hl : d.cells.length ≤ 1000000) : press_may.f fu d k = some (if inL d k then 0 else 2) := by
  unfold press_may.f
  rw [lines_eq hl]
  by_cases h1 : k < 0
  · rw [decide_eq_true h1, if_neg (show ¬ inL d k from fun q => by have := q.1; omega)]
    rfl
  · rw [decide_eq_false h1, if_neg (by decide)]
    simp only [Option.bind_some]
    by_cases h2 : k ≥ ((d.cells.length / 8 : Nat) : Int)
    · rw [decide_eq_true h2, if_neg (show ¬ inL d k from fun q => by have := q.2; omega)]
      rfl
    · rw [decide_eq_false h2, if_pos (show inL d k from ⟨by omega, by omega⟩)]
      rfl
theorem arr_set8 (a : Arr 8 Int) (j : Nat) (v : Int) (hj : j < 8) (f : Nat → Int) (hf : ∀ i, i < j → ix a.l (i : Int) = f i) (hv : v = f j) : ∀ i, i < j + 1 → ix (Arr.set a (j : Int) v).l (i : Int) = f i := by
  intro i hi
  have hl := a.h
  have e : (Arr.set a (j : Int) v).l = a.l.set j v := by simp [Arr.set]
  rw [e, ix_nat (by rw [List.length_set]; omega), List.getElem_set]
  by_cases h : j = i
  · subst h
    rw [if_pos rfl, hv]
  · rw [if_neg h, ← ix_nat (by omega)]
    exact hf i (by omega)
theorem read_dev {fu n : Nat} {B line : Int} {d : Dev} (h : DevOk n B d) (hn : n ≤ 100000) (hf : 2000 < fu) : press_Read.f fu d line = some (readD d line) := by
  unfold press_Read.f readD
  have hlen := h.len
  rw [pmay_eq (by omega)]
  simp only [Option.bind_some]
  by_cases hi : inL d line
  · rw [if_pos hi, if_neg (by decide), if_pos hi]
    have hin := hi
    unfold inL at hin
    have w1 : IntKind.i64.wrap (line * 8) = 8 * line := by rw [w64 (by omega) (by omega)]; omega
    have hld : ∀ j : Nat, j < 8 → pmem_Device_Load.f fu d (8 * line + (j : Int)) = some (if d.off = true then (0, 3) else ((ix d.cells (8 * line + (j : Int))).stored, 0)) := by
      intro j hj
      rw [load_eq]
      unfold loadD
      cases ho : d.off
      · rw [if_pos (may_zero.2 ⟨rfl, by omega, by omega⟩), if_neg (by decide)]
      · have : mayI true (8 * line + (j : Int)) (d.cells.length : Int) = 3 := rfl
        rw [this, if_neg (by decide), if_pos rfl]
    cases ho : d.off
    · rw [if_neg (by decide)]
      have loop : ∃ e, loopM (press_Read.s0 fu d line) fu (0, Arr.rep 8 (0 : Int)) = some e ∧ ∃ a : Arr 8 Int, e = .inr a ∧ ∀ i : Nat, i < 8 → ix a.l (i : Int) = (ix d.cells (8 * line + (i : Int))).stored := by
        refine loopM_inv (fun j s => ∃ a : Arr 8 Int, s = ((j : Int), a) ∧ ∀ i : Nat, i < j → ix a.l (i : Int) = (ix d.cells (8 * line + (i : Int))).stored) 8 _ ?_ ?_ (j := 0) ⟨_, rfl, fun i hi => by omega⟩ (by omega) (by omega)
        · rintro j _ hj ⟨a, rfl, ha⟩
          unfold press_Read.s0
          have w3 : IntKind.i64.wrap (8 * line + (j : Int)) = 8 * line + (j : Int) := w64 (by omega) (by omega)
          simp only [w1, w3]
          rw [decide_eq_true (show (j : Int) < 8 by omega), if_pos rfl, hld j hj, ho, if_neg (by decide), next64 hj (by decide)]
          simp only [Option.bind_some, decide_true, Bool.not_true, Bool.false_eq_true, if_false]
          rw [if_pos (by omega)]
          exact ⟨_, rfl, _, rfl, arr_set8 a j _ hj (fun i => (ix d.cells (8 * line + (i : Int))).stored) ha rfl⟩
        · rintro _ ⟨a, rfl, ha⟩
          unfold press_Read.s0
          rw [decide_eq_false (show ¬ (((8 : Nat) : Int) < 8) by decide), if_neg (by decide)]
          exact ⟨_, rfl, a, rfl, ha⟩
      obtain ⟨e, h1, a, rfl, ha⟩ := loop
      have hal : a.l = lineC d line := by
        apply List.ext_getElem (by rw [a.h]; simp [lineC])
        intro i h1 h2
        have : i < 8 := by rw [a.h] at h1; exact h1
        rw [← ix_nat h1, ha i this]
        simp [lineC]
      have hu : ∀ w ∈ lineC d line, U64 w := by
        intro w hw
        obtain ⟨i, hi8, rfl⟩ := List.mem_map.1 hw
        have := List.mem_range.1 hi8
        obtain ⟨p, hp⟩ : ∃ p : Nat, 8 * line + (i : Int) = (p : Int) := ⟨(8 * line + (i : Int)).toNat, by omega⟩
        rw [hp, ix_nat (by omega)]
        exact (h.val _ (List.getElem_mem _)).2.1
      rw [h1]
      simp only [Option.bind_some]
      rw [hal, octets_eq hu (by simp [lineC]) (by simp [lineC]; omega)]
      rfl
    · rw [if_pos rfl]
      have loop : loopM (press_Read.s0 fu d line) fu (0, Arr.rep 8 (0 : Int)) = some (.inl ([], 3)) := by
        obtain ⟨k, rfl⟩ : ∃ k, fu = k + 1 := ⟨fu - 1, by omega⟩
        unfold loopM
        have := hld 0 (by decide)
        rw [ho, if_pos rfl] at this
        unfold press_Read.s0
        have w3 : IntKind.i64.wrap (8 * line + 0) = 8 * line + ((0 : Nat) : Int) := by rw [w64 (by omega) (by omega)]; rfl
        simp only [w1, w3]
        rw [this]
        rfl
      rw [loop]
      rfl
  · rw [if_neg hi, if_pos (by decide), if_neg hi]
end Go.Proofs.Ytklhbaghbmndeaa.Pure
namespace Go.Proofs.Ytklhbaghbmndeaa
open Go Go.Xw
end Go.Proofs.Ytklhbaghbmndeaa
namespace Go.Proofs.Ytklhbaghbmndeaa.Pure
open Go Go.Xw
/-- ... and lasts. -/
def CellP (Φ : Int → Prop) (c : Cell) : Prop := Φ c.lasts ∧ Φ c.stored ∧ (c.flushed = true → Φ c.sent)
theorem CellP.mono {Φ Ψ : Int → Prop} {c : Cell} (h : CellP Φ c) (hi : ∀ x, Φ x → Ψ x) : CellP Ψ c := ⟨hi _ h.1, hi _ h.2.1, fun e => hi _ (h.2.2 e)⟩
end Go.Proofs.Ytklhbaghbmndeaa.Pure
