/- PageLeaves: texts merged, part 5 of 5. The last part proves that the law PageLeaves holds for every input. -/
import Derived.Test.YtjhajfkfhdnciaaPkPageLeaves4
/- rickyard/rickyardref09.GetFan: its model, and that the Go function computes it: written by gen.py. -/
set_option linter.unusedVariables false
namespace Go.Proofs.Ytjhajfkfhdnciaa
open Go Go.Xw
def rickyardref09_GetFan.s0 (fu : Nat) (t7 : Int × Int × (List UInt8) × Bool) : (Int × S_api_Fan) → Option (Sum S_api_Fan (Int × S_api_Fan)) := fun s23 => (if (decide (s23.1 < 16)) = true then (if (0 : Int) ≤ (IntKind.i64.wrap (2 * s23.1)) ∧ (IntKind.i64.wrap (2 * s23.1)) ≤ (IntKind.i64.wrap ((IntKind.i64.wrap (2 * s23.1)) + 2)) ∧ (IntKind.i64.wrap ((IntKind.i64.wrap (2 * s23.1)) + 2)) ≤ (List.length t7.2.2.1 : Int) then ((rickyardref01_Int.f fu (cut t7.2.2.1 (IntKind.i64.wrap (2 * s23.1)) (IntKind.i64.wrap ((IntKind.i64.wrap (2 * s23.1)) + 2))) : Option Int).bind fun t32 => (if 0 ≤ s23.1 ∧ s23.1 < 16 then some (Sum.inr ((IntKind.i64.wrap (s23.1 + 1)), (⟨(Arr.set s23.2.Kids s23.1 t32)⟩ : S_api_Fan))) else none)) else none) else some (Sum.inl (s23.2)))
def rickyardref09_GetFan.f (fu : Nat) (a0 : List Int) : Option (S_api_Fan × Bool) := ((rickyardref07_Open.f fu a0 : Option (Int × Int × (List UInt8) × Bool)).bind fun t7 => (if (if (!t7.2.2.2) = true then true else (!decide (t7.1 = 3))) = true then some ((⟨(Arr.rep 16 (0 : Int))⟩ : S_api_Fan), false) else ((loopM (rickyardref09_GetFan.s0 fu t7) fu (0, (⟨(Arr.rep 16 (0 : Int))⟩ : S_api_Fan))).bind fun e24 => ((rickyardref09_Fan.f fu e24 : Option ((List UInt8) × Bool)).bind fun t41 => (if (if (!t41.2) = true then true else (!decide (t41.1 = (List.map toB a0)))) = true then some ((⟨(Arr.rep 16 (0 : Int))⟩ : S_api_Fan), false) else some (e24, true))))))
set_option maxRecDepth 100000 in
set_option maxHeartbeats 400000 in
theorem rickyardref09_GetFan.ok (fu : Nat) (w : World) (a0 : List Int) (V0_0 : Value) (R0_0 : Rd (kI .u8) w V0_0 a0) (r : S_api_Fan × Bool) (h : rickyardref09_GetFan.f fu a0 = some r) :
    Calls Try.prog 58 (([V0_0] : List Value).toArray) w (fun e w' => ∃ v, e = .returned v ∧ v = .tuple #[aggV [Kd.seg (kA 16 (kI .i64)) r.1.Kids], .bool r.2] ∧ Gr w w') := by
  unfold rickyardref09_GetFan.f at h
  have fB : Gr w w := Fr.refl _ _
  refine calls_cw Try.func58 rfl Try.ntmps58 rfl ?_
  refine cw_seq ?_
  refine cw_region ?_
  refine ol_op (by exact opv_alloc (ss := [Kd.seg (kA 16 (kI .i64)) (Arr.rep 16 (0 : Int))]) rfl ze73 rfl) rfl rfl rfl ?_
  rintro _ w6 ⟨G1, rfl, b2, q3, z4⟩
  have z4 := Nat.le_trans fB.size z4
  have fB := fB.gr q3
  refine ol_val (v := .bool false) (by exact xr_assign rfl rfl) rfl rfl rfl ?_
  refine ol_nil ?_
  refine cw_seq ?_
  refine cw_region ?_
  refine ol_val (v := V0_0) (by exact xr_move rfl rfl) rfl rfl rfl ?_
  obtain ⟨t7, k8, h⟩ := bs h
  refine ol_op (by exact opv_call rfl cal32 (ac rfl an) (rickyardref07_Open.ok fu _ a0 V0_0 (R0_0.gr fB) _ k8)) rfl rfl rfl ?_
  rintro _ w10 ⟨rfl, q9⟩
  have b2 := b2.gr q9
  have fB := fB.gr q9
  refine ol_val (v := .tuple #[.int .i64 t7.1, .int .i64 t7.2.1, sv t7.2.2.1, .bool t7.2.2.2]) (by exact xr_move rfl rfl) rfl rfl rfl ?_
  refine ol_val (v := .int .i64 t7.1) (by exact xr_extract rfl rfl rfl) rfl rfl rfl ?_
  refine ol_val (v := .int .i64 t7.2.1) (by exact xr_extract rfl rfl rfl) rfl rfl rfl ?_
  refine ol_val (v := sv t7.2.2.1) (by exact xr_extract rfl rfl rfl) rfl rfl rfl ?_
  refine ol_val (v := .bool t7.2.2.2) (by exact xr_extract rfl rfl rfl) rfl rfl rfl ?_
  refine ol_val (v := .int .i64 t7.1) (by exact xr_assign rfl rfl) rfl rfl rfl ?_
  refine ol_val (v := .int .i64 t7.2.1) (by exact xr_assign rfl rfl) rfl rfl rfl ?_
  refine ol_val (v := sv t7.2.2.1) (by exact xr_assign rfl rfl) rfl rfl rfl ?_
  refine ol_val (v := .bool t7.2.2.2) (by exact xr_assign rfl rfl) rfl rfl rfl ?_
  refine ol_nil ?_
  refine cw_seq ?_
  refine cw_seq ?_
  refine cw_mid (fun ρ' w' => ρ' 0 = V0_0 ∧ ρ' 2 = .pointer (some ⟨G1, 0, none⟩) ∧ ρ' 6 = sv t7.2.2.1 ∧ ρ' 24 = .bool (if (!t7.2.2.2) = true then true else (!decide (t7.1 = 3))) ∧ w10 = w') ?_ ?_
  · skip
    refine cw_region ?_
    refine ol_val (v := .bool t7.2.2.2) (by exact xr_move rfl rfl) rfl rfl rfl ?_
    refine ol_val (v := .bool (!t7.2.2.2)) (by exact xr_not rfl rfl) rfl rfl rfl ?_
    refine ol_val (v := .bool (!t7.2.2.2)) (by exact xr_move rfl rfl) rfl rfl rfl ?_
    rcases bt (!t7.2.2.2) with c11 | c11
    · skip
      refine ol_gskip rfl rfl rfl rfl rfl c11 ?_
      refine ol_gskip rfl rfl rfl rfl rfl c11 ?_
      refine ol_val (v := .bool true) (by exact xr_pickT rfl rfl c11 rfl) rfl rfl rfl ?_
      refine ol_nil ?_
      refine thn_i ?_
      exact ⟨rfl, rfl, rfl, (rfl).trans (congrArg (fun z => (.bool z : Value)) (show true = (if (!t7.2.2.2) = true then true else (!decide (t7.1 = 3))) from by rw [ite_t c11])), rfl⟩
    · skip
      refine ol_gval (v := .int .i64 t7.1) (by exact xr_move rfl rfl) rfl rfl rfl rfl rfl c11 ?_
      refine ol_gval (v := .bool (!decide (t7.1 = 3))) (by exact xr_neI rfl Try.underlying3 rfl rfl rfl) rfl rfl rfl rfl rfl c11 ?_
      refine ol_val (v := .bool (!decide (t7.1 = 3))) (by exact xr_pickF rfl rfl c11 rfl) rfl rfl rfl ?_
      refine ol_nil ?_
      refine thn_i ?_
      exact ⟨rfl, rfl, rfl, (rfl).trans (congrArg (fun z => (.bool z : Value)) (show (!decide (t7.1 = 3)) = (if (!t7.2.2.2) = true then true else (!decide (t7.1 = 3))) from by rw [ite_f c11])), rfl⟩
  · skip
    rintro ρ12 _ ⟨e0, e2, e6, e24, rfl⟩
    rcases is h with ⟨c13, h⟩ | ⟨c13, h⟩
    · refine cw_condT e24 c13 ?_
      refine cw_seq ?_
      refine cw_region ?_
      refine ol_val (v := aggV [Kd.seg (kA 16 (kI .i64)) (Arr.rep 16 (0 : Int))]) (by exact xr_build (vals := []) rfl trivial (bl73_ _)) rfl rfl rfl ?_
      refine ol_op0 (by exact opv_store (ss' := [Kd.seg (kA 16 (kI .i64)) (Arr.rep 16 (0 : Int))]) (xs := cellsOf [Kd.seg (kA 16 (kI .i64)) (Arr.rep 16 (0 : Int))]) rfl sz73 e2 rfl rfl (len_cellsOf _) (one_cellsOf _) b2 (Spl.segs _ 0 1 [Kd.seg (kA 16 (kI .i64)) (Arr.rep 16 (0 : Int))] rfl rfl)) rfl rfl ?_
      rintro _ w15 ⟨b2, q14⟩
      have fB := fB.wr q14 z4
      refine ol_val (v := .bool false) (by exact xr_assign rfl rfl) rfl rfl rfl ?_
      refine ol_nil ?_
      refine cw_ret ?_
      repeat (first | with_reducible refine thn_r ?_ | with_reducible refine blk_r ?_)
      obtain rfl := Option.some.inj h
      refine fin_cell_tmp Try.results58 e2 ag73 sz73 b2 (by rfl) rfl ?_
      exact ⟨_, rfl, rfl, fB⟩
    · refine cw_condF e24 c13 ?_
      refine cw_skip ?_
      refine cw_seq ?_
      refine cw_region ?_
      refine ol_op (by exact opv_alloc (ss := [Kd.seg (kA 16 (kI .i64)) (Arr.rep 16 (0 : Int))]) rfl ze73 rfl) rfl rfl rfl ?_
      rintro _ w21 ⟨G16, rfl, b17, q18, z19⟩
      have n22 := Blk.ne b2 z19
      have z19 := Nat.le_trans fB.size z19
      have b2 := b2.gr q18
      have fB := fB.gr q18
      refine ol_nil ?_
      refine cw_seq ?_
      refine cw_seq ?_
      refine cw_region ?_
      refine ol_val (v := .int .i64 0) (by exact xr_assign rfl rfl) rfl rfl rfl ?_
      refine ol_nil ?_
      obtain ⟨e24, l25, h26⟩ := bs h
      refine cw_mid (fun ρ' w' => ρ' 0 = V0_0 ∧ ρ' 2 = .pointer (some ⟨G1, 0, none⟩) ∧ ρ' 8 = .pointer (some ⟨G16, 0, none⟩) ∧ Blk w' G1 73 [Kd.seg (kA 16 (kI .i64)) (Arr.rep 16 (0 : Int))] ∧ Blk w' G16 73 [Kd.seg (kA 16 (kI .i64)) e24.Kids] ∧ Gr w w') ?_ ?_
      · refine cw_block ?_
        refine cw_round (fun (s23 : Int × S_api_Fan) ρ' w' => ρ' 0 = V0_0 ∧ ρ' 2 = .pointer (some ⟨G1, 0, none⟩) ∧ ρ' 6 = sv t7.2.2.1 ∧ ρ' 8 = .pointer (some ⟨G16, 0, none⟩) ∧ ρ' 9 = .int .i64 s23.1 ∧ Blk w' G1 73 [Kd.seg (kA 16 (kI .i64)) (Arr.rep 16 (0 : Int))] ∧ Blk w' G16 73 [Kd.seg (kA 16 (kI .i64)) s23.2.Kids] ∧ Gr w w') l25 ?_ ?_
        · skip
          exact ⟨e0, e2, e6, rfl, rfl, b2, b17, fB⟩
        · rintro s23 x29 ρ27 w28 ⟨e0, e2, e6, e8, e9, b2, b17, fB⟩ h
          unfold rickyardref09_GetFan.s0 at h
          refine cw_seq ?_
          refine cw_seq ?_
          refine cw_region ?_
          refine ol_val (v := .int .i64 s23.1) (by exact xr_move rfl e9) rfl rfl rfl ?_
          refine ol_val (v := .bool (decide (s23.1 < 16))) (by exact xr_lss rfl rfl rfl) rfl rfl rfl ?_
          refine ol_nil ?_
          rcases is h with ⟨c30, h⟩ | ⟨c30, h⟩
          · refine cw_condT rfl c30 ?_
            refine cw_skip ?_
            refine cw_seq ?_
            refine cw_block ?_
            refine cw_region ?_
            refine ol_val (v := .int .i64 s23.1) (by exact xr_move rfl e9) rfl rfl rfl ?_
            refine ol_val (v := sv t7.2.2.1) (by exact xr_move rfl e6) rfl rfl rfl ?_
            refine ol_val (v := .int .i64 s23.1) (by exact xr_move rfl e9) rfl rfl rfl ?_
            refine ol_val (v := .int .i64 (IntKind.i64.wrap (2 * s23.1))) (by exact xr_mul rfl rfl rfl) rfl rfl rfl ?_
            refine ol_val (v := .int .i64 s23.1) (by exact xr_move rfl e9) rfl rfl rfl ?_
            refine ol_val (v := .int .i64 (IntKind.i64.wrap (2 * s23.1))) (by exact xr_mul rfl rfl rfl) rfl rfl rfl ?_
            refine ol_val (v := .int .i64 (IntKind.i64.wrap ((IntKind.i64.wrap (2 * s23.1)) + 2))) (by exact xr_add rfl rfl rfl) rfl rfl rfl ?_
            obtain ⟨g31, h⟩ := gs h
            refine ol_val (v := sv (cut t7.2.2.1 (IntKind.i64.wrap (2 * s23.1)) (IntKind.i64.wrap ((IntKind.i64.wrap (2 * s23.1)) + 2)))) (by exact xr_str_lh rfl Try.underlying9 rfl rfl rfl g31.1 g31.2.1 g31.2.2) rfl rfl rfl ?_
            obtain ⟨t32, k33, h⟩ := bs h
            refine ol_op (by exact opv_call rfl cal103 (ac rfl an) (rickyardref01_Int.ok fu _ (cut t7.2.2.1 (IntKind.i64.wrap (2 * s23.1)) (IntKind.i64.wrap ((IntKind.i64.wrap (2 * s23.1)) + 2))) _ k33)) rfl rfl rfl ?_
            rintro _ w35 ⟨rfl, q34⟩
            have b2 := b2.gr q34
            have b17 := b17.gr q34
            have fB := fB.gr q34
            refine ol_val (v := .pointer (some ⟨G16, 0, none⟩)) (by exact xr_fieldAddr (p := 0) (q := 0) rfl fl73_0 e8) rfl rfl rfl ?_
            obtain ⟨g36, h⟩ := gs h
            refine ol_val (v := .pointer (some ⟨G16, 0 + Int.toNat s23.1 * 1, none⟩)) (by exact xr_indexA (p := 0) (s := 1) rfl Try.underlying71 sz3 rfl rfl g36.1 g36.2) rfl rfl rfl ?_
            refine ol_op0 (by exact opv_store (ss' := [Kd.seg (kA 16 (kI .i64)) (Arr.set s23.2.Kids s23.1 t32)]) (xs := cellsOf [Seg.cell (.int .i64 t32)]) rfl sz3 rfl rfl rfl (len_cellsOf _) (one_cellsOf _) b17 (Spl.seg_in _ 0 (Kd.seg (kA 16 (kI .i64)) (Arr.set s23.2.Kids s23.1 t32)) rfl rfl (Spl.arr s23.2.Kids s23.1 t32 g36.1 g36.2 (Spl.whole ((Kd.len _ _).trans (Kd.len _ _).symm))))) rfl rfl ?_
            rintro _ w38 ⟨b17, q37⟩
            have b2 := b2.wr q37 n22
            have fB := fB.wr q37 z19
            refine ol_nil ?_
            refine blk_i ?_
            refine cw_region ?_
            refine ol_val (v := .int .i64 s23.1) (by exact xr_move rfl e9) rfl rfl rfl ?_
            refine ol_val (v := .int .i64 (IntKind.i64.wrap (s23.1 + 1))) (by exact xr_add rfl rfl rfl) rfl rfl rfl ?_
            refine ol_val (v := .int .i64 (IntKind.i64.wrap (s23.1 + 1))) (by exact xr_assign rfl rfl) rfl rfl rfl ?_
            refine ol_nil ?_
            obtain rfl := Option.some.inj h
            refine lp_in ?_
            exact ⟨e0, e2, e6, e8, rfl, b2, b17, fB⟩
          · refine cw_condF rfl c30 ?_
            refine cw_exit ?_
            repeat (first | with_reducible refine thn_e ?_ | with_reducible refine blk_e rfl ?_)
            obtain rfl := Option.some.inj h
            refine lp_exit ?_
            rintro rfl
            refine thn_x ?_
            exact ⟨e0, e2, e8, b2, b17, fB⟩
      · rintro ρ39 w40 ⟨e0, e2, e8, b2, b17, fB⟩
        have h := h26
        refine cw_seq ?_
        refine cw_region ?_
        refine ol_val (v := aggV [Kd.seg (kA 16 (kI .i64)) e24.Kids]) (by exact xr_loadS (ss := [Kd.seg (kA 16 (kI .i64)) e24.Kids]) rfl ag73 sz73 rfl e8 (b17.segs 0 1 rfl)) rfl rfl rfl ?_
        obtain ⟨t41, k42, h⟩ := bs h
        refine ol_op (by exact opv_call rfl cal54 (ac rfl an) (rickyardref09_Fan.ok fu _ e24 _ k42)) rfl rfl rfl ?_
        rintro _ w44 ⟨rfl, q43⟩
        have b2 := b2.gr q43
        have b17 := b17.gr q43
        have fB := fB.gr q43
        refine ol_val (v := .tuple #[sv t41.1, .bool t41.2]) (by exact xr_move rfl rfl) rfl rfl rfl ?_
        refine ol_val (v := sv t41.1) (by exact xr_extract rfl rfl rfl) rfl rfl rfl ?_
        refine ol_val (v := .bool t41.2) (by exact xr_extract rfl rfl rfl) rfl rfl rfl ?_
        refine ol_val (v := sv t41.1) (by exact xr_assign rfl rfl) rfl rfl rfl ?_
        refine ol_val (v := .bool t41.2) (by exact xr_assign rfl rfl) rfl rfl rfl ?_
        refine ol_nil ?_
        refine cw_seq ?_
        refine cw_seq ?_
        refine cw_mid (fun ρ' w' => ρ' 2 = .pointer (some ⟨G1, 0, none⟩) ∧ ρ' 8 = .pointer (some ⟨G16, 0, none⟩) ∧ ρ' 53 = .bool (if (!t41.2) = true then true else (!decide (t41.1 = (List.map toB a0)))) ∧ w44 = w') ?_ ?_
        · skip
          refine cw_region ?_
          refine ol_val (v := .bool t41.2) (by exact xr_move rfl rfl) rfl rfl rfl ?_
          refine ol_val (v := .bool (!t41.2)) (by exact xr_not rfl rfl) rfl rfl rfl ?_
          refine ol_val (v := .bool (!t41.2)) (by exact xr_move rfl rfl) rfl rfl rfl ?_
          rcases bt (!t41.2) with c45 | c45
          · skip
            refine ol_gskip rfl rfl rfl rfl rfl c45 ?_
            refine ol_gskip rfl rfl rfl rfl rfl c45 ?_
            refine ol_gskip rfl rfl rfl rfl rfl c45 ?_
            refine ol_gskip rfl rfl rfl rfl rfl c45 ?_
            refine ol_val (v := .bool true) (by exact xr_pickT rfl rfl c45 rfl) rfl rfl rfl ?_
            refine ol_nil ?_
            refine thn_i ?_
            exact ⟨e2, e8, (rfl).trans (congrArg (fun z => (.bool z : Value)) (show true = (if (!t41.2) = true then true else (!decide (t41.1 = (List.map toB a0)))) from by rw [ite_t c45])), rfl⟩
          · skip
            refine ol_gval (v := sv t41.1) (by exact xr_move rfl rfl) rfl rfl rfl rfl rfl c45 ?_
            refine ol_gval (v := V0_0) (by exact xr_move rfl e0) rfl rfl rfl rfl rfl c45 ?_
            refine ol_gval (v := sv (List.map toB a0)) (by exact xr_toStr rfl Try.underlying22 Try.underlying5 Try.underlying9 rfl (R0_0.gr fB)) rfl rfl rfl rfl rfl c45 ?_
            refine ol_gval (v := .bool (!decide (t41.1 = (List.map toB a0)))) (by exact xr_neStr rfl Try.underlying9 rfl rfl) rfl rfl rfl rfl rfl c45 ?_
            refine ol_val (v := .bool (!decide (t41.1 = (List.map toB a0)))) (by exact xr_pickF rfl rfl c45 rfl) rfl rfl rfl ?_
            refine ol_nil ?_
            refine thn_i ?_
            exact ⟨e2, e8, (rfl).trans (congrArg (fun z => (.bool z : Value)) (show (!decide (t41.1 = (List.map toB a0))) = (if (!t41.2) = true then true else (!decide (t41.1 = (List.map toB a0)))) from by rw [ite_f c45])), rfl⟩
        · skip
          rintro ρ46 _ ⟨e2, e8, e53, rfl⟩
          rcases is h with ⟨c47, h⟩ | ⟨c47, h⟩
          · refine cw_condT e53 c47 ?_
            refine cw_seq ?_
            refine cw_region ?_
            refine ol_val (v := aggV [Kd.seg (kA 16 (kI .i64)) (Arr.rep 16 (0 : Int))]) (by exact xr_build (vals := []) rfl trivial (bl73_ _)) rfl rfl rfl ?_
            refine ol_op0 (by exact opv_store (ss' := [Kd.seg (kA 16 (kI .i64)) (Arr.rep 16 (0 : Int))]) (xs := cellsOf [Kd.seg (kA 16 (kI .i64)) (Arr.rep 16 (0 : Int))]) rfl sz73 e2 rfl rfl (len_cellsOf _) (one_cellsOf _) b2 (Spl.segs _ 0 1 [Kd.seg (kA 16 (kI .i64)) (Arr.rep 16 (0 : Int))] rfl rfl)) rfl rfl ?_
            rintro _ w49 ⟨b2, q48⟩
            have fB := fB.wr q48 z4
            refine ol_val (v := .bool false) (by exact xr_assign rfl rfl) rfl rfl rfl ?_
            refine ol_nil ?_
            refine cw_ret ?_
            repeat (first | with_reducible refine thn_r ?_ | with_reducible refine blk_r ?_)
            obtain rfl := Option.some.inj h
            refine fin_cell_tmp Try.results58 e2 ag73 sz73 b2 (by rfl) rfl ?_
            exact ⟨_, rfl, rfl, fB⟩
          · refine cw_condF e53 c47 ?_
            refine cw_skip ?_
            refine cw_seq ?_
            refine cw_region ?_
            refine ol_val (v := aggV [Kd.seg (kA 16 (kI .i64)) e24.Kids]) (by exact xr_loadS (ss := [Kd.seg (kA 16 (kI .i64)) e24.Kids]) rfl ag73 sz73 rfl e8 (b17.segs 0 1 rfl)) rfl rfl rfl ?_
            refine ol_op0 (by exact opv_store (ss' := [Kd.seg (kA 16 (kI .i64)) e24.Kids]) (xs := cellsOf [Kd.seg (kA 16 (kI .i64)) e24.Kids]) rfl sz73 e2 rfl rfl (len_cellsOf _) (one_cellsOf _) b2 (Spl.segs _ 0 1 [Kd.seg (kA 16 (kI .i64)) e24.Kids] rfl rfl)) rfl rfl ?_
            rintro _ w51 ⟨b2, q50⟩
            have fB := fB.wr q50 z4
            refine ol_val (v := .bool true) (by exact xr_assign rfl rfl) rfl rfl rfl ?_
            refine ol_nil ?_
            refine cw_ret ?_
            repeat (first | with_reducible refine thn_r ?_ | with_reducible refine blk_r ?_)
            obtain rfl := Option.some.inj h
            refine fin_cell_tmp Try.results58 e2 ag73 sz73 b2 (by rfl) rfl ?_
            exact ⟨_, rfl, rfl, fB⟩
end Go.Proofs.Ytjhajfkfhdnciaa

/- Fans in plain words. -/
set_option linter.unusedVariables false
set_option linter.unusedSimpArgs false
namespace Go.Proofs.Ytjhajfkfhdnciaa.Pure
open Go Go.Xw
def kidOk (x : Int) : Prop := x = 0 ∨ 2 ≤ x ∧ x ≤ 3071
instance (x : Int) : Decidable (kidOk x) := inferInstanceAs (Decidable (_ ∨ _))
def kid (f : S_api_Fan) (i : Nat) : Int := Arr.get f.Kids (i : Int)
def fanOk (f : S_api_Fan) : Prop := ∀ i, i < 16 → kidOk (kid f i)
instance (f : S_api_Fan) : Decidable (fanOk f) := inferInstanceAs (Decidable (∀ i, i < 16 → _))
def noF : S_api_Fan := ⟨Arr.rep 16 0⟩
def fanB (f : S_api_Fan) (n : Nat) : List Int := (List.range n).flatMap fun i => lay (u64n (kid f i)) 2
theorem fanB_len (f : S_api_Fan) (n : Nat) : (fanB f n).length = 2 * n := flat_len (fun i => lay_len _ _) n
theorem fanB_bytes (f : S_api_Fan) (n : Nat) : Bytes (fanB f n) := flat_bytes (fun i => lay_bytes _ _) n
theorem within_eq (fu : Nat) (a b c : Int) : page_within.f fu a b c = some (decide (b ≤ a ∧ a ≤ c)) := by
  unfold page_within.f
  by_cases h : b ≤ a <;> simp [h]
theorem rblock_eq (fu : Nat) (a : Int) : rickyardref08_Block.f fu a = some (decide (2 ≤ a ∧ a ≤ 3071)) := by
  unfold rickyardref08_Block.f
  by_cases h : 2 ≤ a <;> simp [h]
theorem lim_of {a b : Nat} (h : a + b ≤ 1000) : a + b ≤ LIM := by
  have : (1000 : Nat) ≤ LIM := by decide
  omega
theorem rightFan_eq {fu : Nat} {f : S_api_Fan} (hf : 16 < fu) : page_rightFan.f fu f = some (decide (fanOk f)) := by
  unfold page_rightFan.f
  have hs : ∀ j : Nat, j < 16 → page_rightFan.s0 fu f (j : Int) = some (if kidOk (kid f j) then .inr ((j + 1 : Nat) : Int) else .inl (.inl false)) := by
    intro j hj
    unfold page_rightFan.s0
    have h1 : (j : Int) < 16 := by omega
    have c1 : 0 ≤ (j : Int) ∧ (j : Int) < 16 := by omega
    have w3 : IntKind.i64.wrap ((j : Int) + 1) = ((j + 1 : Nat) : Int) := by rw [w64 (by omega) (by omega)]; omega
    have hk : Arr.get f.Kids (j : Int) = kid f j := rfl
    simp only [h1, decide_true, if_true, hk, w3, within_eq, Option.bind_some]
    rw [if_pos ⟨by omega, trivial⟩]
    unfold kidOk
    by_cases h0 : kid f j = 0
    · simp [h0]
    · by_cases h2 : 2 ≤ kid f j ∧ kid f j ≤ 3071 <;> simp [h0, h2]
  by_cases h : fanOk f
  · have : loopM (page_rightFan.s0 fu f) fu 0 = some (.inr ()) := by
      refine loopM_run (S := fun j => (j : Int)) 16 rfl (fun j hj => by rw [hs j hj, if_pos (h j hj)]) ?_ hf
      unfold page_rightFan.s0
      simp
    rw [this]
    simp [h]
  · have : loopM (page_rightFan.s0 fu f) fu 0 = some (.inl false) := by
      refine loopM_bad (S := fun j => (j : Int)) 16 (fun j => kidOk (kid f j)) rfl ?_ (fun j hj _ hg => by rw [hs j hj, if_pos hg]) (fun j hj _ hg => by rw [hs j hj, if_neg hg]) hf
      apply Classical.byContradiction
      intro hx
      exact h fun i hi => Classical.byContradiction fun hg => hx ⟨i, hi, hg⟩
    rw [this]
    simp [h]
theorem putFan_eq {fu : Nat} {f : S_api_Fan} (hf : 100 < fu) : page_PutFan.f fu f = some (if fanOk f then (sealed (summed 3 0 (fanB f 16)), true) else ([], false)) := by
  unfold page_PutFan.f
  rw [rightFan_eq (by omega)]
  by_cases h : fanOk f
  · have : loopM (page_PutFan.s0 fu f) fu ([], 0) = some (fanB f 16) := by
      refine loopM_run (S := fun j => (fanB f j, (j : Int))) 16 rfl ?_ ?_ (by omega)
      · intro j hj
        unfold page_PutFan.s0
        have h1 : (j : Int) < 16 := by omega
        have w3 : IntKind.i64.wrap ((j : Int) + 1) = ((j + 1 : Nat) : Int) := by rw [w64 (by omega) (by omega)]; omega
        have hk : Arr.get f.Kids (j : Int) = kid f j := rfl
        have hl : octet_Lay.f fu (IntKind.u64.wrap (kid f j)) 2 = some (lay (u64n (kid f j)) 2) := olay64 (n := 2) (by decide) (by omega)
        simp only [h1, decide_true, if_true, hk, w3, hl, Option.bind_some]
        rw [if_pos ⟨by omega, trivial⟩, if_pos (lim_of (by rw [fanB_len, lay_len]; omega))]
        rw [fanB, fanB, flat_succ]
      · unfold page_PutFan.s0
        simp
    have hs := seal_eq (fu := fu) (k := 3) (t := 0) (fanB_bytes f 16) (by omega) (by omega) (by rw [fanB_len]; decide) hf
    simp [h, this, hs]
  · simp [h]
theorem rfan_eq {fu : Nat} {f : S_api_Fan} (hf : 100 < fu) : rickyardref09_Fan.f fu f = some (if fanOk f then ((sealed (summed 3 0 (fanB f 16))).map toB, true) else ([], false)) := by
  unfold rickyardref09_Fan.f
  have hs : ∀ j : Nat, j < 16 → rickyardref09_Fan.s0 fu f ((fanB f j).map toB, (j : Int)) = some (if kidOk (kid f j) then .inr ((fanB f (j + 1)).map toB, ((j + 1 : Nat) : Int)) else .inl (.inl ([], false))) := by
    intro j hj
    unfold rickyardref09_Fan.s0
    have h1 : (j : Int) < 16 := by omega
    have c1 : 0 ≤ (j : Int) ∧ True := ⟨by omega, trivial⟩
    have w3 : IntKind.i64.wrap ((j : Int) + 1) = ((j + 1 : Nat) : Int) := by rw [w64 (by omega) (by omega)]; omega
    have hk : Arr.get f.Kids (j : Int) = kid f j := rfl
    have hl : rickyardref01_Lay.f fu (IntKind.u64.wrap (kid f j)) 2 = some ((lay (u64n (kid f j)) 2).map toB) := rlay64 (n := 2) (by decide) (by omega)
    have hlim : ((fanB f j).map toB).length + ((lay (u64n (kid f j)) 2).map toB).length ≤ LIM := lim_of (by rw [List.length_map, List.length_map, fanB_len, lay_len]; omega)
    have e : (fanB f (j + 1)).map toB = (fanB f j).map toB ++ (lay (u64n (kid f j)) 2).map toB := by rw [← List.map_append, fanB, fanB, flat_succ]
    simp only [h1, decide_true, if_true, hk, w3, rblock_eq, Option.bind_some, hl, if_pos c1, hlim, e]
    unfold kidOk
    by_cases h0 : kid f j = 0
    · simp [h0]
    · by_cases h2 : 2 ≤ kid f j ∧ kid f j ≤ 3071 <;> simp [h0, h2]
  by_cases h : fanOk f
  · have : loopM (rickyardref09_Fan.s0 fu f) fu ([], 0) = some (.inr ((fanB f 16).map toB)) := by
      refine loopM_run (S := fun j => ((fanB f j).map toB, (j : Int))) 16 rfl (fun j hj => by rw [hs j hj, if_pos (h j hj)]) ?_ (by omega)
      unfold rickyardref09_Fan.s0
      simp
    have hq := rseal_eq (fu := fu) (k := 3) (t := 0) (fanB_bytes f 16) (by omega) (by omega) (by rw [fanB_len]; decide) hf
    rw [this]
    simp [h, hq]
  · have : loopM (rickyardref09_Fan.s0 fu f) fu ([], 0) = some (.inl ([], false)) := by
      refine loopM_bad (S := fun j => ((fanB f j).map toB, (j : Int))) 16 (fun j => kidOk (kid f j)) rfl ?_ (fun j hj _ hg => by rw [hs j hj, if_pos hg]) (fun j hj _ hg => by rw [hs j hj, if_neg hg]) (by omega)
      apply Classical.byContradiction
      intro hx
      exact h fun i hi => Classical.byContradiction fun hg => hx ⟨i, hi, hg⟩
    rw [this]
    simp [h]
/-- What octets tell. -/
def fanOf (body : List Int) : S_api_Fan := ⟨fillA (fun i => ((num (fieldAt body 2 i) : Nat) : Int)) (Arr.rep 16 0) 16⟩
theorem kid_of (body : List Int) {i : Nat} (hi : i < 16) : kid (fanOf body) i = ((num (fieldAt body 2 i) : Nat) : Int) := by
  unfold kid
  rw [getA _ hi]
  simp [fanOf, fillA_all]
theorem fan_ext {f g : S_api_Fan} (h : ∀ i, i < 16 → kid f i = kid g i) : f = g := by
  have e : f.Kids = g.Kids := by
    apply Arr.ext
    rw [lA f.Kids, lA g.Kids]
    apply List.map_congr_left
    intro i hi
    exact h i (List.mem_range.1 hi)
  cases f
  cases g
  simp_all
theorem fanB_of {body : List Int} (hb : Bytes body) (hl : 32 ≤ body.length) : fanB (fanOf body) 16 = body.take 32 := by
  unfold fanB
  rw [← field_flat (w := 2) 16 (by omega)]
  apply flat_congr
  intro i hi
  rw [kid_of body hi]
  have hfl := fieldAt_len (l := body) (w := 2) (n := 16) (by omega) hi
  have hfb := fieldAt_bytes hb 2 i
  have hn := num_lt hfb
  rw [hfl] at hn
  rw [u64n_of (by omega) (by omega), Int.toNat_natCast]
  have := lay_num hfb
  rwa [hfl] at this
theorem fanOf_B {f : S_api_Fan} (h : fanOk f) (t : List Int) : fanOf (fanB f 16 ++ t) = f := by
  apply fan_ext
  intro i hi
  rw [kid_of _ hi, fanB, flat_field (fun i => lay_len _ _) hi, num_lay]
  have := h i hi
  unfold kidOk at this
  rw [u64n_of (by omega) (by omega)]
  omega
def GetF (b : List Int) : Prop := Is b ∧ ix b 4 = 3 ∧ ix b 5 = 0 ∧ (∀ y ∈ (b.drop 8).drop 32, y = 0) ∧ fanOk (fanOf (b.drop 8))
instance (b : List Int) : Decidable (GetF b) := inferInstanceAs (Decidable (_ ∧ _))
theorem fan_loop {fu : Nat} {b : List Int} {p : Int × Int × Bool} (hb : Bytes b) (hi : Is b) (hf : 100 < fu) : loopM (page_GetFan.s0 fu (p.1, p.2.1, b.drop 8, p.2.2)) fu (0, noF) = some (fanOf (b.drop 8)) := by
  have h8 := is_body hi
  refine loopM_run (S := fun j => ((j : Int), (⟨fillA (fun i => ((num (fieldAt (b.drop 8) 2 i) : Nat) : Int)) (Arr.rep 16 0) j⟩ : S_api_Fan))) 16 rfl ?_ ?_ (by omega)
  · intro j hj
    unfold page_GetFan.s0
    have h1 : (j : Int) < 16 := by omega
    have w3 : IntKind.i64.wrap ((j : Int) + 1) = ((j + 1 : Nat) : Int) := by rw [w64 (by omega) (by omega)]; omega
    have w4 : IntKind.i64.wrap (2 * (j : Int)) = ((2 * j : Nat) : Int) := by rw [w64 (by omega) (by omega)]; omega
    have w5 : IntKind.i64.wrap (2 * ((j + 1 : Nat) : Int)) = ((2 * j + 2 : Nat) : Int) := by rw [w64 (by omega) (by omega)]; omega
    have hfl := fieldAt_len (l := b.drop 8) (w := 2) (n := 16) (by omega) hj
    have hfb := fieldAt_bytes (hb.drop 8) 2 j
    have hr : octet_Read.f fu (cut (b.drop 8) ((2 * j : Nat) : Int) ((2 * j + 2 : Nat) : Int)) = some ((num (fieldAt (b.drop 8) 2 j) : Nat) : Int) := by
      rw [cut_eq]
      have := read_eq (fu := fu) hfb (by omega) (by omega)
      exact this
    have w6 := num_small hfb (by omega)
    simp only [h1, decide_true, if_true, w3, w4, w5, hr, Option.bind_some, w6]
    rw [if_pos (by omega), if_pos ⟨by omega, trivial⟩]
    rfl
  · unfold page_GetFan.s0
    simp [fanOf]
theorem getFan_eq {fu : Nat} {b : List Int} (hb : Bytes b) (hl : b.length ≤ 9000000000000000000) (hf : 100 < fu) : page_GetFan.f fu b = some (if GetF b then (fanOf (b.drop 8), true) else (noF, false)) := by
  unfold page_GetFan.f
  rw [open_eq hb hl hf]
  by_cases hi : Is b
  · have h8 := is_body hi
    have w1 : IntKind.i64.wrap (((b.drop 8).length : Int) - 32) = ((24 : Nat) : Int) := by rw [w64 (by omega) (by omega)]; omega
    have hn : octet_Noughts.f fu (b.drop 8) ((32 : Nat) : Int) ((24 : Nat) : Int) = some (decide (∀ y ∈ ((b.drop 8).drop 32).take 24, y = 0)) := noughts_eq (by omega) (by omega) (by omega)
    have e8 : ((b.drop 8).drop 32).take 24 = (b.drop 8).drop 32 := List.take_of_length_le (by rw [List.length_drop, h8]; decide)
    rw [e8] at hn
    have hn' : octet_Noughts.f fu (b.drop 8) 32 ((24 : Nat) : Int) = some (decide (∀ y ∈ (b.drop 8).drop 32, y = 0)) := hn
    have hloop := fan_loop (fu := fu) (p := (ix b 4, ix b 5, true)) hb hi hf
    unfold noF at hloop
    rw [if_pos hi]
    simp only [Option.bind_some, Bool.not_true, Bool.false_eq_true, if_false, w1, hn']
    by_cases h4 : ix b 4 = 3
    · by_cases h5 : ix b 5 = 0
      · by_cases hz : ∀ y ∈ (b.drop 8).drop 32, y = 0
        · simp only [h4, h5, decide_true, Bool.not_true, Bool.false_eq_true, if_false, decide_eq_true hz, Option.bind_some] at hloop ⊢
          rw [hloop]
          simp only [Option.bind_some, rightFan_eq (show 16 < fu by omega)]
          by_cases hk : fanOk (fanOf (b.drop 8))
          · have hg : GetF b := ⟨hi, h4, h5, hz, hk⟩
            rw [if_pos hg]
            simp [hk]
          · have hg : ¬ GetF b := fun x => hk x.2.2.2.2
            rw [if_neg hg]
            simp [hk, noF]
        · have hg : ¬ GetF b := fun x => hz x.2.2.2.1
          rw [if_neg hg, decide_eq_false hz]
          simp [h4, h5, noF]
      · have hg : ¬ GetF b := fun x => h5 x.2.2.1
        rw [if_neg hg]
        simp [h4, h5, noF]
    · have hg : ¬ GetF b := fun x => h4 x.2.1
      rw [if_neg hg]
      simp [h4, noF]
  · have hg : ¬ GetF b := fun x => hi x.1
    rw [if_neg hi, if_neg hg]
    rfl
theorem map_drop_take (l : List Int) (i n : Nat) : cut (l.map toB) (i : Int) ((i + n : Nat) : Int) = ((l.drop i).take n).map toB := by
  unfold cut
  rw [Int.toNat_natCast, Int.toNat_natCast, List.drop_take, ← List.map_drop, ← List.map_take]
  congr 2
  omega
theorem rgetFan_eq {fu : Nat} {b : List Int} (hb : Bytes b) (hf : 100 < fu) : rickyardref09_GetFan.f fu b = some (if GetF b then (fanOf (b.drop 8), true) else (noF, false)) := by
  unfold rickyardref09_GetFan.f
  rw [ropen_eq hb hf]
  by_cases hi : Is b
  · have h8 := is_body hi
    obtain ⟨b4, b5⟩ := is_tag hb hi
    rw [if_pos hi]
    simp only [Option.bind_some, Bool.not_true, Bool.false_eq_true, if_false]
    by_cases h4 : ix b 4 = 3
    · have hloop : loopM (rickyardref09_GetFan.s0 fu (ix b 4, ix b 5, (b.drop 8).map toB, true)) fu (0, (⟨Arr.rep 16 (0 : Int)⟩ : S_api_Fan)) = some (fanOf (b.drop 8)) := by
        refine loopM_run (S := fun j => ((j : Int), (⟨fillA (fun i => ((num (fieldAt (b.drop 8) 2 i) : Nat) : Int)) (Arr.rep 16 0) j⟩ : S_api_Fan))) 16 rfl ?_ ?_ (by omega)
        · intro j hj
          unfold rickyardref09_GetFan.s0
          have h1 : (j : Int) < 16 := by omega
          have w3 : IntKind.i64.wrap ((j : Int) + 1) = ((j + 1 : Nat) : Int) := by rw [w64 (by omega) (by omega)]; omega
          have w4 : IntKind.i64.wrap (2 * (j : Int)) = ((2 * j : Nat) : Int) := by rw [w64 (by omega) (by omega)]; omega
          have w5 : IntKind.i64.wrap (((2 * j : Nat) : Int) + 2) = ((2 * j + 2 : Nat) : Int) := by rw [w64 (by omega) (by omega)]; omega
          have hfl := fieldAt_len (l := b.drop 8) (w := 2) (n := 16) (by omega) hj
          have hfb := fieldAt_bytes (hb.drop 8) 2 j
          have hr : rickyardref01_Int.f fu (cut ((b.drop 8).map toB) ((2 * j : Nat) : Int) ((2 * j + 2 : Nat) : Int)) = some ((num (fieldAt (b.drop 8) 2 j) : Nat) : Int) := by
            rw [map_drop_take]
            have := rint_eq (fu := fu) hfb (by omega) (by omega)
            rw [num_small hfb (by omega)] at this
            exact this
          simp only [h1, decide_true, if_true, w3, w4, w5, hr, Option.bind_some, List.length_map]
          rw [if_pos (by omega), if_pos ⟨by omega, trivial⟩]
          rfl
        · unfold rickyardref09_GetFan.s0
          simp [fanOf]
      have hbb := fanB_bytes (fanOf (b.drop 8)) 16
      have hbl := fanB_len (fanOf (b.drop 8)) 16
      have hq := sealed_map_iff hb hi (k := 3) (t := 0) (by omega) (by omega) hbb (by omega)
      have hfl := full_iff (body := fanB (fanOf (b.drop 8)) 16) (full := b.drop 8) (by omega) h8
      rw [hbl, fanB_of (hb.drop 8) (by omega)] at hfl
      rw [hbl, fanB_of (hb.drop 8) (by omega)] at hq
      simp only [h4, decide_true, Bool.not_true, Bool.false_eq_true, if_false] at hloop ⊢
      rw [hloop]
      simp only [Option.bind_some, rfan_eq hf]
      by_cases hk : fanOk (fanOf (b.drop 8))
      · simp only [hk, if_true, Bool.not_true, Bool.false_eq_true, if_false, fanB_of (hb.drop 8) (show 32 ≤ (b.drop 8).length by omega)]
        by_cases hg : GetF b
        · rw [if_pos hg, decide_eq_true (hq.2 ⟨h4.symm, hg.2.2.1.symm, hfl.2 ⟨rfl, hg.2.2.2.1⟩⟩)]
          rfl
        · rw [if_neg hg, decide_eq_false (fun x => hg ⟨hi, h4, (hq.1 x).2.1.symm, (hfl.1 (hq.1 x).2.2).2, hk⟩)]
          rfl
      · have hg : ¬ GetF b := fun x => hk x.2.2.2.2
        rw [if_neg hg]
        simp [hk, noF]
    · have hg : ¬ GetF b := fun x => h4 x.2.1
      rw [if_neg hg]
      simp [h4, noF]
  · have hg : ¬ GetF b := fun x => hi x.1
    rw [if_neg hi, if_neg hg]
    rfl
theorem getFan_put {fu : Nat} {f : S_api_Fan} (h : fanOk f) (hf : 100 < fu) : page_GetFan.f fu (sealed (summed 3 0 (fanB f 16))) = some (f, true) := by
  have hl : (fanB f 16).length = 32 := fanB_len f 16
  obtain ⟨p4, p5, p8⟩ := sealed_parts 3 0 (fanB f 16)
  have hsl := sealed_len (summed_len (k := 3) (t := 0) (body := fanB f 16) (by omega))
  rw [hl] at p8
  have hg : GetF (sealed (summed 3 0 (fanB f 16))) := by
    refine ⟨is_sealed (by decide) (by omega), p4, p5, ?_, ?_⟩
    · rw [p8, List.drop_left' hl]
      intro y hy
      exact List.eq_of_mem_replicate hy
    · rw [p8, fanOf_B h]
      exact h
  rw [getFan_eq (sealed_bytes (summed_bytes (by omega) (by omega) (fanB_bytes f 16))) (by omega) hf, if_pos hg, p8, fanOf_B h]
end Go.Proofs.Ytjhajfkfhdnciaa.Pure

/- rickyard/rickyardref09.GetLeaf: its model, and that the Go function computes it: written by gen.py. -/
set_option linter.unusedVariables false
namespace Go.Proofs.Ytjhajfkfhdnciaa
open Go Go.Xw
def rickyardref09_GetLeaf.s0 (fu : Nat) (t7 : Int × Int × (List UInt8) × Bool) : (Int × S_api_Leaf) → Option (Sum S_api_Leaf (Int × S_api_Leaf)) := fun s23 => (if (decide (s23.1 < 7)) = true then (if 0 ≤ s23.1 then (if (shL .i64 1 s23.1) ≠ 0 then (if (0 : Int) ≤ (IntKind.i64.wrap (8 * s23.1)) ∧ (IntKind.i64.wrap (8 * s23.1)) ≤ (IntKind.i64.wrap ((IntKind.i64.wrap (8 * s23.1)) + 4)) ∧ (IntKind.i64.wrap ((IntKind.i64.wrap (8 * s23.1)) + 4)) ≤ (List.length t7.2.2.1 : Int) then ((rickyardref01_Int.f fu (cut t7.2.2.1 (IntKind.i64.wrap (8 * s23.1)) (IntKind.i64.wrap ((IntKind.i64.wrap (8 * s23.1)) + 4))) : Option Int).bind fun t34 => (if (0 : Int) ≤ (IntKind.i64.wrap ((IntKind.i64.wrap (8 * s23.1)) + 4)) ∧ (IntKind.i64.wrap ((IntKind.i64.wrap (8 * s23.1)) + 4)) ≤ (IntKind.i64.wrap ((IntKind.i64.wrap (8 * s23.1)) + 8)) ∧ (IntKind.i64.wrap ((IntKind.i64.wrap (8 * s23.1)) + 8)) ≤ (List.length t7.2.2.1 : Int) then ((rickyardref01_Int.f fu (cut t7.2.2.1 (IntKind.i64.wrap ((IntKind.i64.wrap (8 * s23.1)) + 4)) (IntKind.i64.wrap ((IntKind.i64.wrap (8 * s23.1)) + 8))) : Option Int).bind fun t38 => (if 0 ≤ s23.1 ∧ s23.1 < 7 then some (Sum.inr ((IntKind.i64.wrap (s23.1 + 1)), (⟨(Arr.set s23.2.Seats s23.1 (⟨(decide ((Int.tmod (IntKind.i64.wrap (Int.tdiv t7.2.1 (shL .i64 1 s23.1))) 2) = 1)), t34, t38⟩ : S_api_Seat))⟩ : S_api_Leaf))) else none)) else none)) else none) else none) else none) else some (Sum.inl (s23.2)))
def rickyardref09_GetLeaf.f (fu : Nat) (a0 : List Int) : Option (S_api_Leaf × Bool) := ((rickyardref07_Open.f fu a0 : Option (Int × Int × (List UInt8) × Bool)).bind fun t7 => (if (if (!t7.2.2.2) = true then true else (!decide (t7.1 = 2))) = true then some ((⟨(Arr.rep 7 (⟨false, (0 : Int), (0 : Int)⟩ : S_api_Seat))⟩ : S_api_Leaf), false) else ((loopM (rickyardref09_GetLeaf.s0 fu t7) fu (0, (⟨(Arr.rep 7 (⟨false, (0 : Int), (0 : Int)⟩ : S_api_Seat))⟩ : S_api_Leaf))).bind fun e24 => ((rickyardref09_Leaf.f fu e24 : Option ((List UInt8) × Bool)).bind fun t49 => (if (if (!t49.2) = true then true else (!decide (t49.1 = (List.map toB a0)))) = true then some ((⟨(Arr.rep 7 (⟨false, (0 : Int), (0 : Int)⟩ : S_api_Seat))⟩ : S_api_Leaf), false) else some (e24, true))))))
set_option maxRecDepth 100000 in
set_option maxHeartbeats 400000 in
theorem rickyardref09_GetLeaf.ok (fu : Nat) (w : World) (a0 : List Int) (V0_0 : Value) (R0_0 : Rd (kI .u8) w V0_0 a0) (r : S_api_Leaf × Bool) (h : rickyardref09_GetLeaf.f fu a0 = some r) :
    Calls Try.prog 57 (([V0_0] : List Value).toArray) w (fun e w' => ∃ v, e = .returned v ∧ v = .tuple #[aggV [Kd.seg (kA 7 k_api_Seat) r.1.Seats], .bool r.2] ∧ Gr w w') := by
  unfold rickyardref09_GetLeaf.f at h
  have fB : Gr w w := Fr.refl _ _
  refine calls_cw Try.func57 rfl Try.ntmps57 rfl ?_
  refine cw_seq ?_
  refine cw_region ?_
  refine ol_op (by exact opv_alloc (ss := [Kd.seg (kA 7 k_api_Seat) (Arr.rep 7 (⟨false, (0 : Int), (0 : Int)⟩ : S_api_Seat))]) rfl ze61 rfl) rfl rfl rfl ?_
  rintro _ w6 ⟨G1, rfl, b2, q3, z4⟩
  have z4 := Nat.le_trans fB.size z4
  have fB := fB.gr q3
  refine ol_val (v := .bool false) (by exact xr_assign rfl rfl) rfl rfl rfl ?_
  refine ol_nil ?_
  refine cw_seq ?_
  refine cw_region ?_
  refine ol_val (v := V0_0) (by exact xr_move rfl rfl) rfl rfl rfl ?_
  obtain ⟨t7, k8, h⟩ := bs h
  refine ol_op (by exact opv_call rfl cal32 (ac rfl an) (rickyardref07_Open.ok fu _ a0 V0_0 (R0_0.gr fB) _ k8)) rfl rfl rfl ?_
  rintro _ w10 ⟨rfl, q9⟩
  have b2 := b2.gr q9
  have fB := fB.gr q9
  refine ol_val (v := .tuple #[.int .i64 t7.1, .int .i64 t7.2.1, sv t7.2.2.1, .bool t7.2.2.2]) (by exact xr_move rfl rfl) rfl rfl rfl ?_
  refine ol_val (v := .int .i64 t7.1) (by exact xr_extract rfl rfl rfl) rfl rfl rfl ?_
  refine ol_val (v := .int .i64 t7.2.1) (by exact xr_extract rfl rfl rfl) rfl rfl rfl ?_
  refine ol_val (v := sv t7.2.2.1) (by exact xr_extract rfl rfl rfl) rfl rfl rfl ?_
  refine ol_val (v := .bool t7.2.2.2) (by exact xr_extract rfl rfl rfl) rfl rfl rfl ?_
  refine ol_val (v := .int .i64 t7.1) (by exact xr_assign rfl rfl) rfl rfl rfl ?_
  refine ol_val (v := .int .i64 t7.2.1) (by exact xr_assign rfl rfl) rfl rfl rfl ?_
  refine ol_val (v := sv t7.2.2.1) (by exact xr_assign rfl rfl) rfl rfl rfl ?_
  refine ol_val (v := .bool t7.2.2.2) (by exact xr_assign rfl rfl) rfl rfl rfl ?_
  refine ol_nil ?_
  refine cw_seq ?_
  refine cw_seq ?_
  refine cw_mid (fun ρ' w' => ρ' 0 = V0_0 ∧ ρ' 2 = .pointer (some ⟨G1, 0, none⟩) ∧ ρ' 5 = .int .i64 t7.2.1 ∧ ρ' 6 = sv t7.2.2.1 ∧ ρ' 24 = .bool (if (!t7.2.2.2) = true then true else (!decide (t7.1 = 2))) ∧ w10 = w') ?_ ?_
  · skip
    refine cw_region ?_
    refine ol_val (v := .bool t7.2.2.2) (by exact xr_move rfl rfl) rfl rfl rfl ?_
    refine ol_val (v := .bool (!t7.2.2.2)) (by exact xr_not rfl rfl) rfl rfl rfl ?_
    refine ol_val (v := .bool (!t7.2.2.2)) (by exact xr_move rfl rfl) rfl rfl rfl ?_
    rcases bt (!t7.2.2.2) with c11 | c11
    · skip
      refine ol_gskip rfl rfl rfl rfl rfl c11 ?_
      refine ol_gskip rfl rfl rfl rfl rfl c11 ?_
      refine ol_val (v := .bool true) (by exact xr_pickT rfl rfl c11 rfl) rfl rfl rfl ?_
      refine ol_nil ?_
      refine thn_i ?_
      exact ⟨rfl, rfl, rfl, rfl, (rfl).trans (congrArg (fun z => (.bool z : Value)) (show true = (if (!t7.2.2.2) = true then true else (!decide (t7.1 = 2))) from by rw [ite_t c11])), rfl⟩
    · skip
      refine ol_gval (v := .int .i64 t7.1) (by exact xr_move rfl rfl) rfl rfl rfl rfl rfl c11 ?_
      refine ol_gval (v := .bool (!decide (t7.1 = 2))) (by exact xr_neI rfl Try.underlying3 rfl rfl rfl) rfl rfl rfl rfl rfl c11 ?_
      refine ol_val (v := .bool (!decide (t7.1 = 2))) (by exact xr_pickF rfl rfl c11 rfl) rfl rfl rfl ?_
      refine ol_nil ?_
      refine thn_i ?_
      exact ⟨rfl, rfl, rfl, rfl, (rfl).trans (congrArg (fun z => (.bool z : Value)) (show (!decide (t7.1 = 2)) = (if (!t7.2.2.2) = true then true else (!decide (t7.1 = 2))) from by rw [ite_f c11])), rfl⟩
  · skip
    rintro ρ12 _ ⟨e0, e2, e5, e6, e24, rfl⟩
    rcases is h with ⟨c13, h⟩ | ⟨c13, h⟩
    · refine cw_condT e24 c13 ?_
      refine cw_seq ?_
      refine cw_region ?_
      refine ol_val (v := aggV [Kd.seg (kA 7 k_api_Seat) (Arr.rep 7 (⟨false, (0 : Int), (0 : Int)⟩ : S_api_Seat))]) (by exact xr_build (vals := []) rfl trivial (bl61_ _)) rfl rfl rfl ?_
      refine ol_op0 (by exact opv_store (ss' := [Kd.seg (kA 7 k_api_Seat) (Arr.rep 7 (⟨false, (0 : Int), (0 : Int)⟩ : S_api_Seat))]) (xs := cellsOf [Kd.seg (kA 7 k_api_Seat) (Arr.rep 7 (⟨false, (0 : Int), (0 : Int)⟩ : S_api_Seat))]) rfl sz61 e2 rfl rfl (len_cellsOf _) (one_cellsOf _) b2 (Spl.segs _ 0 1 [Kd.seg (kA 7 k_api_Seat) (Arr.rep 7 (⟨false, (0 : Int), (0 : Int)⟩ : S_api_Seat))] rfl rfl)) rfl rfl ?_
      rintro _ w15 ⟨b2, q14⟩
      have fB := fB.wr q14 z4
      refine ol_val (v := .bool false) (by exact xr_assign rfl rfl) rfl rfl rfl ?_
      refine ol_nil ?_
      refine cw_ret ?_
      repeat (first | with_reducible refine thn_r ?_ | with_reducible refine blk_r ?_)
      obtain rfl := Option.some.inj h
      refine fin_cell_tmp Try.results57 e2 ag61 sz61 b2 (by rfl) rfl ?_
      exact ⟨_, rfl, rfl, fB⟩
    · refine cw_condF e24 c13 ?_
      refine cw_skip ?_
      refine cw_seq ?_
      refine cw_region ?_
      refine ol_op (by exact opv_alloc (ss := [Kd.seg (kA 7 k_api_Seat) (Arr.rep 7 (⟨false, (0 : Int), (0 : Int)⟩ : S_api_Seat))]) rfl ze61 rfl) rfl rfl rfl ?_
      rintro _ w21 ⟨G16, rfl, b17, q18, z19⟩
      have n22 := Blk.ne b2 z19
      have z19 := Nat.le_trans fB.size z19
      have b2 := b2.gr q18
      have fB := fB.gr q18
      refine ol_nil ?_
      refine cw_seq ?_
      refine cw_seq ?_
      refine cw_region ?_
      refine ol_val (v := .int .i64 0) (by exact xr_assign rfl rfl) rfl rfl rfl ?_
      refine ol_nil ?_
      obtain ⟨e24, l25, h26⟩ := bs h
      refine cw_mid (fun ρ' w' => ρ' 0 = V0_0 ∧ ρ' 2 = .pointer (some ⟨G1, 0, none⟩) ∧ ρ' 8 = .pointer (some ⟨G16, 0, none⟩) ∧ Blk w' G1 61 [Kd.seg (kA 7 k_api_Seat) (Arr.rep 7 (⟨false, (0 : Int), (0 : Int)⟩ : S_api_Seat))] ∧ Blk w' G16 61 [Kd.seg (kA 7 k_api_Seat) e24.Seats] ∧ Gr w w') ?_ ?_
      · refine cw_block ?_
        refine cw_round (fun (s23 : Int × S_api_Leaf) ρ' w' => ρ' 0 = V0_0 ∧ ρ' 2 = .pointer (some ⟨G1, 0, none⟩) ∧ ρ' 5 = .int .i64 t7.2.1 ∧ ρ' 6 = sv t7.2.2.1 ∧ ρ' 8 = .pointer (some ⟨G16, 0, none⟩) ∧ ρ' 9 = .int .i64 s23.1 ∧ Blk w' G1 61 [Kd.seg (kA 7 k_api_Seat) (Arr.rep 7 (⟨false, (0 : Int), (0 : Int)⟩ : S_api_Seat))] ∧ Blk w' G16 61 [Kd.seg (kA 7 k_api_Seat) s23.2.Seats] ∧ Gr w w') l25 ?_ ?_
        · skip
          exact ⟨e0, e2, e5, e6, rfl, rfl, b2, b17, fB⟩
        · rintro s23 x29 ρ27 w28 ⟨e0, e2, e5, e6, e8, e9, b2, b17, fB⟩ h
          unfold rickyardref09_GetLeaf.s0 at h
          refine cw_seq ?_
          refine cw_seq ?_
          refine cw_region ?_
          refine ol_val (v := .int .i64 s23.1) (by exact xr_move rfl e9) rfl rfl rfl ?_
          refine ol_val (v := .bool (decide (s23.1 < 7))) (by exact xr_lss rfl rfl rfl) rfl rfl rfl ?_
          refine ol_nil ?_
          rcases is h with ⟨c30, h⟩ | ⟨c30, h⟩
          · refine cw_condT rfl c30 ?_
            refine cw_skip ?_
            refine cw_seq ?_
            refine cw_block ?_
            obtain ⟨g31, h⟩ := gs h
            obtain ⟨g32, h⟩ := gs h
            obtain ⟨g33, h⟩ := gs h
            obtain ⟨t34, k35, h⟩ := bs h
            obtain ⟨g37, h⟩ := gs h
            obtain ⟨t38, k39, h⟩ := bs h
            refine cw_drawL 26 [fun vz wz => vz = (.int .i64 s23.1 : Value), fun vz wz => vz = (.int .i64 t7.2.1 : Value), fun vz wz => vz = (.int .i64 s23.1 : Value), fun vz wz => vz = (.int .i64 (shL .i64 1 s23.1) : Value), fun vz wz => vz = (.int .i64 (IntKind.i64.wrap (Int.tdiv t7.2.1 (shL .i64 1 s23.1))) : Value), fun vz wz => vz = (.int .i64 (Int.tmod (IntKind.i64.wrap (Int.tdiv t7.2.1 (shL .i64 1 s23.1))) 2) : Value), fun vz wz => vz = (.bool (decide ((Int.tmod (IntKind.i64.wrap (Int.tdiv t7.2.1 (shL .i64 1 s23.1))) 2) = 1)) : Value), fun vz wz => vz = (sv t7.2.2.1 : Value), fun vz wz => vz = (.int .i64 s23.1 : Value), fun vz wz => vz = (.int .i64 (IntKind.i64.wrap (8 * s23.1)) : Value), fun vz wz => vz = (.int .i64 s23.1 : Value), fun vz wz => vz = (.int .i64 (IntKind.i64.wrap (8 * s23.1)) : Value), fun vz wz => vz = (.int .i64 (IntKind.i64.wrap ((IntKind.i64.wrap (8 * s23.1)) + 4)) : Value), fun vz wz => vz = (sv (cut t7.2.2.1 (IntKind.i64.wrap (8 * s23.1)) (IntKind.i64.wrap ((IntKind.i64.wrap (8 * s23.1)) + 4))) : Value), fun vz wz => vz = (.int .i64 t34 : Value), fun vz wz => vz = (sv t7.2.2.1 : Value), fun vz wz => vz = (.int .i64 s23.1 : Value), fun vz wz => vz = (.int .i64 (IntKind.i64.wrap (8 * s23.1)) : Value), fun vz wz => vz = (.int .i64 (IntKind.i64.wrap ((IntKind.i64.wrap (8 * s23.1)) + 4)) : Value), fun vz wz => vz = (.int .i64 s23.1 : Value), fun vz wz => vz = (.int .i64 (IntKind.i64.wrap (8 * s23.1)) : Value), fun vz wz => vz = (.int .i64 (IntKind.i64.wrap ((IntKind.i64.wrap (8 * s23.1)) + 8)) : Value), fun vz wz => vz = (sv (cut t7.2.2.1 (IntKind.i64.wrap ((IntKind.i64.wrap (8 * s23.1)) + 4)) (IntKind.i64.wrap ((IntKind.i64.wrap (8 * s23.1)) + 8))) : Value), fun vz wz => vz = (.int .i64 t38 : Value), fun vz wz => vz = (aggV [Seg.cell (.bool (decide ((Int.tmod (IntKind.i64.wrap (Int.tdiv t7.2.1 (shL .i64 1 s23.1))) 2) = 1))), Seg.cell (.int .i64 t34), Seg.cell (.int .i64 t38)] : Value), fun vz wz => vz = (.pointer (some ⟨G16, 0, none⟩) : Value)] mo rfl ⟨fun _ _ _ h _ => h, fun _ _ _ h _ => h, fun _ _ _ h _ => h, fun _ _ _ h _ => h, fun _ _ _ h _ => h, fun _ _ _ h _ => h, fun _ _ _ h _ => h, fun _ _ _ h _ => h, fun _ _ _ h _ => h, fun _ _ _ h _ => h, fun _ _ _ h _ => h, fun _ _ _ h _ => h, fun _ _ _ h _ => h, fun _ _ _ h _ => h, fun _ _ _ h _ => h, fun _ _ _ h _ => h, fun _ _ _ h _ => h, fun _ _ _ h _ => h, fun _ _ _ h _ => h, fun _ _ _ h _ => h, fun _ _ _ h _ => h, fun _ _ _ h _ => h, fun _ _ _ h _ => h, fun _ _ _ h _ => h, fun _ _ _ h _ => h, fun _ _ _ h _ => h, trivial⟩ ?_ ?_
            · refine ⟨?_, ?_, ?_, ?_, ?_, ?_, ?_, ?_, ?_, ?_, ?_, ?_, ?_, ?_, ?_, ?_, ?_, ?_, ?_, ?_, ?_, ?_, ?_, ?_, ?_, ?_, trivial⟩
              · intro ρz wz hz hk hd
                exact sk_val (v := .int .i64 s23.1) (by exact xr_move rfl ((hk 9 rfl).trans e9)) rfl rfl
              · intro ρz wz hz hk hd
                exact sk_val (v := .int .i64 t7.2.1) (by exact xr_move rfl ((hk 5 rfl).trans e5)) rfl rfl
              · intro ρz wz hz hk hd
                exact sk_val (v := .int .i64 s23.1) (by exact xr_move rfl ((hk 9 rfl).trans e9)) rfl rfl
              · intro ρz wz hz hk hd
                have d32 := hd 2 rfl 32 rfl
                exact sk_val (v := .int .i64 (shL .i64 1 s23.1)) (by exact xr_shl rfl rfl d32 g31) rfl rfl
              · intro ρz wz hz hk hd
                have d31 := hd 1 rfl 31 rfl
                have d33 := hd 3 rfl 33 rfl
                exact sk_val (by exact xr_quo rfl d31 d33 g32) rfl rfl
              · intro ρz wz hz hk hd
                have d34 := hd 4 rfl 34 rfl
                exact sk_val (by exact xr_rem rfl d34 rfl (by decide)) rfl rfl
              · intro ρz wz hz hk hd
                have d35 := hd 5 rfl 35 rfl
                exact sk_val (by exact xr_eqI rfl Try.underlying3 rfl d35 rfl) rfl rfl
              · intro ρz wz hz hk hd
                exact sk_val (v := sv t7.2.2.1) (by exact xr_move rfl ((hk 6 rfl).trans e6)) rfl rfl
              · intro ρz wz hz hk hd
                exact sk_val (v := .int .i64 s23.1) (by exact xr_move rfl ((hk 9 rfl).trans e9)) rfl rfl
              · intro ρz wz hz hk hd
                have d38 := hd 8 rfl 38 rfl
                exact sk_val (v := .int .i64 (IntKind.i64.wrap (8 * s23.1))) (by exact xr_mul rfl rfl d38) rfl rfl
              · intro ρz wz hz hk hd
                exact sk_val (v := .int .i64 s23.1) (by exact xr_move rfl ((hk 9 rfl).trans e9)) rfl rfl
              · intro ρz wz hz hk hd
                have d40 := hd 10 rfl 40 rfl
                exact sk_val (v := .int .i64 (IntKind.i64.wrap (8 * s23.1))) (by exact xr_mul rfl rfl d40) rfl rfl
              · intro ρz wz hz hk hd
                have d41 := hd 11 rfl 41 rfl
                exact sk_val (by exact xr_add rfl d41 rfl) rfl rfl
              · intro ρz wz hz hk hd
                have d37 := hd 7 rfl 37 rfl
                have d39 := hd 9 rfl 39 rfl
                have d42 := hd 12 rfl 42 rfl
                exact sk_val (by exact xr_str_lh rfl Try.underlying9 d37 d39 d42 g33.1 g33.2.1 g33.2.2) rfl rfl
              · intro ρz wz hz hk hd
                have d43 := hd 13 rfl 43 rfl
                refine sk_op (by exact opv_call rfl cal103 (ac d43 an) (rickyardref01_Int.ok fu _ (cut t7.2.2.1 (IntKind.i64.wrap (8 * s23.1)) (IntKind.i64.wrap ((IntKind.i64.wrap (8 * s23.1)) + 4))) _ k35)) rfl ?_
                rintro _ wy ⟨rfl, q36⟩
                exact ⟨rfl, q36⟩
              · intro ρz wz hz hk hd
                exact sk_val (v := sv t7.2.2.1) (by exact xr_move rfl ((hk 6 rfl).trans e6)) rfl rfl
              · intro ρz wz hz hk hd
                exact sk_val (v := .int .i64 s23.1) (by exact xr_move rfl ((hk 9 rfl).trans e9)) rfl rfl
              · intro ρz wz hz hk hd
                have d46 := hd 16 rfl 46 rfl
                exact sk_val (v := .int .i64 (IntKind.i64.wrap (8 * s23.1))) (by exact xr_mul rfl rfl d46) rfl rfl
              · intro ρz wz hz hk hd
                have d47 := hd 17 rfl 47 rfl
                exact sk_val (by exact xr_add rfl d47 rfl) rfl rfl
              · intro ρz wz hz hk hd
                exact sk_val (v := .int .i64 s23.1) (by exact xr_move rfl ((hk 9 rfl).trans e9)) rfl rfl
              · intro ρz wz hz hk hd
                have d49 := hd 19 rfl 49 rfl
                exact sk_val (v := .int .i64 (IntKind.i64.wrap (8 * s23.1))) (by exact xr_mul rfl rfl d49) rfl rfl
              · intro ρz wz hz hk hd
                have d50 := hd 20 rfl 50 rfl
                exact sk_val (by exact xr_add rfl d50 rfl) rfl rfl
              · intro ρz wz hz hk hd
                have d45 := hd 15 rfl 45 rfl
                have d48 := hd 18 rfl 48 rfl
                have d51 := hd 21 rfl 51 rfl
                exact sk_val (by exact xr_str_lh rfl Try.underlying9 d45 d48 d51 g37.1 g37.2.1 g37.2.2) rfl rfl
              · intro ρz wz hz hk hd
                have d52 := hd 22 rfl 52 rfl
                refine sk_op (by exact opv_call rfl cal103 (ac d52 an) (rickyardref01_Int.ok fu _ (cut t7.2.2.1 (IntKind.i64.wrap ((IntKind.i64.wrap (8 * s23.1)) + 4)) (IntKind.i64.wrap ((IntKind.i64.wrap (8 * s23.1)) + 8))) _ k39)) rfl ?_
                rintro _ wy ⟨rfl, q40⟩
                exact ⟨rfl, q40⟩
              · intro ρz wz hz hk hd
                have d36 := hd 6 rfl 36 rfl
                have d44 := hd 14 rfl 44 rfl
                have d53 := hd 23 rfl 53 rfl
                exact sk_val (by exact xr_build (vals := [(0, .bool (decide ((Int.tmod (IntKind.i64.wrap (Int.tdiv t7.2.1 (shL .i64 1 s23.1))) 2) = 1))), (1, .int .i64 t34), (2, .int .i64 t38)]) rfl ⟨rfl, d36, ⟨rfl, d44, ⟨rfl, d53, trivial⟩⟩⟩ (bl58_0_1_2 (decide ((Int.tmod (IntKind.i64.wrap (Int.tdiv t7.2.1 (shL .i64 1 s23.1))) 2) = 1)) t34 t38 _)) rfl rfl
              · intro ρz wz hz hk hd
                exact sk_val (v := .pointer (some ⟨G16, 0, none⟩)) (by exact xr_fieldAddr (p := 0) (q := 0) rfl fl61_0 ((hk 8 rfl).trans e8)) rfl rfl
            · intro ρ41 w42 q43 hk hd
              have e0 := (hk 0 rfl).trans e0
              have e2 := (hk 2 rfl).trans e2
              have e5 := (hk 5 rfl).trans e5
              have e6 := (hk 6 rfl).trans e6
              have e8 := (hk 8 rfl).trans e8
              have e9 := (hk 9 rfl).trans e9
              have e30 := hd 0 rfl 30 rfl
              have e54 := hd 24 rfl 54 rfl
              have e55 := hd 25 rfl 55 rfl
              have b2 := b2.gr q43
              have b17 := b17.gr q43
              have fB := fB.gr q43
              obtain ⟨g44, h⟩ := gs h
              refine ol_val (v := .pointer (some ⟨G16, 0 + Int.toNat s23.1 * 3, none⟩)) (by exact xr_indexA (p := 0) (s := 3) rfl Try.underlying59 sz58 e55 e30 g44.1 g44.2) rfl rfl rfl ?_
              refine ol_op0 (by exact opv_store (ss' := [Kd.seg (kA 7 k_api_Seat) (Arr.set s23.2.Seats s23.1 (⟨(decide ((Int.tmod (IntKind.i64.wrap (Int.tdiv t7.2.1 (shL .i64 1 s23.1))) 2) = 1)), t34, t38⟩ : S_api_Seat))]) (xs := cellsOf [Seg.cell (.bool (decide ((Int.tmod (IntKind.i64.wrap (Int.tdiv t7.2.1 (shL .i64 1 s23.1))) 2) = 1))), Seg.cell (.int .i64 t34), Seg.cell (.int .i64 t38)]) rfl sz58 rfl e54 rfl (len_cellsOf _) (one_cellsOf _) b17 (Spl.seg_in _ 0 (Kd.seg (kA 7 k_api_Seat) (Arr.set s23.2.Seats s23.1 (⟨(decide ((Int.tmod (IntKind.i64.wrap (Int.tdiv t7.2.1 (shL .i64 1 s23.1))) 2) = 1)), t34, t38⟩ : S_api_Seat))) rfl rfl (Spl.arr s23.2.Seats s23.1 (⟨(decide ((Int.tmod (IntKind.i64.wrap (Int.tdiv t7.2.1 (shL .i64 1 s23.1))) 2) = 1)), t34, t38⟩ : S_api_Seat) g44.1 g44.2 (Spl.whole ((Kd.len _ _).trans (Kd.len _ _).symm))))) rfl rfl ?_
              rintro _ w46 ⟨b17, q45⟩
              have b2 := b2.wr q45 n22
              have fB := fB.wr q45 z19
              refine ol_nil ?_
              refine blk_i ?_
              refine cw_region ?_
              refine ol_val (v := .int .i64 s23.1) (by exact xr_move rfl e9) rfl rfl rfl ?_
              refine ol_val (v := .int .i64 (IntKind.i64.wrap (s23.1 + 1))) (by exact xr_add rfl rfl rfl) rfl rfl rfl ?_
              refine ol_val (v := .int .i64 (IntKind.i64.wrap (s23.1 + 1))) (by exact xr_assign rfl rfl) rfl rfl rfl ?_
              refine ol_nil ?_
              obtain rfl := Option.some.inj h
              refine lp_in ?_
              exact ⟨e0, e2, e5, e6, e8, rfl, b2, b17, fB⟩
          · refine cw_condF rfl c30 ?_
            refine cw_exit ?_
            repeat (first | with_reducible refine thn_e ?_ | with_reducible refine blk_e rfl ?_)
            obtain rfl := Option.some.inj h
            refine lp_exit ?_
            rintro rfl
            refine thn_x ?_
            exact ⟨e0, e2, e8, b2, b17, fB⟩
      · rintro ρ47 w48 ⟨e0, e2, e8, b2, b17, fB⟩
        have h := h26
        refine cw_seq ?_
        refine cw_region ?_
        refine ol_val (v := aggV [Kd.seg (kA 7 k_api_Seat) e24.Seats]) (by exact xr_loadS (ss := [Kd.seg (kA 7 k_api_Seat) e24.Seats]) rfl ag61 sz61 rfl e8 (b17.segs 0 1 rfl)) rfl rfl rfl ?_
        obtain ⟨t49, k50, h⟩ := bs h
        refine ol_op (by exact opv_call rfl cal50 (ac rfl an) (rickyardref09_Leaf.ok fu _ e24 _ k50)) rfl rfl rfl ?_
        rintro _ w52 ⟨rfl, q51⟩
        have b2 := b2.gr q51
        have b17 := b17.gr q51
        have fB := fB.gr q51
        refine ol_val (v := .tuple #[sv t49.1, .bool t49.2]) (by exact xr_move rfl rfl) rfl rfl rfl ?_
        refine ol_val (v := sv t49.1) (by exact xr_extract rfl rfl rfl) rfl rfl rfl ?_
        refine ol_val (v := .bool t49.2) (by exact xr_extract rfl rfl rfl) rfl rfl rfl ?_
        refine ol_val (v := sv t49.1) (by exact xr_assign rfl rfl) rfl rfl rfl ?_
        refine ol_val (v := .bool t49.2) (by exact xr_assign rfl rfl) rfl rfl rfl ?_
        refine ol_nil ?_
        refine cw_seq ?_
        refine cw_seq ?_
        refine cw_mid (fun ρ' w' => ρ' 2 = .pointer (some ⟨G1, 0, none⟩) ∧ ρ' 8 = .pointer (some ⟨G16, 0, none⟩) ∧ ρ' 69 = .bool (if (!t49.2) = true then true else (!decide (t49.1 = (List.map toB a0)))) ∧ w52 = w') ?_ ?_
        · skip
          refine cw_region ?_
          refine ol_val (v := .bool t49.2) (by exact xr_move rfl rfl) rfl rfl rfl ?_
          refine ol_val (v := .bool (!t49.2)) (by exact xr_not rfl rfl) rfl rfl rfl ?_
          refine ol_val (v := .bool (!t49.2)) (by exact xr_move rfl rfl) rfl rfl rfl ?_
          rcases bt (!t49.2) with c53 | c53
          · skip
            refine ol_gskip rfl rfl rfl rfl rfl c53 ?_
            refine ol_gskip rfl rfl rfl rfl rfl c53 ?_
            refine ol_gskip rfl rfl rfl rfl rfl c53 ?_
            refine ol_gskip rfl rfl rfl rfl rfl c53 ?_
            refine ol_val (v := .bool true) (by exact xr_pickT rfl rfl c53 rfl) rfl rfl rfl ?_
            refine ol_nil ?_
            refine thn_i ?_
            exact ⟨e2, e8, (rfl).trans (congrArg (fun z => (.bool z : Value)) (show true = (if (!t49.2) = true then true else (!decide (t49.1 = (List.map toB a0)))) from by rw [ite_t c53])), rfl⟩
          · skip
            refine ol_gval (v := sv t49.1) (by exact xr_move rfl rfl) rfl rfl rfl rfl rfl c53 ?_
            refine ol_gval (v := V0_0) (by exact xr_move rfl e0) rfl rfl rfl rfl rfl c53 ?_
            refine ol_gval (v := sv (List.map toB a0)) (by exact xr_toStr rfl Try.underlying22 Try.underlying5 Try.underlying9 rfl (R0_0.gr fB)) rfl rfl rfl rfl rfl c53 ?_
            refine ol_gval (v := .bool (!decide (t49.1 = (List.map toB a0)))) (by exact xr_neStr rfl Try.underlying9 rfl rfl) rfl rfl rfl rfl rfl c53 ?_
            refine ol_val (v := .bool (!decide (t49.1 = (List.map toB a0)))) (by exact xr_pickF rfl rfl c53 rfl) rfl rfl rfl ?_
            refine ol_nil ?_
            refine thn_i ?_
            exact ⟨e2, e8, (rfl).trans (congrArg (fun z => (.bool z : Value)) (show (!decide (t49.1 = (List.map toB a0))) = (if (!t49.2) = true then true else (!decide (t49.1 = (List.map toB a0)))) from by rw [ite_f c53])), rfl⟩
        · skip
          rintro ρ54 _ ⟨e2, e8, e69, rfl⟩
          rcases is h with ⟨c55, h⟩ | ⟨c55, h⟩
          · refine cw_condT e69 c55 ?_
            refine cw_seq ?_
            refine cw_region ?_
            refine ol_val (v := aggV [Kd.seg (kA 7 k_api_Seat) (Arr.rep 7 (⟨false, (0 : Int), (0 : Int)⟩ : S_api_Seat))]) (by exact xr_build (vals := []) rfl trivial (bl61_ _)) rfl rfl rfl ?_
            refine ol_op0 (by exact opv_store (ss' := [Kd.seg (kA 7 k_api_Seat) (Arr.rep 7 (⟨false, (0 : Int), (0 : Int)⟩ : S_api_Seat))]) (xs := cellsOf [Kd.seg (kA 7 k_api_Seat) (Arr.rep 7 (⟨false, (0 : Int), (0 : Int)⟩ : S_api_Seat))]) rfl sz61 e2 rfl rfl (len_cellsOf _) (one_cellsOf _) b2 (Spl.segs _ 0 1 [Kd.seg (kA 7 k_api_Seat) (Arr.rep 7 (⟨false, (0 : Int), (0 : Int)⟩ : S_api_Seat))] rfl rfl)) rfl rfl ?_
            rintro _ w57 ⟨b2, q56⟩
            have fB := fB.wr q56 z4
            refine ol_val (v := .bool false) (by exact xr_assign rfl rfl) rfl rfl rfl ?_
            refine ol_nil ?_
            refine cw_ret ?_
            repeat (first | with_reducible refine thn_r ?_ | with_reducible refine blk_r ?_)
            obtain rfl := Option.some.inj h
            refine fin_cell_tmp Try.results57 e2 ag61 sz61 b2 (by rfl) rfl ?_
            exact ⟨_, rfl, rfl, fB⟩
          · refine cw_condF e69 c55 ?_
            refine cw_skip ?_
            refine cw_seq ?_
            refine cw_region ?_
            refine ol_val (v := aggV [Kd.seg (kA 7 k_api_Seat) e24.Seats]) (by exact xr_loadS (ss := [Kd.seg (kA 7 k_api_Seat) e24.Seats]) rfl ag61 sz61 rfl e8 (b17.segs 0 1 rfl)) rfl rfl rfl ?_
            refine ol_op0 (by exact opv_store (ss' := [Kd.seg (kA 7 k_api_Seat) e24.Seats]) (xs := cellsOf [Kd.seg (kA 7 k_api_Seat) e24.Seats]) rfl sz61 e2 rfl rfl (len_cellsOf _) (one_cellsOf _) b2 (Spl.segs _ 0 1 [Kd.seg (kA 7 k_api_Seat) e24.Seats] rfl rfl)) rfl rfl ?_
            rintro _ w59 ⟨b2, q58⟩
            have fB := fB.wr q58 z4
            refine ol_val (v := .bool true) (by exact xr_assign rfl rfl) rfl rfl rfl ?_
            refine ol_nil ?_
            refine cw_ret ?_
            repeat (first | with_reducible refine thn_r ?_ | with_reducible refine blk_r ?_)
            obtain rfl := Option.some.inj h
            refine fin_cell_tmp Try.results57 e2 ag61 sz61 b2 (by rfl) rfl ?_
            exact ⟨_, rfl, rfl, fB⟩
end Go.Proofs.Ytjhajfkfhdnciaa

/- Leaves in plain words. -/
set_option linter.unusedVariables false
set_option linter.unusedSimpArgs false
namespace Go.Proofs.Ytjhajfkfhdnciaa.Pure
open Go Go.Xw
def seatB (x : S_api_Seat) : Bool := if x.Live = true then decide (1 ≤ x.Gen ∧ x.Gen ≤ 4294967295) && decide (2 ≤ x.Next ∧ x.Next ≤ 3071) else decide (0 ≤ x.Gen ∧ x.Gen ≤ 4294967295) && (decide (0 ≤ x.Next ∧ x.Next ≤ 1792) && (decide (x.Gen > 0) || decide (x.Next = 0)))
theorem seatB_nums {x : S_api_Seat} (h : seatB x = true) : (0 ≤ x.Gen ∧ x.Gen ≤ 4294967295) ∧ (0 ≤ x.Next ∧ x.Next ≤ 4294967295) := by
  unfold seatB at h
  split at h
  · simp only [Bool.and_eq_true, decide_eq_true_eq] at h
    omega
  · simp only [Bool.and_eq_true, decide_eq_true_eq] at h
    omega
theorem rightSeat_eq (fu : Nat) (x : S_api_Seat) : page_RightSeat.f fu x = some (seatB x) := by
  unfold page_RightSeat.f seatB
  simp only [within_eq, Option.bind_some]
  cases hL : x.Live
  · simp only [Bool.false_eq_true, if_false]
    by_cases h1 : 0 ≤ x.Gen ∧ x.Gen ≤ 4294967295
    · by_cases h2 : 0 ≤ x.Next ∧ x.Next ≤ 1792
      · by_cases h3 : x.Gen > 0
        · rw [decide_eq_true h1, decide_eq_true h2, decide_eq_true h3]
          rfl
        · rw [decide_eq_true h1, decide_eq_true h2, decide_eq_false h3]
          rfl
      · rw [decide_eq_true h1, decide_eq_false h2]
        rfl
    · rw [decide_eq_false h1]
      rfl
  · simp only [if_true]
    by_cases h1 : 1 ≤ x.Gen ∧ x.Gen ≤ 4294967295
    · rw [decide_eq_true h1]
      rfl
    · rw [decide_eq_false h1]
      rfl
theorem rseat_eq (fu : Nat) (x : S_api_Seat) : rickyardref09_Seat.f fu x = some (seatB x) := by
  unfold rickyardref09_Seat.f seatB
  simp only [rblock_eq, Option.bind_some]
  by_cases g0 : x.Gen < 0
  · have h1 : ¬ (1 ≤ x.Gen ∧ x.Gen ≤ 4294967295) := by omega
    have h2 : ¬ (0 ≤ x.Gen ∧ x.Gen ≤ 4294967295) := by omega
    rw [decide_eq_true g0, decide_eq_false h1, decide_eq_false h2]
    cases x.Live <;> rfl
  · by_cases g1 : x.Gen > 4294967295
    · have h1 : ¬ (1 ≤ x.Gen ∧ x.Gen ≤ 4294967295) := by omega
      have h2 : ¬ (0 ≤ x.Gen ∧ x.Gen ≤ 4294967295) := by omega
      rw [decide_eq_false g0, decide_eq_true g1, decide_eq_false h1, decide_eq_false h2]
      cases x.Live <;> rfl
    · rw [decide_eq_false g0, decide_eq_false g1]
      cases hL : x.Live
      · have h2 : (0 ≤ x.Gen ∧ x.Gen ≤ 4294967295) := by omega
        rw [decide_eq_true h2]
        simp only [Bool.false_eq_true, if_false]
        by_cases n0 : x.Next ≥ 0
        · by_cases n1 : x.Next ≤ 1792
          · have n2 : 0 ≤ x.Next ∧ x.Next ≤ 1792 := ⟨n0, n1⟩
            rw [decide_eq_true n0, decide_eq_true n1, decide_eq_true n2]
            by_cases h3 : x.Gen > 0
            · have h4 : ¬ x.Gen = 0 := by omega
              rw [decide_eq_true h3, decide_eq_false h4]
              rfl
            · have h4 : x.Gen = 0 := by omega
              rw [decide_eq_false h3, decide_eq_true h4]
              rfl
          · have n2 : ¬ (0 ≤ x.Next ∧ x.Next ≤ 1792) := by omega
            rw [decide_eq_true n0, decide_eq_false n1, decide_eq_false n2]
            rfl
        · have n2 : ¬ (0 ≤ x.Next ∧ x.Next ≤ 1792) := by omega
          rw [decide_eq_false n0, decide_eq_false n2]
          rfl
      · simp only [if_true, Bool.false_eq_true, if_false]
        by_cases h3 : x.Gen > 0
        · have h1 : 1 ≤ x.Gen ∧ x.Gen ≤ 4294967295 := by omega
          rw [decide_eq_true h3, decide_eq_true h1]
          rfl
        · have h1 : ¬ (1 ≤ x.Gen ∧ x.Gen ≤ 4294967295) := by omega
          rw [decide_eq_false h3, decide_eq_false h1]
          rfl
/-! ### Tags: a bit for each that is live -/
def tagN (g : Nat → Bool) : Nat → Nat
  | 0 => 0
  | j + 1 => tagN g j + (if g j then 2 ^ j else 0)
theorem tagN_lt (g : Nat → Bool) : ∀ j, tagN g j < 2 ^ j
  | 0 => by simp [tagN]
  | j + 1 => by
    have := tagN_lt g j
    unfold tagN
    rw [Nat.pow_succ]
    split <;> omega
theorem tagN_more (g : Nat → Bool) (j : Nat) : ∀ k, ∃ q, tagN g (j + k) = tagN g j + 2 ^ j * q
  | 0 => ⟨0, by simp⟩
  | k + 1 => by
    obtain ⟨q, hq⟩ := tagN_more g j k
    show ∃ q, tagN g (j + k) + (if g (j + k) then 2 ^ (j + k) else 0) = _
    rw [hq]
    split
    · exact ⟨q + 2 ^ k, by rw [Nat.mul_add, ← Nat.pow_add]; omega⟩
    · exact ⟨q, by omega⟩
theorem tag_bit (g : Nat → Bool) {i n : Nat} (h : i < n) : tagN g n / 2 ^ i % 2 = (if g i then 1 else 0) := by
  obtain ⟨q, hq⟩ := tagN_more g (i + 1) (n - i - 1)
  rw [show i + 1 + (n - i - 1) = n from by omega] at hq
  rw [hq]
  have h1 := tagN_lt g i
  have hp : 0 < 2 ^ i := Nat.pow_pos (by decide)
  unfold tagN
  have e : tagN g i + (if g i then 2 ^ i else 0) + 2 ^ (i + 1) * q = tagN g i + 2 ^ i * ((if g i then 1 else 0) + 2 * q) := by
    rw [Nat.mul_add, Nat.pow_succ, Nat.mul_assoc]
    split <;> omega
  rw [e, Nat.add_mul_div_left _ _ hp, Nat.div_eq_of_lt h1]
  split <;> omega
theorem tagN_congr {g k : Nat → Bool} : ∀ {n : Nat}, (∀ i, i < n → g i = k i) → tagN g n = tagN k n
  | 0, _ => rfl
  | n + 1, h => by
    unfold tagN
    rw [tagN_congr fun i hi => h i (by omega), h n (by omega)]
theorem tag_all : ∀ t : Fin 256, tagN (fun i => decide ((t : Nat) / 2 ^ i % 2 = 1)) 7 = (t : Nat) % 128 := by decide +kernel
theorem or_tag : ∀ (j : Fin 7) (a : Fin 64), (a : Nat) < 2 ^ (j : Nat) → bOr .i64 ((a : Nat) : Int) (shL .i64 1 ((j : Nat) : Int)) = (((a : Nat) + 2 ^ (j : Nat) : Nat) : Int) ∧ IntKind.i64.wrap (((a : Nat) : Int) + shL .i64 1 ((j : Nat) : Int)) = (((a : Nat) + 2 ^ (j : Nat) : Nat) : Int) := by decide +kernel
theorem or_tag' {g : Nat → Bool} {j : Nat} (hj : j < 7) : bOr .i64 ((tagN g j : Nat) : Int) (shL .i64 1 (j : Int)) = ((tagN g j + 2 ^ j : Nat) : Int) ∧ IntKind.i64.wrap (((tagN g j : Nat) : Int) + shL .i64 1 (j : Int)) = ((tagN g j + 2 ^ j : Nat) : Int) := by
  have h1 := tagN_lt g j
  have h2 : 2 ^ j ≤ 2 ^ 6 := Nat.pow_le_pow_right (by decide) (by omega)
  have h3 : (2 : Nat) ^ 6 = 64 := by decide
  exact or_tag ⟨j, hj⟩ ⟨tagN g j, by omega⟩ h1
theorem bit_tab : ∀ (t : Fin 256) (j : Fin 7), decide ((bAnd .i64 (shR .i64 ((t : Nat) : Int) ((j : Nat) : Int)) 1) = 1) = decide ((t : Nat) / 2 ^ (j : Nat) % 2 = 1) ∧ shL .i64 1 ((j : Nat) : Int) ≠ 0 ∧ decide ((Int.tmod (IntKind.i64.wrap (Int.tdiv ((t : Nat) : Int) (shL .i64 1 ((j : Nat) : Int)))) 2) = 1) = decide ((t : Nat) / 2 ^ (j : Nat) % 2 = 1) := by decide +kernel
/-! ### Leaves -/
def seat (l : S_api_Leaf) (i : Nat) : S_api_Seat := Arr.get l.Seats (i : Int)
def seatE (x : S_api_Seat) : List Int := lay (u64n x.Gen) 4 ++ lay (u64n x.Next) 4
theorem seatE_len (x : S_api_Seat) : (seatE x).length = 8 := by simp [seatE, lay_len]
theorem seatE_bytes (x : S_api_Seat) : Bytes (seatE x) := (lay_bytes _ _).app (lay_bytes _ _)
def leafE (l : S_api_Leaf) (n : Nat) : List Int := (List.range n).flatMap fun i => seatE (seat l i)
theorem leafE_len (l : S_api_Leaf) (n : Nat) : (leafE l n).length = 8 * n := flat_len (fun i => seatE_len _) n
theorem leafE_bytes (l : S_api_Leaf) (n : Nat) : Bytes (leafE l n) := flat_bytes (fun i => seatE_bytes _) n
def liveT (l : S_api_Leaf) (n : Nat) : Nat := tagN (fun i => (seat l i).Live) n
def leafOk (l : S_api_Leaf) : Prop := ∀ i, i < 7 → seatB (seat l i) = true
instance (l : S_api_Leaf) : Decidable (leafOk l) := inferInstanceAs (Decidable (∀ i, i < 7 → _))
def noS : S_api_Seat := ⟨false, 0, 0⟩
def noL : S_api_Leaf := ⟨Arr.rep 7 noS⟩
theorem liveT_lt (l : S_api_Leaf) : liveT l 7 < 128 := tagN_lt _ 7
theorem putLeaf_eq {fu : Nat} {l : S_api_Leaf} (hf : 100 < fu) : page_PutLeaf.f fu l = some (if leafOk l then (sealed (summed 2 ((liveT l 7 : Nat) : Int) (leafE l 7)), true) else ([], false)) := by
  unfold page_PutLeaf.f
  have hs : ∀ j : Nat, j < 7 → page_PutLeaf.s0 fu l (leafE l j, ((liveT l j : Nat) : Int), (j : Int)) = some (if seatB (seat l j) = true then .inr (leafE l (j + 1), ((liveT l (j + 1) : Nat) : Int), ((j + 1 : Nat) : Int)) else .inl (.inl ([], false))) := by
    intro j hj
    unfold page_PutLeaf.s0
    have h1 : (j : Int) < 7 := by omega
    have w3 : IntKind.i64.wrap ((j : Int) + 1) = ((j + 1 : Nat) : Int) := by rw [w64 (by omega) (by omega)]; omega
    have hk : Arr.get l.Seats (j : Int) = seat l j := rfl
    have hl1 : octet_Lay.f fu (IntKind.u64.wrap (seat l j).Gen) 4 = some (lay (u64n (seat l j).Gen) 4) := olay64 (n := 4) (by decide) (by omega)
    have hl2 : octet_Lay.f fu (IntKind.u64.wrap (seat l j).Next) 4 = some (lay (u64n (seat l j).Next) 4) := olay64 (n := 4) (by decide) (by omega)
    have c0 : 0 ≤ (j : Int) := by omega
    have e : leafE l (j + 1) = leafE l j ++ lay (u64n (seat l j).Gen) 4 ++ lay (u64n (seat l j).Next) 4 := by
      rw [leafE, leafE, flat_succ, List.append_assoc]
      rfl
    have hlim1 : (leafE l j).length + (lay (u64n (seat l j).Gen) 4).length ≤ LIM := lim_of (by rw [leafE_len, lay_len]; omega)
    have hlim2 : (leafE l j ++ lay (u64n (seat l j).Gen) 4).length + (lay (u64n (seat l j).Next) 4).length ≤ LIM := lim_of (by rw [List.length_append, leafE_len, lay_len, lay_len]; omega)
    have ht := (or_tag' (g := fun i => (seat l i).Live) hj).1
    simp only [h1, decide_true, if_true, hk, w3, rightSeat_eq, Option.bind_some, hl1, hl2, c0, true_and, and_self, hlim1, hlim2]
    cases hb : seatB (seat l j)
    · rfl
    · simp only [e, Bool.not_true, Bool.false_eq_true, if_false, if_true]
      unfold liveT
      cases hL : (seat l j).Live
      · simp [tagN, hL]
      · simp [tagN, hL, ht]
  by_cases h : leafOk l
  · have : loopM (page_PutLeaf.s0 fu l) fu ([], 0, 0) = some (.inr (leafE l 7, ((liveT l 7 : Nat) : Int))) := by
      refine loopM_run (S := fun j => (leafE l j, ((liveT l j : Nat) : Int), (j : Int))) 7 rfl (fun j hj => by rw [hs j hj, if_pos (h j hj)]) ?_ (by omega)
      unfold page_PutLeaf.s0
      simp
    have ht := liveT_lt l
    have hq := seal_eq (fu := fu) (k := 2) (t := ((liveT l 7 : Nat) : Int)) (leafE_bytes l 7) (by omega) (by omega) (by rw [leafE_len]; decide) hf
    rw [this]
    simp [h, hq]
  · have : loopM (page_PutLeaf.s0 fu l) fu ([], 0, 0) = some (.inl ([], false)) := by
      refine loopM_bad (S := fun j => (leafE l j, ((liveT l j : Nat) : Int), (j : Int))) 7 (fun j => seatB (seat l j) = true) rfl ?_ (fun j hj _ hg => by rw [hs j hj, if_pos hg]) (fun j hj _ hg => by rw [hs j hj, if_neg hg]) (by omega)
      apply Classical.byContradiction
      intro hx
      exact h fun i hi => Classical.byContradiction fun hg => hx ⟨i, hi, hg⟩
    rw [this]
    simp [h]
theorem rleaf_eq {fu : Nat} {l : S_api_Leaf} (hf : 100 < fu) : rickyardref09_Leaf.f fu l = some (if leafOk l then ((sealed (summed 2 ((liveT l 7 : Nat) : Int) (leafE l 7))).map toB, true) else ([], false)) := by
  unfold rickyardref09_Leaf.f
  have hs : ∀ j : Nat, j < 7 → rickyardref09_Leaf.s0 fu l ((leafE l j).map toB, ((liveT l j : Nat) : Int), (j : Int)) = some (if seatB (seat l j) = true then .inr ((leafE l (j + 1)).map toB, ((liveT l (j + 1) : Nat) : Int), ((j + 1 : Nat) : Int)) else .inl (.inl ([], false))) := by
    intro j hj
    unfold rickyardref09_Leaf.s0
    have h1 : (j : Int) < 7 := by omega
    have w3 : IntKind.i64.wrap ((j : Int) + 1) = ((j + 1 : Nat) : Int) := by rw [w64 (by omega) (by omega)]; omega
    have hk : Arr.get l.Seats (j : Int) = seat l j := rfl
    have hl1 : rickyardref01_Lay.f fu (IntKind.u64.wrap (seat l j).Gen) 4 = some ((lay (u64n (seat l j).Gen) 4).map toB) := rlay64 (n := 4) (by decide) (by omega)
    have hl2 : rickyardref01_Lay.f fu (IntKind.u64.wrap (seat l j).Next) 4 = some ((lay (u64n (seat l j).Next) 4).map toB) := rlay64 (n := 4) (by decide) (by omega)
    have c0 : 0 ≤ (j : Int) := by omega
    have e : (leafE l (j + 1)).map toB = (leafE l j).map toB ++ (lay (u64n (seat l j).Gen) 4).map toB ++ (lay (u64n (seat l j).Next) 4).map toB := by
      rw [← List.map_append, ← List.map_append, leafE, leafE, flat_succ, List.append_assoc]
      rfl
    have hlim1 : ((leafE l j).map toB).length + ((lay (u64n (seat l j).Gen) 4).map toB).length ≤ LIM := lim_of (by rw [List.length_map, List.length_map, leafE_len, lay_len]; omega)
    have hlim2 : ((leafE l j).map toB ++ (lay (u64n (seat l j).Gen) 4).map toB).length + ((lay (u64n (seat l j).Next) 4).map toB).length ≤ LIM := lim_of (by rw [List.length_append, List.length_map, List.length_map, List.length_map, leafE_len, lay_len, lay_len]; omega)
    have ht := (or_tag' (g := fun i => (seat l i).Live) hj).2
    simp only [h1, decide_true, if_true, hk, w3, rseat_eq, Option.bind_some, hl1, hl2, c0, true_and, and_self, hlim1, hlim2]
    cases hb : seatB (seat l j)
    · rfl
    · simp only [e, Bool.not_true, Bool.false_eq_true, if_false, if_true]
      unfold liveT
      cases hL : (seat l j).Live
      · simp [tagN, hL]
      · simp [tagN, hL, ht]
  by_cases h : leafOk l
  · have : loopM (rickyardref09_Leaf.s0 fu l) fu ([], 0, 0) = some (.inr ((leafE l 7).map toB, ((liveT l 7 : Nat) : Int))) := by
      refine loopM_run (S := fun j => ((leafE l j).map toB, ((liveT l j : Nat) : Int), (j : Int))) 7 rfl (fun j hj => by rw [hs j hj, if_pos (h j hj)]) ?_ (by omega)
      unfold rickyardref09_Leaf.s0
      simp
    have ht := liveT_lt l
    have hq := rseal_eq (fu := fu) (k := 2) (t := ((liveT l 7 : Nat) : Int)) (leafE_bytes l 7) (by omega) (by omega) (by rw [leafE_len]; decide) hf
    rw [this]
    simp [h, hq]
  · have : loopM (rickyardref09_Leaf.s0 fu l) fu ([], 0, 0) = some (.inl ([], false)) := by
      refine loopM_bad (S := fun j => ((leafE l j).map toB, ((liveT l j : Nat) : Int), (j : Int))) 7 (fun j => seatB (seat l j) = true) rfl ?_ (fun j hj _ hg => by rw [hs j hj, if_pos hg]) (fun j hj _ hg => by rw [hs j hj, if_neg hg]) (by omega)
      apply Classical.byContradiction
      intro hx
      exact h fun i hi => Classical.byContradiction fun hg => hx ⟨i, hi, hg⟩
    rw [this]
    simp [h]
/-! ### What octets tell -/
def seatAt (body : List Int) (t : Int) (i : Nat) : S_api_Seat := ⟨decide (t.toNat / 2 ^ i % 2 = 1), ((num ((fieldAt body 8 i).take 4) : Nat) : Int), ((num ((fieldAt body 8 i).drop 4) : Nat) : Int)⟩
def leafOf (body : List Int) (t : Int) : S_api_Leaf := ⟨fillA (seatAt body t) (Arr.rep 7 noS) 7⟩
theorem seat_of (body : List Int) (t : Int) {i : Nat} (hi : i < 7) : seat (leafOf body t) i = seatAt body t i := by
  unfold seat
  rw [getA _ hi]
  simp [leafOf, fillA_all]
theorem leaf_ext {l m : S_api_Leaf} (h : ∀ i, i < 7 → seat l i = seat m i) : l = m := by
  have e : l.Seats = m.Seats := by
    apply Arr.ext
    rw [lA l.Seats, lA m.Seats]
    apply List.map_congr_left
    intro i hi
    exact h i (List.mem_range.1 hi)
  cases l
  cases m
  simp_all
theorem half_bytes {c : List Int} (hb : Bytes c) (hl : c.length = 8) : ((c.take 4).length = 4 ∧ Bytes (c.take 4)) ∧ ((c.drop 4).length = 4 ∧ Bytes (c.drop 4)) := ⟨⟨by rw [List.length_take, hl]; rfl, hb.take 4⟩, ⟨by rw [List.length_drop, hl], hb.drop 4⟩⟩
theorem num4_lt {c : List Int} (hb : Bytes c) (hl : c.length = 4) : num c < 4294967296 := by
  have := num_lt hb
  rw [hl] at this
  have h3 : (256 : Nat) ^ 4 = 4294967296 := by decide
  omega
theorem lay_num4 {c : List Int} (hb : Bytes c) (hl : c.length = 4) : lay (u64n ((num c : Nat) : Int)) 4 = c := by
  have h1 := num4_lt hb hl
  rw [u64n_of (by omega) (by omega), Int.toNat_natCast]
  have := lay_num hb
  rwa [hl] at this
theorem seatE_of {body : List Int} (hb : Bytes body) (hl : body.length = 56) (t : Int) {i : Nat} (hi : i < 7) : seatE (seatAt body t i) = fieldAt body 8 i := by
  have hfl := fieldAt_len (l := body) (w := 8) (n := 7) (by omega) hi
  have hfb := fieldAt_bytes hb 8 i
  obtain ⟨⟨a1, a2⟩, ⟨b1, b2⟩⟩ := half_bytes hfb hfl
  unfold seatE seatAt
  simp only
  rw [lay_num4 a2 a1, lay_num4 b2 b1, List.take_append_drop]
theorem leafE_of {body : List Int} (hb : Bytes body) (hl : body.length = 56) (t : Int) : leafE (leafOf body t) 7 = body := by
  unfold leafE
  have e : (List.range 7).flatMap (fun i => seatE (seat (leafOf body t) i)) = (List.range 7).flatMap (fieldAt body 8) := flat_congr fun i hi => by rw [seat_of body t hi, seatE_of hb hl t hi]
  rw [e, field_flat 7 (by omega), List.take_of_length_le (by omega)]
theorem liveT_of (body : List Int) {t : Int} (ht : 0 ≤ t ∧ t ≤ 255) : liveT (leafOf body t) 7 = t.toNat % 128 := by
  have := tag_all ⟨t.toNat, by omega⟩
  rw [← this]
  exact tagN_congr fun i hi => by rw [seat_of body t hi]; rfl
theorem leafOf_E {l : S_api_Leaf} (h : leafOk l) : leafOf (leafE l 7) ((liveT l 7 : Nat) : Int) = l := by
  apply leaf_ext
  intro i hi
  rw [seat_of _ _ hi]
  have hf : fieldAt (leafE l 7) 8 i = seatE (seat l i) := by
    have := flat_field (g := fun i => seatE (seat l i)) (fun i => seatE_len _) hi []
    rwa [List.append_nil] at this
  obtain ⟨⟨g0, g1⟩, ⟨n0, n1⟩⟩ := seatB_nums (h i hi)
  unfold seatAt
  rw [hf, Int.toNat_natCast]
  have hb := tag_bit (fun i => (seat l i).Live) (n := 7) hi
  have e1 : decide (liveT l 7 / 2 ^ i % 2 = 1) = (seat l i).Live := by
    unfold liveT
    rw [hb]
    cases (seat l i).Live <;> rfl
  have e2 : (seatE (seat l i)).take 4 = lay (u64n (seat l i).Gen) 4 := List.take_left' (lay_len _ _)
  have e3 : (seatE (seat l i)).drop 4 = lay (u64n (seat l i).Next) 4 := List.drop_left' (lay_len _ _)
  rw [e1, e2, e3, num_lay, num_lay, u64n_of g0 (by omega), u64n_of n0 (by omega)]
  have p : (256 : Nat) ^ 4 = 4294967296 := by decide
  rw [p, Nat.mod_eq_of_lt (by omega), Nat.mod_eq_of_lt (by omega), Int.toNat_of_nonneg g0, Int.toNat_of_nonneg n0]
def GetL (b : List Int) : Prop := Is b ∧ ix b 4 = 2 ∧ ix b 5 < 128 ∧ leafOk (leafOf (b.drop 8) (ix b 5))
instance (b : List Int) : Decidable (GetL b) := inferInstanceAs (Decidable (_ ∧ _))
theorem cut_lo (l : List Int) (n : Nat) : cut l 0 (n : Int) = l.take n := by
  unfold cut
  simp
theorem cut_hi (l : List Int) (n : Nat) : cut l (n : Int) (l.length : Int) = l.drop n := by
  unfold cut
  rw [Int.toNat_natCast, Int.toNat_natCast, List.take_length]
theorem getLeaf_eq {fu : Nat} {b : List Int} (hb : Bytes b) (hl : b.length ≤ 9000000000000000000) (hf : 100 < fu) : page_GetLeaf.f fu b = some (if GetL b then (leafOf (b.drop 8) (ix b 5), true) else (noL, false)) := by
  unfold page_GetLeaf.f
  rw [open_eq hb hl hf]
  by_cases hi : Is b
  · have h8 := is_body hi
    obtain ⟨b4, b5⟩ := is_tag hb hi
    rw [if_pos hi]
    simp only [Option.bind_some, Bool.not_true, Bool.false_eq_true, if_false]
    by_cases h4 : ix b 4 = 2
    · by_cases h5 : ix b 5 < 128
      · have h5' : ¬ ix b 5 ≥ 128 := by omega
        have hs : ∀ j : Nat, j < 7 → page_GetLeaf.s0 fu (2, ix b 5, b.drop 8, true) ((j : Int), ⟨fillA (seatAt (b.drop 8) (ix b 5)) (Arr.rep 7 noS) j⟩) = some (if seatB (seatAt (b.drop 8) (ix b 5) j) = true then .inr (((j + 1 : Nat) : Int), ⟨fillA (seatAt (b.drop 8) (ix b 5)) (Arr.rep 7 noS) (j + 1)⟩) else .inl (.inl (noL, false))) := by
          intro j hj
          unfold page_GetLeaf.s0
          have h1 : (j : Int) < 7 := by omega
          have w3 : IntKind.i64.wrap ((j : Int) + 1) = ((j + 1 : Nat) : Int) := by rw [w64 (by omega) (by omega)]; omega
          have w4 : IntKind.i64.wrap (8 * (j : Int)) = ((8 * j : Nat) : Int) := by rw [w64 (by omega) (by omega)]; omega
          have w5 : IntKind.i64.wrap (8 * ((j + 1 : Nat) : Int)) = ((8 * j + 8 : Nat) : Int) := by rw [w64 (by omega) (by omega)]; omega
          have hfl := fieldAt_len (l := b.drop 8) (w := 8) (n := 7) (by omega) hj
          have hfb := fieldAt_bytes (hb.drop 8) 8 j
          obtain ⟨⟨a1, a2⟩, ⟨d1, d2⟩⟩ := half_bytes hfb hfl
          have ec : cut (b.drop 8) ((8 * j : Nat) : Int) ((8 * j + 8 : Nat) : Int) = fieldAt (b.drop 8) 8 j := cut_eq _ _ _
          have e0 : cut (fieldAt (b.drop 8) 8 j) 0 4 = (fieldAt (b.drop 8) 8 j).take 4 := cut_lo _ 4
          have e4 : cut (fieldAt (b.drop 8) 8 j) 4 ((fieldAt (b.drop 8) 8 j).length : Int) = (fieldAt (b.drop 8) 8 j).drop 4 := cut_hi _ 4
          have hr1 : octet_Read.f fu ((fieldAt (b.drop 8) 8 j).take 4) = some ((num ((fieldAt (b.drop 8) 8 j).take 4) : Nat) : Int) := read_eq a2 (by omega) (by omega)
          have hr2 : octet_Read.f fu ((fieldAt (b.drop 8) 8 j).drop 4) = some ((num ((fieldAt (b.drop 8) 8 j).drop 4) : Nat) : Int) := read_eq d2 (by omega) (by omega)
          have w6 := num_small a2 (by omega)
          have w7 := num_small d2 (by omega)
          have c0 : 0 ≤ (j : Int) := by omega
          have c8 : (4 : Int) ≤ ((fieldAt (b.drop 8) 8 j).length : Int) := by rw [hfl]; decide
          have cB : (0 : Int) ≤ ((8 * j : Nat) : Int) ∧ ((8 * j : Nat) : Int) ≤ ((8 * j + 8 : Nat) : Int) ∧ ((8 * j + 8 : Nat) : Int) ≤ ((b.drop 8).length : Int) := by omega
          have ht := (bit_tab ⟨(ix b 5).toNat, by omega⟩ ⟨j, hj⟩).1
          simp only [Int.toNat_of_nonneg b5.1] at ht
          have ex : (⟨decide ((bAnd .i64 (shR .i64 (ix b 5) (j : Int)) 1) = 1), ((num ((fieldAt (b.drop 8) 8 j).take 4) : Nat) : Int), ((num ((fieldAt (b.drop 8) 8 j).drop 4) : Nat) : Int)⟩ : S_api_Seat) = seatAt (b.drop 8) (ix b 5) j := by rw [ht]; rfl
          simp only [h1, decide_true, if_true, w3, w4, w5, ec]
          rw [if_pos cB, if_pos c0, if_pos c8, e0, hr1, Option.bind_some, if_pos c8, e4, hr2, Option.bind_some, w6, w7, ex, rightSeat_eq, Option.bind_some]
          cases hq : seatB (seatAt (b.drop 8) (ix b 5) j)
          · rfl
          · simp only [Bool.not_true, Bool.false_eq_true, if_false, if_true]
            rw [if_pos ⟨by omega, trivial⟩]
            rfl
        have h0 : page_GetLeaf.s0 fu (2, ix b 5, b.drop 8, true) = page_GetLeaf.s0 fu (ix b 4, ix b 5, b.drop 8, true) := by rw [h4]
        by_cases hk : leafOk (leafOf (b.drop 8) (ix b 5))
        · have hg : GetL b := ⟨hi, h4, h5, hk⟩
          have : loopM (page_GetLeaf.s0 fu (ix b 4, ix b 5, b.drop 8, true)) fu (0, (⟨Arr.rep 7 (⟨false, 0, 0⟩ : S_api_Seat)⟩ : S_api_Leaf)) = some (.inr (leafOf (b.drop 8) (ix b 5))) := by
            rw [← h0]
            refine loopM_run (S := fun j => ((j : Int), (⟨fillA (seatAt (b.drop 8) (ix b 5)) (Arr.rep 7 noS) j⟩ : S_api_Leaf))) 7 rfl (fun j hj => ?_) ?_ (by omega)
            · have := hk j hj
              rw [seat_of _ _ hj] at this
              rw [hs j hj, if_pos this]
            · unfold page_GetLeaf.s0
              simp [leafOf]
          rw [if_pos hg, this]
          simp [h4, h5']
        · have hg : ¬ GetL b := fun x => hk x.2.2.2
          have : loopM (page_GetLeaf.s0 fu (ix b 4, ix b 5, b.drop 8, true)) fu (0, (⟨Arr.rep 7 (⟨false, 0, 0⟩ : S_api_Seat)⟩ : S_api_Leaf)) = some (.inl (noL, false)) := by
            rw [← h0]
            refine loopM_bad (S := fun j => ((j : Int), (⟨fillA (seatAt (b.drop 8) (ix b 5)) (Arr.rep 7 noS) j⟩ : S_api_Leaf))) 7 (fun j => seatB (seatAt (b.drop 8) (ix b 5) j) = true) rfl ?_ (fun j hj _ hg => by rw [hs j hj, if_pos hg]) (fun j hj _ hg => by rw [hs j hj, if_neg hg]) (by omega)
            apply Classical.byContradiction
            intro hx
            refine hk fun i hi => ?_
            rw [seat_of _ _ hi]
            exact Classical.byContradiction fun hg => hx ⟨i, hi, hg⟩
          rw [if_neg hg, this]
          simp [h4, h5', noL]
      · have h5' : ix b 5 ≥ 128 := by omega
        have hg : ¬ GetL b := fun x => h5 x.2.2.1
        rw [if_neg hg]
        simp [h4, h5', noL, noS]
    · have hg : ¬ GetL b := fun x => h4 x.2.1
      rw [if_neg hg]
      simp [h4, noL, noS]
  · have hg : ¬ GetL b := fun x => hi x.1
    rw [if_neg hi, if_neg hg]
    rfl
theorem rgetLeaf_eq {fu : Nat} {b : List Int} (hb : Bytes b) (hf : 100 < fu) : rickyardref09_GetLeaf.f fu b = some (if GetL b then (leafOf (b.drop 8) (ix b 5), true) else (noL, false)) := by
  unfold rickyardref09_GetLeaf.f
  rw [ropen_eq hb hf]
  by_cases hi : Is b
  · have h8 := is_body hi
    obtain ⟨b4, b5⟩ := is_tag hb hi
    rw [if_pos hi]
    simp only [Option.bind_some, Bool.not_true, Bool.false_eq_true, if_false]
    by_cases h4 : ix b 4 = 2
    · have hloop : loopM (rickyardref09_GetLeaf.s0 fu (ix b 4, ix b 5, (b.drop 8).map toB, true)) fu (0, (⟨Arr.rep 7 (⟨false, 0, 0⟩ : S_api_Seat)⟩ : S_api_Leaf)) = some (leafOf (b.drop 8) (ix b 5)) := by
        refine loopM_run (S := fun j => ((j : Int), (⟨fillA (seatAt (b.drop 8) (ix b 5)) (Arr.rep 7 noS) j⟩ : S_api_Leaf))) 7 rfl ?_ ?_ (by omega)
        · intro j hj
          unfold rickyardref09_GetLeaf.s0
          have h1 : (j : Int) < 7 := by omega
          have w3 : IntKind.i64.wrap ((j : Int) + 1) = ((j + 1 : Nat) : Int) := by rw [w64 (by omega) (by omega)]; omega
          have w4 : IntKind.i64.wrap (8 * (j : Int)) = ((8 * j : Nat) : Int) := by rw [w64 (by omega) (by omega)]; omega
          have w5 : IntKind.i64.wrap (((8 * j : Nat) : Int) + 4) = ((8 * j + 4 : Nat) : Int) := by rw [w64 (by omega) (by omega)]; omega
          have w6 : IntKind.i64.wrap (((8 * j : Nat) : Int) + 8) = ((8 * j + 4 + 4 : Nat) : Int) := by rw [w64 (by omega) (by omega)]; omega
          have hfl := fieldAt_len (l := b.drop 8) (w := 8) (n := 7) (by omega) hj
          have hfb := fieldAt_bytes (hb.drop 8) 8 j
          obtain ⟨⟨a1, a2⟩, ⟨d1, d2⟩⟩ := half_bytes hfb hfl
          have f1 : ((b.drop 8).drop (8 * j)).take 4 = (fieldAt (b.drop 8) 8 j).take 4 := by
            unfold fieldAt
            rw [List.take_take]
            rfl
          have f2' : ∀ body : List Int, (body.drop (8 * j + 4)).take 4 = ((body.drop (8 * j)).take 8).drop 4 := by
            intro body
            rw [List.drop_take, List.drop_drop]
          have f2 : ((b.drop 8).drop (8 * j + 4)).take 4 = (fieldAt (b.drop 8) 8 j).drop 4 := f2' _
          have hr1 : rickyardref01_Int.f fu (cut ((b.drop 8).map toB) ((8 * j : Nat) : Int) ((8 * j + 4 : Nat) : Int)) = some ((num ((fieldAt (b.drop 8) 8 j).take 4) : Nat) : Int) := by
            rw [map_drop_take, f1, rint_eq a2 (by omega) (by omega), num_small a2 (by omega)]
          have hr2 : rickyardref01_Int.f fu (cut ((b.drop 8).map toB) ((8 * j + 4 : Nat) : Int) ((8 * j + 4 + 4 : Nat) : Int)) = some ((num ((fieldAt (b.drop 8) 8 j).drop 4) : Nat) : Int) := by
            rw [map_drop_take, f2, rint_eq d2 (by omega) (by omega), num_small d2 (by omega)]
          have hbt := (bit_tab ⟨(ix b 5).toNat, by omega⟩ ⟨j, hj⟩).2
          simp only [Int.toNat_of_nonneg b5.1] at hbt
          have c0 : 0 ≤ (j : Int) := by omega
          have cA : (0 : Int) ≤ ((8 * j : Nat) : Int) ∧ ((8 * j : Nat) : Int) ≤ ((8 * j + 4 : Nat) : Int) ∧ ((8 * j + 4 : Nat) : Int) ≤ (((b.drop 8).map toB).length : Int) := by rw [List.length_map]; omega
          have cB : (0 : Int) ≤ ((8 * j + 4 : Nat) : Int) ∧ ((8 * j + 4 : Nat) : Int) ≤ ((8 * j + 4 + 4 : Nat) : Int) ∧ ((8 * j + 4 + 4 : Nat) : Int) ≤ (((b.drop 8).map toB).length : Int) := by rw [List.length_map]; omega
          simp only [h1, decide_true, if_true, w3, w4, w5, w6]
          rw [if_pos c0, if_pos hbt.1, if_pos cA, hr1, Option.bind_some, if_pos cB, hr2, Option.bind_some, if_pos ⟨by omega, trivial⟩, hbt.2]
          rfl
        · unfold rickyardref09_GetLeaf.s0
          simp [leafOf]
      have hbb := leafE_bytes (leafOf (b.drop 8) (ix b 5)) 7
      have hbl := leafE_len (leafOf (b.drop 8) (ix b 5)) 7
      have hT := liveT_of (b.drop 8) b5
      have hq := sealed_map_iff hb hi (k := 2) (t := ((liveT (leafOf (b.drop 8) (ix b 5)) 7 : Nat) : Int)) (by omega) (by omega) hbb (by omega)
      rw [hbl, leafE_of (hb.drop 8) h8] at hq
      rw [hloop]
      simp only [Option.bind_some, rleaf_eq hf]
      by_cases hk : leafOk (leafOf (b.drop 8) (ix b 5))
      · simp only [hk, if_true, Bool.not_true, Bool.false_eq_true, if_false, leafE_of (hb.drop 8) h8]
        by_cases hg : GetL b
        · have h5 := hg.2.2.1
          rw [if_pos hg, decide_eq_true h4, decide_eq_true (hq.2 ⟨h4.symm, by rw [hT]; omega, by simp⟩)]
          rfl
        · rw [if_neg hg, decide_eq_true h4, decide_eq_false (fun x => hg ⟨hi, h4, by have := (hq.1 x).2.1; rw [hT] at this; omega, hk⟩)]
          rfl
      · have hg : ¬ GetL b := fun x => hk x.2.2.2
        rw [if_neg hg]
        simp [hk, noL, noS, h4]
    · have hg : ¬ GetL b := fun x => h4 x.2.1
      rw [if_neg hg]
      simp [h4, noL, noS]
  · have hg : ¬ GetL b := fun x => hi x.1
    rw [if_neg hi, if_neg hg]
    rfl
theorem getLeaf_put {fu : Nat} {l : S_api_Leaf} (h : leafOk l) (hf : 100 < fu) : page_GetLeaf.f fu (sealed (summed 2 ((liveT l 7 : Nat) : Int) (leafE l 7))) = some (l, true) := by
  have hl : (leafE l 7).length = 56 := leafE_len l 7
  have ht := liveT_lt l
  obtain ⟨p4, p5, p8⟩ := sealed_parts 2 ((liveT l 7 : Nat) : Int) (leafE l 7)
  have hsl := sealed_len (summed_len (k := 2) (t := ((liveT l 7 : Nat) : Int)) (body := leafE l 7) (by omega))
  rw [hl, Nat.sub_self, List.replicate_zero, List.append_nil] at p8
  have hg : GetL (sealed (summed 2 ((liveT l 7 : Nat) : Int) (leafE l 7))) := by
    refine ⟨is_sealed (by decide) (by omega), p4, by rw [p5]; omega, ?_⟩
    rw [p8, p5, leafOf_E h]
    exact h
  rw [getLeaf_eq (sealed_bytes (summed_bytes (by omega) (by omega) (leafE_bytes l 7))) (by omega) hf, if_pos hg, p8, p5, leafOf_E h]
/-! ### How many are live -/
def cntN (g : Nat → Bool) : Nat → Nat
  | 0 => 0
  | j + 1 => cntN g j + (if g j then 1 else 0)
theorem cntN_le (g : Nat → Bool) : ∀ j, cntN g j ≤ j
  | 0 => Nat.le_refl _
  | j + 1 => by
    have := cntN_le g j
    unfold cntN
    split <;> omega
theorem lives_eq {fu : Nat} {l : S_api_Leaf} (hf : 100 < fu) : page_Lives.f fu l = some ((cntN (fun i => (seat l i).Live) 7 : Nat) : Int) := by
  unfold page_Lives.f
  have : loopM (page_Lives.s0 fu l) fu (0, 0) = some ((cntN (fun i => (seat l i).Live) 7 : Nat) : Int) := by
    refine loopM_run (S := fun j => (((cntN (fun i => (seat l i).Live) j : Nat) : Int), (j : Int))) 7 rfl ?_ ?_ (by omega)
    · intro j hj
      unfold page_Lives.s0
      have h1 : (j : Int) < 7 := by omega
      have hc := cntN_le (fun i => (seat l i).Live) j
      have w3 : IntKind.i64.wrap ((j : Int) + 1) = ((j + 1 : Nat) : Int) := by rw [w64 (by omega) (by omega)]; omega
      have w4 : IntKind.i64.wrap (((cntN (fun i => (seat l i).Live) j : Nat) : Int) + 1) = ((cntN (fun i => (seat l i).Live) j + 1 : Nat) : Int) := by rw [w64 (by omega) (by omega)]; omega
      have hk : Arr.get l.Seats (j : Int) = seat l j := rfl
      simp only [h1, decide_true, if_true, hk, w3, w4]
      rw [if_pos ⟨by omega, trivial⟩]
      cases hL : (seat l j).Live <;> simp [cntN, hL]
    · unfold page_Lives.s0
      simp
  rw [this]
  rfl
theorem empty_eq (fu : Nat) (f : S_api_Fan) : page_Empty.f fu f = some (decide (f = noF)) := by
  unfold page_Empty.f noF
  congr 1
  apply decide_eq_decide.2
  cases f
  simp
theorem noF_ok : fanOk noF := by decide
theorem ex_ok : leafOk ⟨Arr.set (Arr.rep 7 (⟨false, 0, 0⟩ : S_api_Seat)) 2 (⟨true, 1, 5⟩ : S_api_Seat)⟩ := by decide
theorem awake09 {fu : Nat} (hf : 100 < fu) : rickyardlaw09_awake.f fu = some true := by
  unfold rickyardlaw09_awake.f
  have h1 := putLeaf_eq (fu := fu) (l := ⟨Arr.set (Arr.rep 7 (⟨false, 0, 0⟩ : S_api_Seat)) 2 (⟨true, 1, 5⟩ : S_api_Seat)⟩) hf
  have h2 := getLeaf_put (fu := fu) ex_ok hf
  rw [if_pos ex_ok] at h1
  have h3 := putFan_eq (fu := fu) (f := noF) hf
  rw [if_pos noF_ok] at h3
  have h4 := lives_eq (fu := fu) (l := ⟨Arr.set (Arr.rep 7 (⟨false, 0, 0⟩ : S_api_Seat)) 2 (⟨true, 1, 5⟩ : S_api_Seat)⟩) hf
  have e4 : cntN (fun i => (seat ⟨Arr.set (Arr.rep 7 (⟨false, 0, 0⟩ : S_api_Seat)) 2 (⟨true, 1, 5⟩ : S_api_Seat)⟩ i).Live) 7 = 1 := by decide
  rw [e4] at h4
  have h5 := empty_eq fu noF
  have l1 := sealed_len (summed_len (k := 2) (t := ((liveT ⟨Arr.set (Arr.rep 7 (⟨false, 0, 0⟩ : S_api_Seat)) 2 (⟨true, 1, 5⟩ : S_api_Seat)⟩ 7 : Nat) : Int)) (body := leafE ⟨Arr.set (Arr.rep 7 (⟨false, 0, 0⟩ : S_api_Seat)) 2 (⟨true, 1, 5⟩ : S_api_Seat)⟩ 7) (by rw [leafE_len]; decide))
  have l2 := sealed_len (summed_len (k := 3) (t := 0) (body := fanB noF 16) (by rw [fanB_len]; decide))
  unfold noF at h3 h5 l2
  rw [h1]
  simp only [Option.bind_some, h2, h3, h4, h5, l1, l2]
  simp
end Go.Proofs.Ytjhajfkfhdnciaa.Pure

/- The pure statement of PageLeaves. -/
set_option linter.unusedVariables false
set_option linter.unusedSimpArgs false
namespace Go.Proofs.Ytjhajfkfhdnciaa.Pure
open Go Go.Xw
theorem leaves_loop {fu : Nat} {l : S_api_Leaf} (hf : 100 < fu) : loopM (rickyardlaw09_PageLeaves.s0 fu l) fu (0, 0) = some (.inr ((cntN (fun i => (seat l i).Live) 7 : Nat) : Int)) := by
  refine loopM_run (S := fun j => (((cntN (fun i => (seat l i).Live) j : Nat) : Int), (j : Int))) 7 rfl ?_ ?_ (by omega)
  · intro j hj
    unfold rickyardlaw09_PageLeaves.s0
    have h1 : (j : Int) < 7 := by omega
    have hc := cntN_le (fun i => (seat l i).Live) j
    have w3 : IntKind.i64.wrap ((j : Int) + 1) = ((j + 1 : Nat) : Int) := by rw [w64 (by omega) (by omega)]; omega
    have w4 : IntKind.i64.wrap (((cntN (fun i => (seat l i).Live) j : Nat) : Int) + 1) = ((cntN (fun i => (seat l i).Live) j + 1 : Nat) : Int) := by rw [w64 (by omega) (by omega)]; omega
    have hk : Arr.get l.Seats (j : Int) = seat l j := rfl
    have c0 : 0 ≤ (j : Int) ∧ True := ⟨by omega, trivial⟩
    simp only [h1, decide_true, if_true, hk, w3, w4, rightSeat_eq, rseat_eq, Option.bind_some, if_pos c0]
    cases hL : (seat l j).Live <;> simp [cntN, hL]
  · unfold rickyardlaw09_PageLeaves.s0
    simp
theorem PageLeaves : ∀ (a0 : S_api_Leaf), ok_api_Leaf a0 → ∃ fu, rickyardlaw09_PageLeaves.f fu a0 = some true := by
  intro l hl
  refine ⟨400, ?_⟩
  unfold rickyardlaw09_PageLeaves.f
  rw [awake09 (by decide), leaves_loop (by decide), putLeaf_eq (by decide), rleaf_eq (by decide)]
  have hc := lives_eq (fu := 400) (l := l) (by decide)
  by_cases h : leafOk l
  · have hg := getLeaf_put (fu := 400) h (by decide)
    simp only [h, if_true, Option.bind_some, hg, hc]
    simp
  · have hg : page_GetLeaf.f 400 [] = some (noL, false) := by
      rw [getLeaf_eq (by intro x hx; simp at hx) (by simp) (by decide), if_neg]
      intro x
      have := x.1.1
      simp at this
    simp only [h, if_false, Option.bind_some, hg, hc]
    simp
end Go.Proofs.Ytjhajfkfhdnciaa.Pure

/- The law PageLeaves holds for every input: the row, out of the walk of the law's function and of its pure statement. Written by rows.py. -/
namespace Go.Proofs.Ytjhajfkfhdnciaa.pageLeaves
open Go.ChangeShapes Go.WideShapes Go.ChangeAt Go.RowKit
open Go.ChangeMaps (open_string shut_string)
open Go Go.Xw
set_option linter.unusedVariables false
theorem own : ownKnob Try.prog.godebug = none := Facts.own
theorem laidOut : laidOutB Try.prog = true := Facts.laid
theorem closed : joinedFacts Try.pinned.checked.prog 11 Try.f11 Rows.pageLeavesSpec Rows.pageLeavesRow = true := by
  unfold joinedFacts
  rw [Facts.enter, Facts.lifts, Facts.make, Facts.laid, Facts.rowed, Facts.plain, Facts.heard]
  kernel_rfl
theorem enc_seg {α : Type} (K : Kd α) (a : α) : K.enc a = cellsOf [Kd.seg K a] := by simp [cellsOf, Kd.seg]
def start : Input := ⟨#[], #[.agg #[.bool false, .int .i64 0, .int .i64 0, .bool false, .int .i64 0, .int .i64 0, .bool false, .int .i64 0, .int .i64 0, .bool false, .int .i64 0, .int .i64 0, .bool false, .int .i64 0, .int .i64 0, .bool false, .int .i64 0, .int .i64 0, .bool false, .int .i64 0, .int .i64 0]], []⟩
set_option maxRecDepth 100000 in
set_option maxHeartbeats 1000000 in
theorem lifted (os : Os) (started : os.Started) (H : Type) (enc : TypeId × Value → H) :
    ReturnsInHanded {} Try.checked os 11 .any (Rows.pageLeavesSpec.pre6 enc Try.prog Try.f11 Rows.pageLeavesRow.domain false) (Rows.pageLeavesSpec.post enc Try.prog Try.f11 false true false false) := by
  refine returnsInHanded_of_change_sized (C := Try.checked) own started (by kernel_rfl) Try.func11
    (ChangeSpec.witness6 (enc := enc) (C := Try.checked) false start 8 (by kernel_rfl) (by kernel_rfl) (by kernel_rfl) (by kernel_rfl)) ?_
  intro W base args ds gs before hval0 hW hcnd hsz0 _
  have hval : ∀ (j : Nat) t v, Try.f11.params[j]? = some t → args[j]? = some v → Value.okWide Try.prog W .any base t v := hval0
  have hW' := hW
  obtain ⟨p, q, hA0, hV, rfl, hfz, hnd⟩ := hW
  have hA : DataW.TrodAll enc Try.prog W 0 (fun _ => true) true Try.f11.params.toList args.toList ds p := hA0
  rw [Try.params11] at hA hval
  obtain ⟨v0, vs0, d0, ds0, p0, q0, hargs, rfl, rfl, h0, r0⟩ := trodAll_cons hA
  obtain ⟨rfl, rfl, rfl⟩ := trodAll_nil r0
  obtain rfl : args = #[v0] := by cases args; simp_all
  obtain ⟨rfl, rfl⟩ := trodVars_none hV
  have k0 := h0
  have lt0 : ∀ x ∈ p0, x.block < W.heap.size := by obtain ⟨m, hm⟩ := k0; exact DataW.trod_lt m _ _ _ hm
  obtain ⟨fu0, hf0⟩ := h0
  obtain ⟨a0, e0, o0⟩ := (opn_api_Leaf (w := W)) enc _ _ _ _ _ _ hf0
  obtain rfl := agg_of (by kernel_rfl) (hval 0 61 v0 rfl rfl) e0
  obtain ⟨fu, hfu⟩ := Pure.PageLeaves a0 o0
  refine Calls.mono (rickyardlaw09_PageLeaves.ok fu W a0 true hfu) fun e W' hr => ?_
  obtain ⟨v, rfl, rfl, gr⟩ := hr
  have bel := Fr.below gr
  exact ⟨_, rfl, _, _, _, [], _, [], hW', trodAll_mk1 (shut_bool Try.underlying4 _), (trodAll_cons_mk (Below.trod laidOut (by kernel_rfl) (of_decide_eq_true (by kernel_rfl)) k0 bel lt0) trodAll_mk0), rfl, bel.frame _, fun h => by cases h⟩
theorem over : Rows.pageLeavesRow.holds Try.pinned (OpenSpec.ofChange Rows.pageLeavesSpec) :=
  OpenClaim.holds_of_wide 11 Try.f11 rfl rfl rfl rfl rfl rfl rfl ⟨rfl, rfl, rfl, rfl, rfl⟩ rfl rfl rfl rfl rfl (by kernel_rfl) Try.func11 closed
    (of_decide_eq_true (by kernel_rfl)) (by unfold Func.isWrapper; first | (rw [if_pos (by decide +kernel)]; kernel_rfl) | (rw [if_neg (by decide +kernel)]; exact ⟨rfl, rfl⟩))
    (fun os started H enc _ => lifted os started H enc)
theorem proved : Rows.PageLeavesSaid := over
end Go.Proofs.Ytjhajfkfhdnciaa.pageLeaves
namespace Go.Proofs.Ytjhajfkfhdnciaa
/-- The law holds. -/
theorem pageLeaves_holds : Rows.PageLeavesSaid := pageLeaves.proved
#print axioms pageLeaves_holds
end Go.Proofs.Ytjhajfkfhdnciaa
