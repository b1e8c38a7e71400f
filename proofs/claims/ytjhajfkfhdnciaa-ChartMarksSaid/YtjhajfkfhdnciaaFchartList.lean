/- rickyard/chart.List: its model, and that the Go function computes it: written by gen.py. -/
import Derived.Test.YtjhajfkfhdnciaaBase
import Derived.Test.YtjhajfkfhdnciaaFchartHas
set_option linter.unusedVariables false
namespace Go.Proofs.Ytjhajfkfhdnciaa
open Go Go.Xw
def chart_List.s0 (fu : Nat) (a0 : S_api_Chart) : ((List Int) × Int) → Option (Sum (List Int) ((List Int) × Int)) := fun s10 => (if (decide (s10.2 < 384)) = true then ((chart_Has.f fu a0 (IntKind.i64.wrap ((IntKind.i64.wrap (a0.Place * 384)) + s10.2)) : Option Bool).bind fun t24 => (((if t24 = true then (if List.length s10.1 + List.length [(IntKind.i64.wrap ((IntKind.i64.wrap (a0.Place * 384)) + s10.2))] ≤ LIM then some ((s10.1 ++ [(IntKind.i64.wrap ((IntKind.i64.wrap (a0.Place * 384)) + s10.2))])) else none) else some (s10.1)) : Option (List Int)).bind fun x28 => some (Sum.inr (x28, (IntKind.i64.wrap (s10.2 + 1)))))) else some (Sum.inl (s10.1)))
def chart_List.f (fu : Nat) (a0 : S_api_Chart) : Option (List Int) := ((loopM (chart_List.s0 fu a0) fu ([], 0)).bind fun e11 => some (e11))
set_option maxRecDepth 100000 in
set_option maxHeartbeats 400000 in
theorem chart_List.ok (fu : Nat) (w : World) (a0 : S_api_Chart) (r : (List Int)) (h : chart_List.f fu a0 = some r) :
    Calls Try.prog 67 (([aggV [Seg.cell (.int .i64 a0.Place), Kd.seg (kA 48 (kI .u8)) a0.Bits]] : List Value).toArray) w (fun e w' => ∃ v, e = .returned v ∧ ∃ u1 : Value, ∃ o2 : Own (kI .i64) 3 w' w.heap.size u1 r, v = u1 ∧ Gr w w') := by
  unfold chart_List.f at h
  have fB : Gr w w := Fr.refl _ _
  refine calls_cw Try.func67 rfl Try.ntmps67 rfl ?_
  refine cw_seq ?_
  refine cw_region ?_
  refine ol_op (by exact opv_box (ss := [Seg.cell (.int .i64 a0.Place), Kd.seg (kA 48 (kI .u8)) a0.Bits]) rfl rfl rfl) rfl rfl rfl ?_
  rintro _ w9 ⟨G4, rfl, b5, q6, z7⟩
  have z7 := Nat.le_trans fB.size z7
  have fB := fB.gr q6
  refine ol_val (v := .slice none 0 0) (by exact xr_assign rfl rfl) rfl rfl rfl ?_
  refine ol_nil ?_
  refine cw_seq ?_
  refine cw_region ?_
  refine ol_val (v := .slice none 0 0) (by exact xr_assign rfl rfl) rfl rfl rfl ?_
  refine ol_nil ?_
  refine cw_seq ?_
  refine cw_seq ?_
  refine cw_region ?_
  refine ol_val (v := .int .i64 0) (by exact xr_move rfl rfl) rfl rfl rfl ?_
  refine ol_nil ?_
  obtain ⟨e11, l12, h13⟩ := bs h
  refine cw_mid (fun ρ' w' => ∃ v14 : Value, ∃ o15 : Own (kI .i64) 3 w' w.heap.size v14 e11, ρ' 3 = v14 ∧ Gr w w') ?_ ?_
  · refine cw_block ?_
    refine cw_round (fun (s10 : (List Int) × Int) ρ' w' => ∃ v17 : Value, ∃ o18 : Own (kI .i64) 3 w' w.heap.size v17 s10.1, ρ' 1 = .pointer (some ⟨G4, 0, none⟩) ∧ ρ' 3 = v17 ∧ ρ' 6 = .int .i64 s10.2 ∧ Blk w' G4 81 [Seg.cell (.int .i64 a0.Place), Kd.seg (kA 48 (kI .u8)) a0.Bits] ∧ Gr w w') l12 ?_ ?_
    · skip
      exact ⟨(.slice none 0 0), Own.nil _ _ _ _, rfl, rfl, rfl, b5, fB⟩
    · rintro s10 x22 ρ20 w21 ⟨v17, o18, e1, e3, e6, b5, fB⟩ h
      unfold chart_List.s0 at h
      refine cw_seq ?_
      refine cw_region ?_
      refine ol_val (v := .bool (decide (s10.2 < 384))) (by exact xr_lss rfl e6 rfl) rfl rfl rfl ?_
      refine ol_nil ?_
      refine cw_seq ?_
      rcases is h with ⟨c23, h⟩ | ⟨c23, h⟩
      · refine cw_condT rfl c23 ?_
        refine cw_skip ?_
        refine cw_seq ?_
        refine cw_block ?_
        refine cw_seq ?_
        refine cw_region ?_
        refine ol_val (v := .int .i64 s10.2) (by exact xr_move rfl e6) rfl rfl rfl ?_
        refine ol_val (v := .int .i64 s10.2) (by exact xr_assign rfl rfl) rfl rfl rfl ?_
        refine ol_nil ?_
        refine cw_seq ?_
        refine cw_region ?_
        refine ol_val (v := .pointer (some ⟨G4, 0, none⟩)) (by exact xr_fieldAddr (p := 0) (q := 0) rfl fl81_0 e1) rfl rfl rfl ?_
        refine ol_val (v := .int .i64 a0.Place) (by exact xr_load1 (v := .int .i64 a0.Place) rfl ag3 rfl (b5.seg 0 rfl rfl)) rfl rfl rfl ?_
        refine ol_val (v := .int .i64 (IntKind.i64.wrap (a0.Place * 384))) (by exact xr_mul rfl rfl rfl) rfl rfl rfl ?_
        refine ol_val (v := .int .i64 s10.2) (by exact xr_move rfl rfl) rfl rfl rfl ?_
        refine ol_val (v := .int .i64 (IntKind.i64.wrap ((IntKind.i64.wrap (a0.Place * 384)) + s10.2))) (by exact xr_add rfl rfl rfl) rfl rfl rfl ?_
        refine ol_val (v := .int .i64 (IntKind.i64.wrap ((IntKind.i64.wrap (a0.Place * 384)) + s10.2))) (by exact xr_assign rfl rfl) rfl rfl rfl ?_
        refine ol_nil ?_
        refine cw_seq ?_
        refine cw_region ?_
        refine ol_val (v := aggV [Seg.cell (.int .i64 a0.Place), Kd.seg (kA 48 (kI .u8)) a0.Bits]) (by exact xr_loadS (ss := [Seg.cell (.int .i64 a0.Place), Kd.seg (kA 48 (kI .u8)) a0.Bits]) rfl ag81 sz81 rfl e1 (b5.segs 0 2 rfl)) rfl rfl rfl ?_
        refine ol_val (v := .int .i64 (IntKind.i64.wrap ((IntKind.i64.wrap (a0.Place * 384)) + s10.2))) (by exact xr_move rfl rfl) rfl rfl rfl ?_
        obtain ⟨t24, k25, h⟩ := bs h
        refine ol_op (by exact opv_call rfl cal65 (ac rfl (ac rfl an)) (chart_Has.ok fu _ a0 (IntKind.i64.wrap ((IntKind.i64.wrap (a0.Place * 384)) + s10.2)) _ k25)) rfl rfl rfl ?_
        rintro _ w27 ⟨rfl, q26⟩
        have b5 := b5.gr q26
        have o18 := o18.gr q26
        have fB := fB.gr q26
        refine ol_nil ?_
        obtain ⟨x28, j29, h30⟩ := bs h
        refine cw_mid (fun ρ' w' => ∃ v31 : Value, ∃ o32 : Own (kI .i64) 3 w' w.heap.size v31 x28, ρ' 1 = .pointer (some ⟨G4, 0, none⟩) ∧ ρ' 3 = v31 ∧ ρ' 6 = .int .i64 s10.2 ∧ Blk w' G4 81 [Seg.cell (.int .i64 a0.Place), Kd.seg (kA 48 (kI .u8)) a0.Bits] ∧ Gr w w') ?_ ?_
        · have h := j29
          rcases is h with ⟨c34, h⟩ | ⟨c34, h⟩
          · refine cw_condT rfl c34 ?_
            refine cw_region ?_
            refine ol_val (v := v17) (by exact xr_move rfl e3) rfl rfl rfl ?_
            refine ol_val (v := .int .i64 (IntKind.i64.wrap ((IntKind.i64.wrap (a0.Place * 384)) + s10.2))) (by exact xr_move rfl rfl) rfl rfl rfl ?_
            refine ol_op (by exact opv_buildSlice (K := (kI .i64)) (xs := [(IntKind.i64.wrap ((IntKind.i64.wrap (a0.Place * 384)) + s10.2))]) (vals := [.int .i64 (IntKind.i64.wrap ((IntKind.i64.wrap (a0.Place * 384)) + s10.2))]) rfl Try.underlying45 el3 rfl rfl ⟨rfl, rfl, trivial⟩ rfl rfl rfl fB.size) rfl rfl rfl ?_
            rintro v35 w40 ⟨o37, q36, z38⟩
            have a41 := OffV.new o18 z38
            have b5 := b5.gr q36
            have o18 := o18.gr q36
            have fB := fB.gr q36
            obtain ⟨g46, h⟩ := gs h
            have f48 := off_ty b5 o18 (by decide)
            have f49 := o18.geO
            refine ol_op (by exact opv_append (K := (kI .i64)) rfl Try.underlying45 el3 rfl rfl rfl rfl rfl o18 o37.rd g46 fB.size) rfl rfl rfl ?_
            rintro v42 w50 ⟨o43, q44, n45⟩
            have b5 := b5.wrO q44 f48
            have fB := fB.wrO q44 f49
            refine ol_val (v := v42) (by exact xr_assign rfl rfl) rfl rfl rfl ?_
            refine ol_nil ?_
            obtain rfl := Option.some.inj h
            refine thn_i ?_
            exact ⟨v42, o43, e1, rfl, e6, b5, fB⟩
          · refine cw_condF rfl c34 ?_
            refine cw_skip ?_
            obtain rfl := Option.some.inj h
            refine thn_i ?_
            exact ⟨v17, o18, e1, e3, e6, b5, fB⟩
        · rintro ρ51 w52 ⟨v31, o32, e1, e3, e6, b5, fB⟩
          have h := h30
          refine blk_i ?_
          refine cw_region ?_
          refine ol_val (v := .int .i64 (IntKind.i64.wrap (s10.2 + 1))) (by exact xr_add rfl e6 rfl) rfl rfl rfl ?_
          refine ol_val (v := .int .i64 (IntKind.i64.wrap (s10.2 + 1))) (by exact xr_move rfl rfl) rfl rfl rfl ?_
          refine ol_nil ?_
          obtain rfl := Option.some.inj h
          refine lp_in ?_
          exact ⟨v31, o32, e1, e3, rfl, b5, fB⟩
      · refine cw_condF rfl c23 ?_
        refine cw_exit ?_
        repeat (first | with_reducible refine thn_e ?_ | with_reducible refine blk_e rfl ?_)
        obtain rfl := Option.some.inj h
        refine lp_exit ?_
        rintro rfl
        refine thn_x ?_
        exact ⟨v17, o18, e3, fB⟩
  · rintro ρ53 w54 ⟨v14, o15, e3, fB⟩
    have h := h13
    refine cw_seq ?_
    refine cw_region ?_
    refine ol_val (v := v14) (by exact xr_move rfl e3) rfl rfl rfl ?_
    refine ol_val (v := v14) (by exact xr_assign rfl rfl) rfl rfl rfl ?_
    refine ol_nil ?_
    refine cw_ret ?_
    repeat (first | with_reducible refine thn_r ?_ | with_reducible refine blk_r ?_)
    obtain rfl := Option.some.inj h
    refine fin_ret1 Try.results67 rfl ?_
    exact ⟨_, rfl, v14, o15, rfl, fB⟩
end Go.Proofs.Ytjhajfkfhdnciaa
