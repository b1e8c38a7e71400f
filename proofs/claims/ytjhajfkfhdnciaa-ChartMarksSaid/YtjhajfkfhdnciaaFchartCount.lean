/- rickyard/chart.Count: its model, and that the Go function computes it: written by gen.py. -/
import Derived.Test.YtjhajfkfhdnciaaBase
import Derived.Test.YtjhajfkfhdnciaaFchartright
import Derived.Test.YtjhajfkfhdnciaaFbitsOnesCount8
set_option linter.unusedVariables false
namespace Go.Proofs.Ytjhajfkfhdnciaa
open Go Go.Xw
def chart_Count.s1 (fu : Nat) (a0 : S_api_Chart) : (Int × Int) → Option (Sum Int (Int × Int)) := fun s15 => (if (decide (s15.2 < 48)) = true then (if 0 ≤ s15.2 ∧ s15.2 < 48 then ((bits_OnesCount8.f fu (Arr.get a0.Bits s15.2) : Option Int).bind fun t24 => some (Sum.inr ((IntKind.i64.wrap (s15.1 + t24)), (IntKind.i64.wrap (s15.2 + 1))))) else none) else some (Sum.inl (s15.1)))
def chart_Count.f (fu : Nat) (a0 : S_api_Chart) : Option Int := ((chart_right.f fu a0 : Option Bool).bind fun t7 => (((if t7 = true then ((loopM (chart_Count.s1 fu a0) fu (0, 0)).bind fun e16 => some (e16)) else some (0)) : Option Int).bind fun x11 => some (x11)))
set_option maxRecDepth 100000 in
set_option maxHeartbeats 400000 in
theorem chart_Count.ok (fu : Nat) (w : World) (a0 : S_api_Chart) (r : Int) (h : chart_Count.f fu a0 = some r) :
    Calls Try.prog 68 (([aggV [Seg.cell (.int .i64 a0.Place), Kd.seg (kA 48 (kI .u8)) a0.Bits]] : List Value).toArray) w (fun e w' => ∃ v, e = .returned v ∧ v = .int .i64 r ∧ Gr w w') := by
  unfold chart_Count.f at h
  have fB : Gr w w := Fr.refl _ _
  refine calls_cw Try.func68 rfl Try.ntmps68 rfl ?_
  refine cw_seq ?_
  refine cw_region ?_
  refine ol_op (by exact opv_box (ss := [Seg.cell (.int .i64 a0.Place), Kd.seg (kA 48 (kI .u8)) a0.Bits]) rfl rfl rfl) rfl rfl rfl ?_
  rintro _ w6 ⟨G1, rfl, b2, q3, z4⟩
  have z4 := Nat.le_trans fB.size z4
  have fB := fB.gr q3
  refine ol_val (v := .int .i64 0) (by exact xr_assign rfl rfl) rfl rfl rfl ?_
  refine ol_nil ?_
  refine cw_seq ?_
  refine cw_region ?_
  refine ol_val (v := .int .i64 0) (by exact xr_assign rfl rfl) rfl rfl rfl ?_
  refine ol_nil ?_
  refine cw_seq ?_
  refine cw_seq ?_
  refine cw_region ?_
  refine ol_val (v := aggV [Seg.cell (.int .i64 a0.Place), Kd.seg (kA 48 (kI .u8)) a0.Bits]) (by exact xr_loadS (ss := [Seg.cell (.int .i64 a0.Place), Kd.seg (kA 48 (kI .u8)) a0.Bits]) rfl ag81 sz81 rfl rfl (b2.segs 0 2 rfl)) rfl rfl rfl ?_
  obtain ⟨t7, k8, h⟩ := bs h
  refine ol_op (by exact opv_call rfl cal115 (ac rfl an) (chart_right.ok fu _ a0 _ k8)) rfl rfl rfl ?_
  rintro _ w10 ⟨rfl, q9⟩
  have b2 := b2.gr q9
  have fB := fB.gr q9
  refine ol_nil ?_
  obtain ⟨x11, j12, h13⟩ := bs h
  refine cw_mid (fun ρ' w' => ρ' 3 = .int .i64 x11 ∧ Gr w w') ?_ ?_
  · have h := j12
    rcases is h with ⟨c14, h⟩ | ⟨c14, h⟩
    · refine cw_condT rfl c14 ?_
      refine cw_seq ?_
      refine cw_region ?_
      refine ol_val (v := .pointer (some ⟨G1, 1, none⟩)) (by exact xr_fieldAddr (p := 0) (q := 1) rfl fl81_1 rfl) rfl rfl rfl ?_
      refine ol_val (v := aggV [Kd.seg (kA 48 (kI .u8)) a0.Bits]) (by exact xr_loadS (ss := [Kd.seg (kA 48 (kI .u8)) a0.Bits]) rfl ag79 sz79 rfl rfl (b2.segs 1 1 rfl)) rfl rfl rfl ?_
      refine ol_val (v := .int .i64 0) (by exact xr_move rfl rfl) rfl rfl rfl ?_
      refine ol_nil ?_
      obtain ⟨e16, l17, h18⟩ := bs h
      refine cw_mid (fun ρ' w' => ρ' 3 = .int .i64 e16 ∧ Gr w w') ?_ ?_
      · refine cw_block ?_
        refine cw_round (fun (s15 : Int × Int) ρ' w' => ρ' 3 = .int .i64 s15.1 ∧ ρ' 9 = aggV [Kd.seg (kA 48 (kI .u8)) a0.Bits] ∧ ρ' 10 = .int .i64 s15.2 ∧ Gr w w') l17 ?_ ?_
        · skip
          exact ⟨rfl, rfl, rfl, fB⟩
        · rintro s15 x21 ρ19 w20 ⟨e3, e9, e10, fB⟩ h
          unfold chart_Count.s1 at h
          refine cw_seq ?_
          refine cw_region ?_
          refine ol_val (v := .bool (decide (s15.2 < 48))) (by exact xr_lss rfl e10 rfl) rfl rfl rfl ?_
          refine ol_nil ?_
          refine cw_seq ?_
          rcases is h with ⟨c22, h⟩ | ⟨c22, h⟩
          · refine cw_condT rfl c22 ?_
            refine cw_skip ?_
            refine cw_seq ?_
            refine cw_block ?_
            refine cw_seq ?_
            refine cw_region ?_
            obtain ⟨g23, h⟩ := gs h
            refine ol_val (v := .int .u8 (Arr.get a0.Bits s15.2)) (by exact xr_indexArr1 (K := (kI .u8)) (a := a0.Bits) (v := .int .u8 (Arr.get a0.Bits s15.2)) rfl Try.underlying79 ag5 sz5 e9 e10 rfl g23.1 g23.2 rfl) rfl rfl rfl ?_
            refine ol_val (v := .int .u8 (Arr.get a0.Bits s15.2)) (by exact xr_assign rfl rfl) rfl rfl rfl ?_
            refine ol_nil ?_
            refine cw_region ?_
            refine ol_val (v := .int .i64 s15.1) (by exact xr_move rfl e3) rfl rfl rfl ?_
            refine ol_val (v := .int .u8 (Arr.get a0.Bits s15.2)) (by exact xr_move rfl rfl) rfl rfl rfl ?_
            obtain ⟨t24, k25, h⟩ := bs h
            refine ol_op (by exact opv_call rfl cal116 (ac rfl an) (bits_OnesCount8.ok fu _ (Arr.get a0.Bits s15.2) _ k25)) rfl rfl rfl ?_
            rintro _ w27 ⟨rfl, q26⟩
            have fB := fB.gr q26
            refine ol_val (v := .int .i64 (IntKind.i64.wrap (s15.1 + t24))) (by exact xr_add rfl rfl rfl) rfl rfl rfl ?_
            refine ol_val (v := .int .i64 (IntKind.i64.wrap (s15.1 + t24))) (by exact xr_assign rfl rfl) rfl rfl rfl ?_
            refine ol_nil ?_
            refine blk_i ?_
            refine cw_region ?_
            refine ol_val (v := .int .i64 (IntKind.i64.wrap (s15.2 + 1))) (by exact xr_add rfl e10 rfl) rfl rfl rfl ?_
            refine ol_val (v := .int .i64 (IntKind.i64.wrap (s15.2 + 1))) (by exact xr_move rfl rfl) rfl rfl rfl ?_
            refine ol_nil ?_
            obtain rfl := Option.some.inj h
            refine lp_in ?_
            exact ⟨rfl, e9, rfl, fB⟩
          · refine cw_condF rfl c22 ?_
            refine cw_exit ?_
            repeat (first | with_reducible refine thn_e ?_ | with_reducible refine blk_e rfl ?_)
            obtain rfl := Option.some.inj h
            refine lp_exit ?_
            rintro rfl
            refine thn_x ?_
            exact ⟨e3, fB⟩
      · rintro ρ28 w29 ⟨e3, fB⟩
        have h := h18
        obtain rfl := Option.some.inj h
        refine thn_i ?_
        exact ⟨e3, fB⟩
    · refine cw_condF rfl c14 ?_
      refine cw_skip ?_
      obtain rfl := Option.some.inj h
      refine thn_i ?_
      exact ⟨rfl, fB⟩
  · rintro ρ30 w31 ⟨e3, fB⟩
    have h := h13
    refine cw_seq ?_
    refine cw_region ?_
    refine ol_val (v := .int .i64 x11) (by exact xr_move rfl e3) rfl rfl rfl ?_
    refine ol_val (v := .int .i64 x11) (by exact xr_assign rfl rfl) rfl rfl rfl ?_
    refine ol_nil ?_
    refine cw_ret ?_
    repeat (first | with_reducible refine thn_r ?_ | with_reducible refine blk_r ?_)
    obtain rfl := Option.some.inj h
    refine fin_ret1 Try.results68 rfl ?_
    exact ⟨_, rfl, rfl, fB⟩
end Go.Proofs.Ytjhajfkfhdnciaa
