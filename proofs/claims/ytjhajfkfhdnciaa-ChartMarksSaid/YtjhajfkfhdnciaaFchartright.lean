/- rickyard/chart.right: its model, and that the Go function computes it: written by gen.py. -/
import Derived.Test.YtjhajfkfhdnciaaBase
set_option linter.unusedVariables false
namespace Go.Proofs.Ytjhajfkfhdnciaa
open Go Go.Xw
def chart_right.f (fu : Nat) (a0 : S_api_Chart) : Option Bool := some ((if (decide (a0.Place ≥ 0)) = true then (decide (a0.Place < 8)) else false))
set_option maxRecDepth 100000 in
set_option maxHeartbeats 400000 in
theorem chart_right.ok (fu : Nat) (w : World) (a0 : S_api_Chart) (r : Bool) (h : chart_right.f fu a0 = some r) :
    Calls Try.prog 115 (([aggV [Seg.cell (.int .i64 a0.Place), Kd.seg (kA 48 (kI .u8)) a0.Bits]] : List Value).toArray) w (fun e w' => ∃ v, e = .returned v ∧ v = .bool r ∧ Gr w w') := by
  unfold chart_right.f at h
  have fB : Gr w w := Fr.refl _ _
  refine calls_cw Try.func115 rfl Try.ntmps115 rfl ?_
  refine cw_seq ?_
  refine cw_region ?_
  refine ol_op (by exact opv_box (ss := [Seg.cell (.int .i64 a0.Place), Kd.seg (kA 48 (kI .u8)) a0.Bits]) rfl rfl rfl) rfl rfl rfl ?_
  rintro _ w6 ⟨G1, rfl, b2, q3, z4⟩
  have z4 := Nat.le_trans fB.size z4
  have fB := fB.gr q3
  refine ol_val (v := .bool false) (by exact xr_assign rfl rfl) rfl rfl rfl ?_
  refine ol_nil ?_
  refine cw_seq ?_
  refine cw_mid (fun ρ' w' => ρ' 2 = .bool (if (decide (a0.Place ≥ 0)) = true then (decide (a0.Place < 8)) else false) ∧ w6 = w') ?_ ?_
  · skip
    refine cw_region ?_
    refine ol_val (v := .pointer (some ⟨G1, 0, none⟩)) (by exact xr_fieldAddr (p := 0) (q := 0) rfl fl81_0 rfl) rfl rfl rfl ?_
    refine ol_val (v := .int .i64 a0.Place) (by exact xr_load1 (v := .int .i64 a0.Place) rfl ag3 rfl (b2.seg 0 rfl rfl)) rfl rfl rfl ?_
    refine ol_val (v := .bool (decide (a0.Place ≥ 0))) (by exact xr_geq rfl rfl rfl) rfl rfl rfl ?_
    refine ol_val (v := .bool (decide (a0.Place ≥ 0))) (by exact xr_move rfl rfl) rfl rfl rfl ?_
    rcases bt (decide (a0.Place ≥ 0)) with c7 | c7
    · skip
      refine ol_gval (v := .pointer (some ⟨G1, 0, none⟩)) (by exact xr_fieldAddr (p := 0) (q := 0) rfl fl81_0 rfl) rfl rfl rfl rfl rfl c7 ?_
      refine ol_gval (v := .int .i64 a0.Place) (by exact xr_load1 (v := .int .i64 a0.Place) rfl ag3 rfl (b2.seg 0 rfl rfl)) rfl rfl rfl rfl rfl c7 ?_
      refine ol_gval (v := .bool (decide (a0.Place < 8))) (by exact xr_lss rfl rfl rfl) rfl rfl rfl rfl rfl c7 ?_
      refine ol_val (v := .bool (decide (a0.Place < 8))) (by exact xr_pickT rfl rfl c7 rfl) rfl rfl rfl ?_
      refine ol_val (v := .bool (decide (a0.Place < 8))) (by exact xr_assign rfl rfl) rfl rfl rfl ?_
      refine ol_nil ?_
      refine thn_i ?_
      exact ⟨(rfl).trans (congrArg (fun z => (.bool z : Value)) (show (decide (a0.Place < 8)) = (if (decide (a0.Place ≥ 0)) = true then (decide (a0.Place < 8)) else false) from by rw [ite_t c7])), rfl⟩
    · skip
      refine ol_gskip rfl rfl rfl rfl rfl c7 ?_
      refine ol_gskip rfl rfl rfl rfl rfl c7 ?_
      refine ol_gskip rfl rfl rfl rfl rfl c7 ?_
      refine ol_val (v := .bool false) (by exact xr_pickF rfl rfl c7 rfl) rfl rfl rfl ?_
      refine ol_val (v := .bool false) (by exact xr_assign rfl rfl) rfl rfl rfl ?_
      refine ol_nil ?_
      refine thn_i ?_
      exact ⟨(rfl).trans (congrArg (fun z => (.bool z : Value)) (show false = (if (decide (a0.Place ≥ 0)) = true then (decide (a0.Place < 8)) else false) from by rw [ite_f c7])), rfl⟩
  · skip
    rintro ρ8 _ ⟨e2, rfl⟩
    refine cw_ret ?_
    repeat (first | with_reducible refine thn_r ?_ | with_reducible refine blk_r ?_)
    obtain rfl := Option.some.inj h
    refine fin_ret1 Try.results115 e2 ?_
    exact ⟨_, rfl, rfl, fB⟩
end Go.Proofs.Ytjhajfkfhdnciaa
