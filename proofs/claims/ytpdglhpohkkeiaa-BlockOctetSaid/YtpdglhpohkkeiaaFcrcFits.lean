/- rickyard/crc.Fits: its model, and that the Go function computes it: written by gen.py. -/
import Derived.Test.YtpdglhpohkkeiaaBase
import Derived.Test.YtpdglhpohkkeiaaFcrcSum
set_option linter.unusedVariables false
namespace Go.Proofs.Ytpdglhpohkkeiaa
open Go Go.Xw
def crc_Fits.f (fu : Nat) (a0 : Int) (a1 : List (List Int)) : Option Bool := ((crc_Sum.f fu a1 : Option Int).bind fun t1 => some ((decide (t1 = a0))))
set_option maxRecDepth 100000 in
set_option maxHeartbeats 400000 in
theorem crc_Fits.ok (fu : Nat) (w : World) (a0 : Int) (a1 : List (List Int)) (V1_0 : Value) (R1_0 : Rds (kI .u8) w V1_0 a1) (r : Bool) (h : crc_Fits.f fu a0 a1 = some r) :
    Calls Try.prog 131 (([.int .u32 a0, V1_0] : List Value).toArray) w (fun e w' => ∃ v, e = .returned v ∧ v = .bool r ∧ Gr w w') := by
  unfold crc_Fits.f at h
  have fB : Gr w w := Fr.refl _ _
  refine calls_cw Try.func131 rfl Try.ntmps131 rfl ?_
  refine cw_seq ?_
  refine cw_region ?_
  refine ol_val (v := .bool false) (by exact xr_assign rfl rfl) rfl rfl rfl ?_
  refine ol_nil ?_
  refine cw_seq ?_
  refine cw_region ?_
  refine ol_val (v := V1_0) (by exact xr_move rfl rfl) rfl rfl rfl ?_
  obtain ⟨t1, k2, h⟩ := bs h
  refine ol_op (by exact opv_call rfl cal99 (ac rfl an) (crc_Sum.ok fu _ a1 V1_0 (R1_0.gr fB) _ k2)) rfl rfl rfl ?_
  rintro _ w4 ⟨rfl, q3⟩
  have fB := fB.gr q3
  refine ol_val (v := .int .u32 a0) (by exact xr_move rfl rfl) rfl rfl rfl ?_
  refine ol_val (v := .bool (decide (t1 = a0))) (by exact xr_eqI rfl Try.underlying51 rfl rfl rfl) rfl rfl rfl ?_
  refine ol_val (v := .bool (decide (t1 = a0))) (by exact xr_assign rfl rfl) rfl rfl rfl ?_
  refine ol_nil ?_
  refine cw_ret ?_
  repeat (first | with_reducible refine thn_r ?_ | with_reducible refine blk_r ?_)
  obtain rfl := Option.some.inj h
  refine fin_ret1 Try.results131 rfl ?_
  exact ⟨_, rfl, rfl, fB⟩
end Go.Proofs.Ytpdglhpohkkeiaa
