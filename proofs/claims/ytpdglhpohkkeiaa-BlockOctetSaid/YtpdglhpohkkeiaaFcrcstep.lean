/- rickyard/crc.step: its model, and that the Go function computes it: written by gen.py. -/
import Derived.Test.YtpdglhpohkkeiaaBase
set_option linter.unusedVariables false
namespace Go.Proofs.Ytpdglhpohkkeiaa
open Go Go.Xw
def crc_step.f (fu : Nat) (a0 : Int) : Option Int := (if (decide ((bAnd .u32 a0 1) = 1)) = true then some ((bXor .u32 (shR .u32 a0 1) 2197175160)) else some ((shR .u32 a0 1)))
set_option maxRecDepth 100000 in
set_option maxHeartbeats 400000 in
theorem crc_step.ok (fu : Nat) (w : World) (a0 : Int) (r : Int) (h : crc_step.f fu a0 = some r) :
    Calls Try.prog 145 (([.int .u32 a0] : List Value).toArray) w (fun e w' => ∃ v, e = .returned v ∧ v = .int .u32 r ∧ Gr w w') := by
  unfold crc_step.f at h
  have fB : Gr w w := Fr.refl _ _
  refine calls_cw Try.func145 rfl Try.ntmps145 rfl ?_
  refine cw_seq ?_
  refine cw_region ?_
  refine ol_val (v := .int .u32 0) (by exact xr_assign rfl rfl) rfl rfl rfl ?_
  refine ol_nil ?_
  refine cw_seq ?_
  refine cw_seq ?_
  refine cw_region ?_
  refine ol_val (v := .int .u32 a0) (by exact xr_move rfl rfl) rfl rfl rfl ?_
  refine ol_val (v := .int .u32 (bAnd .u32 a0 1)) (by exact xr_and rfl rfl rfl) rfl rfl rfl ?_
  refine ol_val (v := .bool (decide ((bAnd .u32 a0 1) = 1))) (by exact xr_eqI rfl Try.underlying51 rfl rfl rfl) rfl rfl rfl ?_
  refine ol_nil ?_
  rcases is h with ⟨c1, h⟩ | ⟨c1, h⟩
  · refine cw_condT rfl c1 ?_
    refine cw_seq ?_
    refine cw_region ?_
    refine ol_val (v := .int .u32 a0) (by exact xr_move rfl rfl) rfl rfl rfl ?_
    refine ol_val (v := .int .u32 (shR .u32 a0 1)) (by exact xr_shr rfl rfl rfl (by decide)) rfl rfl rfl ?_
    refine ol_val (v := .int .u32 (bXor .u32 (shR .u32 a0 1) 2197175160)) (by exact xr_xor rfl rfl rfl) rfl rfl rfl ?_
    refine ol_val (v := .int .u32 (bXor .u32 (shR .u32 a0 1) 2197175160)) (by exact xr_assign rfl rfl) rfl rfl rfl ?_
    refine ol_nil ?_
    refine cw_ret ?_
    repeat (first | with_reducible refine thn_r ?_ | with_reducible refine blk_r ?_)
    obtain rfl := Option.some.inj h
    refine fin_ret1 Try.results145 rfl ?_
    exact ⟨_, rfl, rfl, fB⟩
  · refine cw_condF rfl c1 ?_
    refine cw_skip ?_
    refine cw_seq ?_
    refine cw_region ?_
    refine ol_val (v := .int .u32 a0) (by exact xr_move rfl rfl) rfl rfl rfl ?_
    refine ol_val (v := .int .u32 (shR .u32 a0 1)) (by exact xr_shr rfl rfl rfl (by decide)) rfl rfl rfl ?_
    refine ol_val (v := .int .u32 (shR .u32 a0 1)) (by exact xr_assign rfl rfl) rfl rfl rfl ?_
    refine ol_nil ?_
    refine cw_ret ?_
    repeat (first | with_reducible refine thn_r ?_ | with_reducible refine blk_r ?_)
    obtain rfl := Option.some.inj h
    refine fin_ret1 Try.results145 rfl ?_
    exact ⟨_, rfl, rfl, fB⟩
end Go.Proofs.Ytpdglhpohkkeiaa
