/- RootPicks: texts merged, part 3 of 9. The last part proves that the law RootPicks holds for every input. -/
import Derived.Test.YtklhbaghbmndeaaPkRootPicks2
set_option linter.unusedVariables false
set_option linter.unusedSimpArgs false
namespace Go.Proofs.Ytklhbaghbmndeaa
open Go Go.Xw
def slices_Contains_2.f (fu : Nat) (a0 : List Int) (a1 : Int) : Option Bool := ((slices_Index_2.f fu a0 a1 : Option Int).bind fun t1 => some ((decide (t1 ≥ 0))))
set_option maxRecDepth 100000 in
set_option maxHeartbeats 400000 in
theorem slices_Contains_2.ok (fu : Nat) (w : World) (a0 : List Int) (V0_0 : Value) (R0_0 : Rd (kI .i64) w V0_0 a0) (a1 : Int) (r : Bool) (h : slices_Contains_2.f fu a0 a1 = some r) :
  Calls Try.prog 146 (([V0_0, .int .i64 a1] : List Value).toArray) w (fun e w' => ∃ v, e = .returned v ∧ v = .bool r ∧ Gr w w') := by
 unfold slices_Contains_2.f at h
 have fB : Gr w w := Fr.refl _ _
 refine calls_cw Try.func146 rfl Try.ntmps146 rfl ?_
 refine cw_seq ?_
 refine cw_region ?_
 refine ol_val (v := .bool false) (by exact xr_assign rfl rfl) rfl rfl rfl ?_
 refine ol_nil ?_
 refine cw_seq ?_
 refine cw_region ?_
 refine ol_val (v := V0_0) (by exact xr_move rfl rfl) rfl rfl rfl ?_
 refine ol_val (v := .int .i64 a1) (by exact xr_move rfl rfl) rfl rfl rfl ?_
 obtain ⟨t1, k2, h⟩ := bs h
 refine ol_op (by exact opv_call rfl cal152 (ac rfl (ac rfl an)) (slices_Index_2.ok fu _ a0 V0_0 (R0_0.gr fB) a1 _ k2)) rfl rfl rfl ?_
 rintro _ w4 ⟨rfl, q3⟩
 have fB := fB.gr q3
 refine ol_val (v := .bool (decide (t1 ≥ 0))) (by exact xr_geq rfl rfl rfl) rfl rfl rfl ?_
 refine ol_val (v := .bool (decide (t1 ≥ 0))) (by exact xr_assign rfl rfl) rfl rfl rfl ?_
 refine ol_nil ?_
 refine cw_ret ?_
 repeat (first | with_reducible refine thn_r ?_ | with_reducible refine blk_r ?_)
 obtain rfl := Option.some.inj h
 refine fin_ret1 Try.results146 rfl ?_
 exact ⟨_, rfl, rfl, fB⟩
end Go.Proofs.Ytklhbaghbmndeaa
