/- rickyard/rickyardref10.Has: its model, and that the Go function computes it: written by gen.py. -/
import Derived.Test.YtjhajfkfhdnciaaBase
set_option linter.unusedVariables false
namespace Go.Proofs.Ytjhajfkfhdnciaa
open Go Go.Xw
def rickyardref10_Has.s0 (fu : Nat) (a0 : List Int) (a1 : Int) : Int → Option (Sum (Sum Bool Unit) Int) := fun s1 => (if (decide (s1 < (List.length a0 : Int))) = true then (if 0 ≤ s1 ∧ s1 < (List.length a0 : Int) then (if (decide ((ix a0 s1) = a1)) = true then some (Sum.inl (Sum.inl (true))) else some (Sum.inr ((IntKind.i64.wrap (s1 + 1))))) else none) else some (Sum.inl (Sum.inr ())))
def rickyardref10_Has.f (fu : Nat) (a0 : List Int) (a1 : Int) : Option Bool := ((loopM (rickyardref10_Has.s0 fu a0 a1) fu (0)).bind fun e2 => match e2 with | Sum.inl p => some p | Sum.inr x5 => some (false))
set_option maxRecDepth 100000 in
set_option maxHeartbeats 400000 in
theorem rickyardref10_Has.ok (fu : Nat) (w : World) (a0 : List Int) (V0_0 : Value) (R0_0 : Rd (kI .i64) w V0_0 a0) (a1 : Int) (r : Bool) (h : rickyardref10_Has.f fu a0 a1 = some r) :
    Calls Try.prog 63 (([V0_0, .int .i64 a1] : List Value).toArray) w (fun e w' => ∃ v, e = .returned v ∧ v = .bool r ∧ Gr w w') := by
  unfold rickyardref10_Has.f at h
  have fB : Gr w w := Fr.refl _ _
  refine calls_cw Try.func63 rfl Try.ntmps63 rfl ?_
  refine cw_seq ?_
  refine cw_region ?_
  refine ol_val (v := .bool false) (by exact xr_assign rfl rfl) rfl rfl rfl ?_
  refine ol_nil ?_
  refine cw_seq ?_
  refine cw_seq ?_
  refine cw_region ?_
  refine ol_val (v := .int .i64 0) (by exact xr_assign rfl rfl) rfl rfl rfl ?_
  refine ol_nil ?_
  obtain ⟨e2, l3, h4⟩ := bs h
  refine cw_mid (fun ρ' w' => ∃ x5, e2 = Sum.inr x5 ∧ Gr w w') ?_ ?_
  · refine cw_block ?_
    refine cw_round (fun (s1 : Int) ρ' w' => ρ' 0 = V0_0 ∧ ρ' 1 = .int .i64 a1 ∧ ρ' 5 = .int .i64 s1 ∧ Gr w w') l3 ?_ ?_
    · skip
      exact ⟨rfl, rfl, rfl, fB⟩
    · rintro s1 x8 ρ6 w7 ⟨e0, e1, e5, fB⟩ h
      unfold rickyardref10_Has.s0 at h
      refine cw_seq ?_
      refine cw_seq ?_
      refine cw_region ?_
      refine ol_val (v := .int .i64 s1) (by exact xr_move rfl e5) rfl rfl rfl ?_
      refine ol_val (v := V0_0) (by exact xr_move rfl e0) rfl rfl rfl ?_
      refine ol_val (v := .int .i64 (List.length a0 : Int)) (by exact xr_lenR rfl Try.underlying45 rfl (R0_0.gr fB)) rfl rfl rfl ?_
      refine ol_val (v := .bool (decide (s1 < (List.length a0 : Int)))) (by exact xr_lss rfl rfl rfl) rfl rfl rfl ?_
      refine ol_nil ?_
      rcases is h with ⟨c9, h⟩ | ⟨c9, h⟩
      · refine cw_condT rfl c9 ?_
        refine cw_skip ?_
        refine cw_seq ?_
        refine cw_block ?_
        refine cw_seq ?_
        refine cw_region ?_
        refine ol_val (v := V0_0) (by exact xr_move rfl e0) rfl rfl rfl ?_
        refine ol_val (v := .int .i64 s1) (by exact xr_move rfl e5) rfl rfl rfl ?_
        obtain ⟨g10, h⟩ := gs h
        refine ol_val (v := .pointer (some ⟨(sb V0_0), so V0_0 + Int.toNat s1 * 1, none⟩)) (by exact xr_indexR (K := (kI .i64)) (v := V0_0) rfl Try.underlying45 sz3 rfl (R0_0.gr fB) rfl g10.1 g10.2) rfl rfl rfl ?_
        refine ol_val (v := .int .i64 (ix a0 s1)) (by exact xr_load1 (v := .int .i64 (ix a0 s1)) rfl ag3 rfl ((R0_0.gr fB).elem g10.1 g10.2)) rfl rfl rfl ?_
        refine ol_val (v := .int .i64 a1) (by exact xr_move rfl e1) rfl rfl rfl ?_
        refine ol_val (v := .bool (decide ((ix a0 s1) = a1))) (by exact xr_eqI rfl Try.underlying3 rfl rfl rfl) rfl rfl rfl ?_
        refine ol_nil ?_
        rcases is h with ⟨c11, h⟩ | ⟨c11, h⟩
        · refine cw_condT rfl c11 ?_
          refine cw_seq ?_
          refine cw_region ?_
          refine ol_val (v := .bool true) (by exact xr_assign rfl rfl) rfl rfl rfl ?_
          refine ol_nil ?_
          refine cw_ret ?_
          repeat (first | with_reducible refine thn_r ?_ | with_reducible refine blk_r ?_)
          obtain rfl := Option.some.inj h
          refine lp_ret ?_
          rintro rfl
          repeat (first | with_reducible refine thn_r ?_ | with_reducible refine blk_r ?_)
          have h := h4
          obtain rfl := Option.some.inj h
          refine fin_ret1 Try.results63 rfl ?_
          exact ⟨_, rfl, rfl, fB⟩
        · refine cw_condF rfl c11 ?_
          refine cw_skip ?_
          refine blk_i ?_
          refine cw_region ?_
          refine ol_val (v := .int .i64 s1) (by exact xr_move rfl e5) rfl rfl rfl ?_
          refine ol_val (v := .int .i64 (IntKind.i64.wrap (s1 + 1))) (by exact xr_add rfl rfl rfl) rfl rfl rfl ?_
          refine ol_val (v := .int .i64 (IntKind.i64.wrap (s1 + 1))) (by exact xr_assign rfl rfl) rfl rfl rfl ?_
          refine ol_nil ?_
          obtain rfl := Option.some.inj h
          refine lp_in ?_
          exact ⟨e0, e1, rfl, fB⟩
      · refine cw_condF rfl c9 ?_
        refine cw_exit ?_
        repeat (first | with_reducible refine thn_e ?_ | with_reducible refine blk_e rfl ?_)
        obtain rfl := Option.some.inj h
        refine lp_exit ?_
        rintro rfl
        refine thn_x ?_
        exact ⟨_, rfl, fB⟩
  · rintro ρ12 w13 ⟨x5, rfl, fB⟩
    have h := h4
    refine cw_seq ?_
    refine cw_region ?_
    refine ol_val (v := .bool false) (by exact xr_assign rfl rfl) rfl rfl rfl ?_
    refine ol_nil ?_
    refine cw_ret ?_
    repeat (first | with_reducible refine thn_r ?_ | with_reducible refine blk_r ?_)
    obtain rfl := Option.some.inj h
    refine fin_ret1 Try.results63 rfl ?_
    exact ⟨_, rfl, rfl, fB⟩
end Go.Proofs.Ytjhajfkfhdnciaa
