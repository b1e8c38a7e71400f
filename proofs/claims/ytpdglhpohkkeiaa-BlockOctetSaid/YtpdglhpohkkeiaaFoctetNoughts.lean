/- rickyard/octet.Noughts: its model, and that the Go function computes it: written by gen.py. -/
import Derived.Test.YtpdglhpohkkeiaaBase
import Derived.Test.YtpdglhpohkkeiaaFoctetthere
set_option linter.unusedVariables false
namespace Go.Proofs.Ytpdglhpohkkeiaa
open Go Go.Xw
def octet_Noughts.s0 (fu : Nat) (a0 : List Int) (a1 : Int) (a2 : Int) : Int → Option (Sum (Sum Bool Unit) Int) := fun s8 => (if (decide (s8 < (List.length (cut a0 a1 (IntKind.i64.wrap (a1 + a2))) : Int))) = true then (if 0 ≤ s8 ∧ s8 < (List.length (cut a0 a1 (IntKind.i64.wrap (a1 + a2))) : Int) then (if (!decide ((ix (cut a0 a1 (IntKind.i64.wrap (a1 + a2))) s8) = 0)) = true then some (Sum.inl (Sum.inl (false))) else some (Sum.inr ((IntKind.i64.wrap (s8 + 1))))) else none) else some (Sum.inl (Sum.inr ())))
def octet_Noughts.f (fu : Nat) (a0 : List Int) (a1 : Int) (a2 : Int) : Option Bool := ((octet_there.f fu a0 a1 a2 : Option Bool).bind fun t1 => (if (!t1) = true then some (false) else (if 0 ≤ a1 ∧ a1 ≤ (IntKind.i64.wrap (a1 + a2)) ∧ (IntKind.i64.wrap (a1 + a2)) ≤ (List.length a0 : Int) then ((loopM (octet_Noughts.s0 fu a0 a1 a2) fu (0)).bind fun e9 => match e9 with | Sum.inl p => some p | Sum.inr x12 => some (true)) else none)))
set_option maxRecDepth 100000 in
set_option maxHeartbeats 400000 in
theorem octet_Noughts.ok (fu : Nat) (w : World) (a0 : List Int) (V0_0 : Value) (R0_0 : Rd (kI .u8) w V0_0 a0) (a1 : Int) (a2 : Int) (r : Bool) (h : octet_Noughts.f fu a0 a1 a2 = some r) :
    Calls Try.prog 104 (([V0_0, .int .i64 a1, .int .i64 a2] : List Value).toArray) w (fun e w' => ∃ v, e = .returned v ∧ v = .bool r ∧ Gr w w') := by
  unfold octet_Noughts.f at h
  have fB : Gr w w := Fr.refl _ _
  refine calls_cw Try.func104 rfl Try.ntmps104 rfl ?_
  refine cw_seq ?_
  refine cw_region ?_
  refine ol_val (v := .bool false) (by exact xr_assign rfl rfl) rfl rfl rfl ?_
  refine ol_nil ?_
  refine cw_seq ?_
  refine cw_seq ?_
  refine cw_region ?_
  refine ol_val (v := V0_0) (by exact xr_move rfl rfl) rfl rfl rfl ?_
  refine ol_val (v := .int .i64 a1) (by exact xr_move rfl rfl) rfl rfl rfl ?_
  refine ol_val (v := .int .i64 a2) (by exact xr_move rfl rfl) rfl rfl rfl ?_
  obtain ⟨t1, k2, h⟩ := bs h
  refine ol_op (by exact opv_call rfl cal134 (ac rfl (ac rfl (ac rfl an))) (octet_there.ok fu _ a0 V0_0 (R0_0.gr fB) a1 a2 _ k2)) rfl rfl rfl ?_
  rintro _ w4 ⟨rfl, q3⟩
  have fB := fB.gr q3
  refine ol_val (v := .bool (!t1)) (by exact xr_not rfl rfl) rfl rfl rfl ?_
  refine ol_nil ?_
  rcases is h with ⟨c5, h⟩ | ⟨c5, h⟩
  · refine cw_condT rfl c5 ?_
    refine cw_seq ?_
    refine cw_region ?_
    refine ol_val (v := .bool false) (by exact xr_assign rfl rfl) rfl rfl rfl ?_
    refine ol_nil ?_
    refine cw_ret ?_
    repeat (first | with_reducible refine thn_r ?_ | with_reducible refine blk_r ?_)
    obtain rfl := Option.some.inj h
    refine fin_ret1 Try.results104 rfl ?_
    exact ⟨_, rfl, rfl, fB⟩
  · refine cw_condF rfl c5 ?_
    refine cw_skip ?_
    refine cw_seq ?_
    refine cw_seq ?_
    refine cw_region ?_
    refine ol_val (v := V0_0) (by exact xr_move rfl rfl) rfl rfl rfl ?_
    refine ol_val (v := .int .i64 a1) (by exact xr_move rfl rfl) rfl rfl rfl ?_
    refine ol_val (v := .int .i64 a1) (by exact xr_move rfl rfl) rfl rfl rfl ?_
    refine ol_val (v := .int .i64 a2) (by exact xr_move rfl rfl) rfl rfl rfl ?_
    refine ol_val (v := .int .i64 (IntKind.i64.wrap (a1 + a2))) (by exact xr_add rfl rfl rfl) rfl rfl rfl ?_
    obtain ⟨g7, h⟩ := gs h
    refine ol_val (v := subv 1 V0_0 (Int.toNat a1) (Int.toNat (IntKind.i64.wrap (a1 + a2)))) (by exact xr_slice_lh (K := (kI .u8)) (v := V0_0) rfl Try.underlying38 sz5 rfl (R0_0.gr fB) rfl rfl g7.1 g7.2.1 g7.2.2) rfl rfl rfl ?_
    have r6 : Rd (kI .u8) w4 (subv 1 V0_0 (Int.toNat a1) (Int.toNat (IntKind.i64.wrap (a1 + a2)))) (cut a0 a1 (IntKind.i64.wrap (a1 + a2))) := (R0_0.gr fB).cut (lo := a1) (hi := (IntKind.i64.wrap (a1 + a2))) g7.1 g7.2.1 g7.2.2
    refine ol_val (v := .int .i64 (List.length (cut a0 a1 (IntKind.i64.wrap (a1 + a2))) : Int)) (by exact xr_lenR rfl Try.underlying38 rfl r6) rfl rfl rfl ?_
    refine ol_val (v := .int .i64 0) (by exact xr_move rfl rfl) rfl rfl rfl ?_
    refine ol_nil ?_
    obtain ⟨e9, l10, h11⟩ := bs h
    refine cw_mid (fun ρ' w' => ∃ x12, e9 = Sum.inr x12 ∧ Gr w w') ?_ ?_
    · refine cw_block ?_
      refine cw_round (fun (s8 : Int) ρ' w' => Rd (kI .u8) w' (subv 1 V0_0 (Int.toNat a1) (Int.toNat (IntKind.i64.wrap (a1 + a2)))) (cut a0 a1 (IntKind.i64.wrap (a1 + a2))) ∧ ρ' 19 = subv 1 V0_0 (Int.toNat a1) (Int.toNat (IntKind.i64.wrap (a1 + a2))) ∧ ρ' 20 = .int .i64 (List.length (cut a0 a1 (IntKind.i64.wrap (a1 + a2))) : Int) ∧ ρ' 21 = .int .i64 s8 ∧ Gr w w') l10 ?_ ?_
      · skip
        exact ⟨r6, rfl, rfl, rfl, fB⟩
      · rintro s8 x15 ρ13 w14 ⟨r6, e19, e20, e21, fB⟩ h
        unfold octet_Noughts.s0 at h
        refine cw_seq ?_
        refine cw_region ?_
        refine ol_val (v := .bool (decide (s8 < (List.length (cut a0 a1 (IntKind.i64.wrap (a1 + a2))) : Int)))) (by exact xr_lss rfl e21 e20) rfl rfl rfl ?_
        refine ol_nil ?_
        refine cw_seq ?_
        rcases is h with ⟨c16, h⟩ | ⟨c16, h⟩
        · refine cw_condT rfl c16 ?_
          refine cw_skip ?_
          refine cw_seq ?_
          refine cw_block ?_
          refine cw_seq ?_
          refine cw_region ?_
          obtain ⟨g17, h⟩ := gs h
          refine ol_val (v := .pointer (some ⟨(sb (subv 1 V0_0 (Int.toNat a1) (Int.toNat (IntKind.i64.wrap (a1 + a2))))), so (subv 1 V0_0 (Int.toNat a1) (Int.toNat (IntKind.i64.wrap (a1 + a2)))) + Int.toNat s8 * 1, none⟩)) (by exact xr_indexR (K := (kI .u8)) (v := subv 1 V0_0 (Int.toNat a1) (Int.toNat (IntKind.i64.wrap (a1 + a2)))) rfl Try.underlying38 sz5 e19 r6 e21 g17.1 g17.2) rfl rfl rfl ?_
          refine ol_val (v := .int .u8 (ix (cut a0 a1 (IntKind.i64.wrap (a1 + a2))) s8)) (by exact xr_load1 (v := .int .u8 (ix (cut a0 a1 (IntKind.i64.wrap (a1 + a2))) s8)) rfl ag5 rfl (r6.elem g17.1 g17.2)) rfl rfl rfl ?_
          refine ol_val (v := .int .u8 (ix (cut a0 a1 (IntKind.i64.wrap (a1 + a2))) s8)) (by exact xr_assign rfl rfl) rfl rfl rfl ?_
          refine ol_nil ?_
          refine cw_seq ?_
          refine cw_region ?_
          refine ol_val (v := .int .u8 (ix (cut a0 a1 (IntKind.i64.wrap (a1 + a2))) s8)) (by exact xr_move rfl rfl) rfl rfl rfl ?_
          refine ol_val (v := .bool (!decide ((ix (cut a0 a1 (IntKind.i64.wrap (a1 + a2))) s8) = 0))) (by exact xr_neI rfl Try.underlying5 rfl rfl rfl) rfl rfl rfl ?_
          refine ol_nil ?_
          rcases is h with ⟨c18, h⟩ | ⟨c18, h⟩
          · refine cw_condT rfl c18 ?_
            refine cw_seq ?_
            refine cw_region ?_
            refine ol_val (v := .bool false) (by exact xr_assign rfl rfl) rfl rfl rfl ?_
            refine ol_nil ?_
            refine cw_ret ?_
            repeat (first | with_reducible refine thn_r ?_ | with_reducible refine blk_r ?_)
            obtain rfl := Option.some.inj h
            refine lp_ret ?_
            rintro rfl
            repeat (first | with_reducible refine thn_r ?_ | with_reducible refine blk_r ?_)
            have h := h11
            obtain rfl := Option.some.inj h
            refine fin_ret1 Try.results104 rfl ?_
            exact ⟨_, rfl, rfl, fB⟩
          · refine cw_condF rfl c18 ?_
            refine cw_skip ?_
            refine blk_i ?_
            refine cw_region ?_
            refine ol_val (v := .int .i64 (IntKind.i64.wrap (s8 + 1))) (by exact xr_add rfl e21 rfl) rfl rfl rfl ?_
            refine ol_val (v := .int .i64 (IntKind.i64.wrap (s8 + 1))) (by exact xr_move rfl rfl) rfl rfl rfl ?_
            refine ol_nil ?_
            obtain rfl := Option.some.inj h
            refine lp_in ?_
            exact ⟨r6, e19, e20, rfl, fB⟩
        · refine cw_condF rfl c16 ?_
          refine cw_exit ?_
          repeat (first | with_reducible refine thn_e ?_ | with_reducible refine blk_e rfl ?_)
          obtain rfl := Option.some.inj h
          refine lp_exit ?_
          rintro rfl
          refine thn_x ?_
          exact ⟨_, rfl, fB⟩
    · rintro ρ19 w20 ⟨x12, rfl, fB⟩
      have h := h11
      refine cw_seq ?_
      refine cw_region ?_
      refine ol_val (v := .bool true) (by exact xr_assign rfl rfl) rfl rfl rfl ?_
      refine ol_nil ?_
      refine cw_ret ?_
      repeat (first | with_reducible refine thn_r ?_ | with_reducible refine blk_r ?_)
      obtain rfl := Option.some.inj h
      refine fin_ret1 Try.results104 rfl ?_
      exact ⟨_, rfl, rfl, fB⟩
end Go.Proofs.Ytpdglhpohkkeiaa
