/- rickyard/octet.Read: its model, and that the Go function computes it: written by gen.py. -/
import Derived.Test.YtpdglhpohkkeiaaBase
set_option linter.unusedVariables false
namespace Go.Proofs.Ytpdglhpohkkeiaa
open Go Go.Xw
def octet_Read.s0 (fu : Nat) (a0 : List Int) : (Int × Int) → Option (Sum Int (Int × Int)) := fun s3 => (if (decide (s3.2 < (List.length (cut a0 0 (mnI (List.length a0 : Int) 8)) : Int))) = true then (if 0 ≤ s3.2 ∧ s3.2 < (List.length (cut a0 0 (mnI (List.length a0 : Int) 8)) : Int) then (if 0 ≤ (IntKind.i64.wrap (8 * s3.2)) then some (Sum.inr ((bOr .u64 s3.1 (shL .u64 (IntKind.u64.wrap (ix (cut a0 0 (mnI (List.length a0 : Int) 8)) s3.2)) (IntKind.i64.wrap (8 * s3.2)))), (IntKind.i64.wrap (s3.2 + 1)))) else none) else none) else some (Sum.inl (s3.1)))
def octet_Read.f (fu : Nat) (a0 : List Int) : Option Int := (if 0 ≤ (mnI (List.length a0 : Int) 8) ∧ (mnI (List.length a0 : Int) 8) ≤ (List.length a0 : Int) then ((loopM (octet_Read.s0 fu a0) fu (0, 0)).bind fun e4 => some (e4)) else none)
set_option maxRecDepth 100000 in
set_option maxHeartbeats 400000 in
theorem octet_Read.ok (fu : Nat) (w : World) (a0 : List Int) (V0_0 : Value) (R0_0 : Rd (kI .u8) w V0_0 a0) (r : Int) (h : octet_Read.f fu a0 = some r) :
    Calls Try.prog 107 (([V0_0] : List Value).toArray) w (fun e w' => ∃ v, e = .returned v ∧ v = .int .u64 r ∧ Gr w w') := by
  unfold octet_Read.f at h
  have fB : Gr w w := Fr.refl _ _
  refine calls_cw Try.func107 rfl Try.ntmps107 rfl ?_
  refine cw_seq ?_
  refine cw_region ?_
  refine ol_val (v := .int .u64 0) (by exact xr_assign rfl rfl) rfl rfl rfl ?_
  refine ol_nil ?_
  refine cw_seq ?_
  refine cw_region ?_
  refine ol_val (v := .int .u64 0) (by exact xr_assign rfl rfl) rfl rfl rfl ?_
  refine ol_nil ?_
  refine cw_seq ?_
  refine cw_seq ?_
  refine cw_region ?_
  refine ol_val (v := V0_0) (by exact xr_move rfl rfl) rfl rfl rfl ?_
  refine ol_val (v := V0_0) (by exact xr_move rfl rfl) rfl rfl rfl ?_
  refine ol_val (v := .int .i64 (List.length a0 : Int)) (by exact xr_lenR rfl Try.underlying38 rfl (R0_0.gr fB)) rfl rfl rfl ?_
  refine ol_val (v := .int .i64 (mnI (List.length a0 : Int) 8)) (by exact xr_min2 rfl rfl rfl) rfl rfl rfl ?_
  obtain ⟨g2, h⟩ := gs h
  refine ol_val (v := subv 1 V0_0 0 (Int.toNat (mnI (List.length a0 : Int) 8))) (by exact xr_slice_h (K := (kI .u8)) (v := V0_0) rfl Try.underlying38 sz5 rfl (R0_0.gr fB) rfl g2.1 g2.2) rfl rfl rfl ?_
  have r1 : Rd (kI .u8) w (subv 1 V0_0 0 (Int.toNat (mnI (List.length a0 : Int) 8))) (cut a0 0 (mnI (List.length a0 : Int) 8)) := (R0_0.gr fB).cut (lo := 0) (hi := (mnI (List.length a0 : Int) 8)) (by decide) g2.1 g2.2
  refine ol_val (v := .int .i64 (List.length (cut a0 0 (mnI (List.length a0 : Int) 8)) : Int)) (by exact xr_lenR rfl Try.underlying38 rfl r1) rfl rfl rfl ?_
  refine ol_val (v := .int .i64 0) (by exact xr_move rfl rfl) rfl rfl rfl ?_
  refine ol_nil ?_
  obtain ⟨e4, l5, h6⟩ := bs h
  refine cw_mid (fun ρ' w' => ρ' 3 = .int .u64 e4 ∧ Gr w w') ?_ ?_
  · refine cw_block ?_
    refine cw_round (fun (s3 : Int × Int) ρ' w' => Rd (kI .u8) w' (subv 1 V0_0 0 (Int.toNat (mnI (List.length a0 : Int) 8))) (cut a0 0 (mnI (List.length a0 : Int) 8)) ∧ ρ' 3 = .int .u64 s3.1 ∧ ρ' 10 = subv 1 V0_0 0 (Int.toNat (mnI (List.length a0 : Int) 8)) ∧ ρ' 11 = .int .i64 (List.length (cut a0 0 (mnI (List.length a0 : Int) 8)) : Int) ∧ ρ' 12 = .int .i64 s3.2 ∧ Gr w w') l5 ?_ ?_
    · skip
      exact ⟨r1, rfl, rfl, rfl, rfl, fB⟩
    · rintro s3 x9 ρ7 w8 ⟨r1, e3, e10, e11, e12, fB⟩ h
      unfold octet_Read.s0 at h
      refine cw_seq ?_
      refine cw_region ?_
      refine ol_val (v := .bool (decide (s3.2 < (List.length (cut a0 0 (mnI (List.length a0 : Int) 8)) : Int)))) (by exact xr_lss rfl e12 e11) rfl rfl rfl ?_
      refine ol_nil ?_
      refine cw_seq ?_
      rcases is h with ⟨c10, h⟩ | ⟨c10, h⟩
      · refine cw_condT rfl c10 ?_
        refine cw_skip ?_
        refine cw_seq ?_
        refine cw_block ?_
        refine cw_seq ?_
        refine cw_region ?_
        refine ol_val (v := .int .i64 s3.2) (by exact xr_move rfl e12) rfl rfl rfl ?_
        obtain ⟨g11, h⟩ := gs h
        refine ol_val (v := .pointer (some ⟨(sb (subv 1 V0_0 0 (Int.toNat (mnI (List.length a0 : Int) 8)))), so (subv 1 V0_0 0 (Int.toNat (mnI (List.length a0 : Int) 8))) + Int.toNat s3.2 * 1, none⟩)) (by exact xr_indexR (K := (kI .u8)) (v := subv 1 V0_0 0 (Int.toNat (mnI (List.length a0 : Int) 8))) rfl Try.underlying38 sz5 e10 r1 e12 g11.1 g11.2) rfl rfl rfl ?_
        refine ol_val (v := .int .u8 (ix (cut a0 0 (mnI (List.length a0 : Int) 8)) s3.2)) (by exact xr_load1 (v := .int .u8 (ix (cut a0 0 (mnI (List.length a0 : Int) 8)) s3.2)) rfl ag5 rfl (r1.elem g11.1 g11.2)) rfl rfl rfl ?_
        refine ol_val (v := .int .i64 s3.2) (by exact xr_assign rfl rfl) rfl rfl rfl ?_
        refine ol_val (v := .int .u8 (ix (cut a0 0 (mnI (List.length a0 : Int) 8)) s3.2)) (by exact xr_assign rfl rfl) rfl rfl rfl ?_
        refine ol_nil ?_
        refine cw_region ?_
        refine ol_val (v := .int .u64 s3.1) (by exact xr_move rfl e3) rfl rfl rfl ?_
        refine ol_val (v := .int .u8 (ix (cut a0 0 (mnI (List.length a0 : Int) 8)) s3.2)) (by exact xr_move rfl rfl) rfl rfl rfl ?_
        refine ol_val (v := .int .u64 (IntKind.u64.wrap (ix (cut a0 0 (mnI (List.length a0 : Int) 8)) s3.2))) (by exact xr_conv rfl Try.underlying5 Try.underlying132 rfl) rfl rfl rfl ?_
        refine ol_val (v := .int .i64 s3.2) (by exact xr_move rfl rfl) rfl rfl rfl ?_
        refine ol_val (v := .int .i64 (IntKind.i64.wrap (8 * s3.2))) (by exact xr_mul rfl rfl rfl) rfl rfl rfl ?_
        obtain ⟨g12, h⟩ := gs h
        refine ol_val (v := .int .u64 (shL .u64 (IntKind.u64.wrap (ix (cut a0 0 (mnI (List.length a0 : Int) 8)) s3.2)) (IntKind.i64.wrap (8 * s3.2)))) (by exact xr_shl rfl rfl rfl g12) rfl rfl rfl ?_
        refine ol_val (v := .int .u64 (bOr .u64 s3.1 (shL .u64 (IntKind.u64.wrap (ix (cut a0 0 (mnI (List.length a0 : Int) 8)) s3.2)) (IntKind.i64.wrap (8 * s3.2))))) (by exact xr_or rfl rfl rfl) rfl rfl rfl ?_
        refine ol_val (v := .int .u64 (bOr .u64 s3.1 (shL .u64 (IntKind.u64.wrap (ix (cut a0 0 (mnI (List.length a0 : Int) 8)) s3.2)) (IntKind.i64.wrap (8 * s3.2))))) (by exact xr_assign rfl rfl) rfl rfl rfl ?_
        refine ol_nil ?_
        refine blk_i ?_
        refine cw_region ?_
        refine ol_val (v := .int .i64 (IntKind.i64.wrap (s3.2 + 1))) (by exact xr_add rfl e12 rfl) rfl rfl rfl ?_
        refine ol_val (v := .int .i64 (IntKind.i64.wrap (s3.2 + 1))) (by exact xr_move rfl rfl) rfl rfl rfl ?_
        refine ol_nil ?_
        obtain rfl := Option.some.inj h
        refine lp_in ?_
        exact ⟨r1, rfl, e10, e11, rfl, fB⟩
      · refine cw_condF rfl c10 ?_
        refine cw_exit ?_
        repeat (first | with_reducible refine thn_e ?_ | with_reducible refine blk_e rfl ?_)
        obtain rfl := Option.some.inj h
        refine lp_exit ?_
        rintro rfl
        refine thn_x ?_
        exact ⟨e3, fB⟩
  · rintro ρ13 w14 ⟨e3, fB⟩
    have h := h6
    refine cw_seq ?_
    refine cw_region ?_
    refine ol_val (v := .int .u64 e4) (by exact xr_move rfl e3) rfl rfl rfl ?_
    refine ol_val (v := .int .u64 e4) (by exact xr_assign rfl rfl) rfl rfl rfl ?_
    refine ol_nil ?_
    refine cw_ret ?_
    repeat (first | with_reducible refine thn_r ?_ | with_reducible refine blk_r ?_)
    obtain rfl := Option.some.inj h
    refine fin_ret1 Try.results107 rfl ?_
    exact ⟨_, rfl, rfl, fB⟩
end Go.Proofs.Ytpdglhpohkkeiaa
