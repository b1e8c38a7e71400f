/- rickyard/crc.register: its model, and that the Go function computes it: written by gen.py. -/
import Derived.Test.YtpdglhpohkkeiaaBase
set_option linter.unusedVariables false
namespace Go.Proofs.Ytpdglhpohkkeiaa
open Go Go.Xw
def crc_register.s0 (fu : Nat) (a0 : Arr 16 Int) (a2 : List Int) : (Int × Int) → Option (Sum Int (Int × Int)) := fun s1 => (if (decide (s1.2 < (List.length a2 : Int))) = true then (if 0 ≤ s1.2 ∧ s1.2 < (List.length a2 : Int) then (if 0 ≤ (bAnd .u32 (bXor .u32 s1.1 (IntKind.u32.wrap (ix a2 s1.2))) 15) ∧ (bAnd .u32 (bXor .u32 s1.1 (IntKind.u32.wrap (ix a2 s1.2))) 15) < 16 then (if 0 ≤ (bAnd .u32 (bXor .u32 (shR .u32 (bXor .u32 s1.1 (IntKind.u32.wrap (ix a2 s1.2))) 4) (Arr.get a0 (bAnd .u32 (bXor .u32 s1.1 (IntKind.u32.wrap (ix a2 s1.2))) 15))) 15) ∧ (bAnd .u32 (bXor .u32 (shR .u32 (bXor .u32 s1.1 (IntKind.u32.wrap (ix a2 s1.2))) 4) (Arr.get a0 (bAnd .u32 (bXor .u32 s1.1 (IntKind.u32.wrap (ix a2 s1.2))) 15))) 15) < 16 then some (Sum.inr ((bXor .u32 (shR .u32 (bXor .u32 (shR .u32 (bXor .u32 s1.1 (IntKind.u32.wrap (ix a2 s1.2))) 4) (Arr.get a0 (bAnd .u32 (bXor .u32 s1.1 (IntKind.u32.wrap (ix a2 s1.2))) 15))) 4) (Arr.get a0 (bAnd .u32 (bXor .u32 (shR .u32 (bXor .u32 s1.1 (IntKind.u32.wrap (ix a2 s1.2))) 4) (Arr.get a0 (bAnd .u32 (bXor .u32 s1.1 (IntKind.u32.wrap (ix a2 s1.2))) 15))) 15))), (IntKind.i64.wrap (s1.2 + 1)))) else none) else none) else none) else some (Sum.inl (s1.1)))
def crc_register.f (fu : Nat) (a0 : Arr 16 Int) (a1 : Int) (a2 : List Int) : Option Int := ((loopM (crc_register.s0 fu a0 a2) fu (a1, 0)).bind fun e2 => some (e2))
set_option maxRecDepth 100000 in
set_option maxHeartbeats 400000 in
theorem crc_register.ok (fu : Nat) (w : World) (a0 : Arr 16 Int) (G_0 : Nat) (b_0 : Blk w G_0 158 [Kd.seg (kA 16 (kI .u32)) a0]) (a1 : Int) (a2 : List Int) (V2_0 : Value) (R2_0 : Rd (kI .u8) w V2_0 a2) (r : Int) (h : crc_register.f fu a0 a1 a2 = some r) :
    Calls Try.prog 130 (([.pointer (some ⟨G_0, 0, none⟩), .int .u32 a1, V2_0] : List Value).toArray) w (fun e w' => ∃ v, e = .returned v ∧ v = .int .u32 r ∧ Gr w w') := by
  unfold crc_register.f at h
  have fB : Gr w w := Fr.refl _ _
  refine calls_cw Try.func130 rfl Try.ntmps130 rfl ?_
  refine cw_seq ?_
  refine cw_region ?_
  refine ol_val (v := .int .u32 0) (by exact xr_assign rfl rfl) rfl rfl rfl ?_
  refine ol_nil ?_
  refine cw_seq ?_
  refine cw_seq ?_
  refine cw_region ?_
  refine ol_val (v := V2_0) (by exact xr_move rfl rfl) rfl rfl rfl ?_
  refine ol_val (v := .int .i64 (List.length a2 : Int)) (by exact xr_lenR rfl Try.underlying38 rfl (R2_0.gr fB)) rfl rfl rfl ?_
  refine ol_val (v := .int .i64 0) (by exact xr_move rfl rfl) rfl rfl rfl ?_
  refine ol_nil ?_
  obtain ⟨e2, l3, h4⟩ := bs h
  refine cw_mid (fun ρ' w' => ρ' 1 = .int .u32 e2 ∧ Blk w' G_0 158 [Kd.seg (kA 16 (kI .u32)) a0] ∧ Gr w w') ?_ ?_
  · refine cw_block ?_
    refine cw_round (fun (s1 : Int × Int) ρ' w' => ρ' 0 = .pointer (some ⟨G_0, 0, none⟩) ∧ ρ' 1 = .int .u32 s1.1 ∧ ρ' 9 = V2_0 ∧ ρ' 10 = .int .i64 (List.length a2 : Int) ∧ ρ' 11 = .int .i64 s1.2 ∧ Blk w' G_0 158 [Kd.seg (kA 16 (kI .u32)) a0] ∧ Gr w w') l3 ?_ ?_
    · skip
      exact ⟨rfl, rfl, rfl, rfl, rfl, b_0, fB⟩
    · rintro s1 x7 ρ5 w6 ⟨e0, e1, e9, e10, e11, b_0, fB⟩ h
      unfold crc_register.s0 at h
      refine cw_seq ?_
      refine cw_region ?_
      refine ol_val (v := .bool (decide (s1.2 < (List.length a2 : Int)))) (by exact xr_lss rfl e11 e10) rfl rfl rfl ?_
      refine ol_nil ?_
      refine cw_seq ?_
      rcases is h with ⟨c8, h⟩ | ⟨c8, h⟩
      · refine cw_condT rfl c8 ?_
        refine cw_skip ?_
        refine cw_seq ?_
        refine cw_block ?_
        refine cw_seq ?_
        refine cw_region ?_
        obtain ⟨g9, h⟩ := gs h
        refine ol_val (v := .pointer (some ⟨(sb V2_0), so V2_0 + Int.toNat s1.2 * 1, none⟩)) (by exact xr_indexR (K := (kI .u8)) (v := V2_0) rfl Try.underlying38 sz5 e9 (R2_0.gr fB) e11 g9.1 g9.2) rfl rfl rfl ?_
        refine ol_val (v := .int .u8 (ix a2 s1.2)) (by exact xr_load1 (v := .int .u8 (ix a2 s1.2)) rfl ag5 rfl ((R2_0.gr fB).elem g9.1 g9.2)) rfl rfl rfl ?_
        refine ol_val (v := .int .u8 (ix a2 s1.2)) (by exact xr_assign rfl rfl) rfl rfl rfl ?_
        refine ol_nil ?_
        refine cw_seq ?_
        refine cw_region ?_
        refine ol_val (v := .int .u32 s1.1) (by exact xr_move rfl e1) rfl rfl rfl ?_
        refine ol_val (v := .int .u8 (ix a2 s1.2)) (by exact xr_move rfl rfl) rfl rfl rfl ?_
        refine ol_val (v := .int .u32 (IntKind.u32.wrap (ix a2 s1.2))) (by exact xr_conv rfl Try.underlying5 Try.underlying51 rfl) rfl rfl rfl ?_
        refine ol_val (v := .int .u32 (bXor .u32 s1.1 (IntKind.u32.wrap (ix a2 s1.2)))) (by exact xr_xor rfl rfl rfl) rfl rfl rfl ?_
        refine ol_val (v := .int .u32 (bXor .u32 s1.1 (IntKind.u32.wrap (ix a2 s1.2)))) (by exact xr_assign rfl rfl) rfl rfl rfl ?_
        refine ol_nil ?_
        refine cw_seq ?_
        refine cw_region ?_
        refine ol_val (v := .int .u32 (bXor .u32 s1.1 (IntKind.u32.wrap (ix a2 s1.2)))) (by exact xr_move rfl rfl) rfl rfl rfl ?_
        refine ol_val (v := .int .u32 (shR .u32 (bXor .u32 s1.1 (IntKind.u32.wrap (ix a2 s1.2))) 4)) (by exact xr_shr rfl rfl rfl (by decide)) rfl rfl rfl ?_
        refine ol_val (v := .pointer (some ⟨G_0, 0, none⟩)) (by exact xr_move rfl e0) rfl rfl rfl ?_
        refine ol_val (v := .int .u32 (bXor .u32 s1.1 (IntKind.u32.wrap (ix a2 s1.2)))) (by exact xr_move rfl rfl) rfl rfl rfl ?_
        refine ol_val (v := .int .u32 (bAnd .u32 (bXor .u32 s1.1 (IntKind.u32.wrap (ix a2 s1.2))) 15)) (by exact xr_and rfl rfl rfl) rfl rfl rfl ?_
        refine ol_val (v := .pointer (some ⟨G_0, 0, none⟩)) (by exact xr_nilCheck rfl rfl) rfl rfl rfl ?_
        obtain ⟨g10, h⟩ := gs h
        refine ol_val (v := .pointer (some ⟨G_0, 0 + Int.toNat (bAnd .u32 (bXor .u32 s1.1 (IntKind.u32.wrap (ix a2 s1.2))) 15) * 1, none⟩)) (by exact xr_indexA (p := 0) (s := 1) rfl Try.underlying158 sz51 rfl rfl g10.1 g10.2) rfl rfl rfl ?_
        refine ol_val (v := .int .u32 (Arr.get a0 (bAnd .u32 (bXor .u32 s1.1 (IntKind.u32.wrap (ix a2 s1.2))) 15))) (by exact xr_load1 (v := .int .u32 (Arr.get a0 (bAnd .u32 (bXor .u32 s1.1 (IntKind.u32.wrap (ix a2 s1.2))) 15))) rfl ag51 rfl (At.arr (a := a0) (b_0.seg 0 rfl rfl) g10.1 g10.2)) rfl rfl rfl ?_
        refine ol_val (v := .int .u32 (bXor .u32 (shR .u32 (bXor .u32 s1.1 (IntKind.u32.wrap (ix a2 s1.2))) 4) (Arr.get a0 (bAnd .u32 (bXor .u32 s1.1 (IntKind.u32.wrap (ix a2 s1.2))) 15)))) (by exact xr_xor rfl rfl rfl) rfl rfl rfl ?_
        refine ol_val (v := .int .u32 (bXor .u32 (shR .u32 (bXor .u32 s1.1 (IntKind.u32.wrap (ix a2 s1.2))) 4) (Arr.get a0 (bAnd .u32 (bXor .u32 s1.1 (IntKind.u32.wrap (ix a2 s1.2))) 15)))) (by exact xr_assign rfl rfl) rfl rfl rfl ?_
        refine ol_nil ?_
        refine cw_region ?_
        refine ol_val (v := .int .u32 (bXor .u32 (shR .u32 (bXor .u32 s1.1 (IntKind.u32.wrap (ix a2 s1.2))) 4) (Arr.get a0 (bAnd .u32 (bXor .u32 s1.1 (IntKind.u32.wrap (ix a2 s1.2))) 15)))) (by exact xr_move rfl rfl) rfl rfl rfl ?_
        refine ol_val (v := .int .u32 (shR .u32 (bXor .u32 (shR .u32 (bXor .u32 s1.1 (IntKind.u32.wrap (ix a2 s1.2))) 4) (Arr.get a0 (bAnd .u32 (bXor .u32 s1.1 (IntKind.u32.wrap (ix a2 s1.2))) 15))) 4)) (by exact xr_shr rfl rfl rfl (by decide)) rfl rfl rfl ?_
        refine ol_val (v := .pointer (some ⟨G_0, 0, none⟩)) (by exact xr_move rfl e0) rfl rfl rfl ?_
        refine ol_val (v := .int .u32 (bXor .u32 (shR .u32 (bXor .u32 s1.1 (IntKind.u32.wrap (ix a2 s1.2))) 4) (Arr.get a0 (bAnd .u32 (bXor .u32 s1.1 (IntKind.u32.wrap (ix a2 s1.2))) 15)))) (by exact xr_move rfl rfl) rfl rfl rfl ?_
        refine ol_val (v := .int .u32 (bAnd .u32 (bXor .u32 (shR .u32 (bXor .u32 s1.1 (IntKind.u32.wrap (ix a2 s1.2))) 4) (Arr.get a0 (bAnd .u32 (bXor .u32 s1.1 (IntKind.u32.wrap (ix a2 s1.2))) 15))) 15)) (by exact xr_and rfl rfl rfl) rfl rfl rfl ?_
        refine ol_val (v := .pointer (some ⟨G_0, 0, none⟩)) (by exact xr_nilCheck rfl rfl) rfl rfl rfl ?_
        obtain ⟨g11, h⟩ := gs h
        refine ol_val (v := .pointer (some ⟨G_0, 0 + Int.toNat (bAnd .u32 (bXor .u32 (shR .u32 (bXor .u32 s1.1 (IntKind.u32.wrap (ix a2 s1.2))) 4) (Arr.get a0 (bAnd .u32 (bXor .u32 s1.1 (IntKind.u32.wrap (ix a2 s1.2))) 15))) 15) * 1, none⟩)) (by exact xr_indexA (p := 0) (s := 1) rfl Try.underlying158 sz51 rfl rfl g11.1 g11.2) rfl rfl rfl ?_
        refine ol_val (v := .int .u32 (Arr.get a0 (bAnd .u32 (bXor .u32 (shR .u32 (bXor .u32 s1.1 (IntKind.u32.wrap (ix a2 s1.2))) 4) (Arr.get a0 (bAnd .u32 (bXor .u32 s1.1 (IntKind.u32.wrap (ix a2 s1.2))) 15))) 15))) (by exact xr_load1 (v := .int .u32 (Arr.get a0 (bAnd .u32 (bXor .u32 (shR .u32 (bXor .u32 s1.1 (IntKind.u32.wrap (ix a2 s1.2))) 4) (Arr.get a0 (bAnd .u32 (bXor .u32 s1.1 (IntKind.u32.wrap (ix a2 s1.2))) 15))) 15))) rfl ag51 rfl (At.arr (a := a0) (b_0.seg 0 rfl rfl) g11.1 g11.2)) rfl rfl rfl ?_
        refine ol_val (v := .int .u32 (bXor .u32 (shR .u32 (bXor .u32 (shR .u32 (bXor .u32 s1.1 (IntKind.u32.wrap (ix a2 s1.2))) 4) (Arr.get a0 (bAnd .u32 (bXor .u32 s1.1 (IntKind.u32.wrap (ix a2 s1.2))) 15))) 4) (Arr.get a0 (bAnd .u32 (bXor .u32 (shR .u32 (bXor .u32 s1.1 (IntKind.u32.wrap (ix a2 s1.2))) 4) (Arr.get a0 (bAnd .u32 (bXor .u32 s1.1 (IntKind.u32.wrap (ix a2 s1.2))) 15))) 15)))) (by exact xr_xor rfl rfl rfl) rfl rfl rfl ?_
        refine ol_val (v := .int .u32 (bXor .u32 (shR .u32 (bXor .u32 (shR .u32 (bXor .u32 s1.1 (IntKind.u32.wrap (ix a2 s1.2))) 4) (Arr.get a0 (bAnd .u32 (bXor .u32 s1.1 (IntKind.u32.wrap (ix a2 s1.2))) 15))) 4) (Arr.get a0 (bAnd .u32 (bXor .u32 (shR .u32 (bXor .u32 s1.1 (IntKind.u32.wrap (ix a2 s1.2))) 4) (Arr.get a0 (bAnd .u32 (bXor .u32 s1.1 (IntKind.u32.wrap (ix a2 s1.2))) 15))) 15)))) (by exact xr_assign rfl rfl) rfl rfl rfl ?_
        refine ol_nil ?_
        refine blk_i ?_
        refine cw_region ?_
        refine ol_val (v := .int .i64 (IntKind.i64.wrap (s1.2 + 1))) (by exact xr_add rfl e11 rfl) rfl rfl rfl ?_
        refine ol_val (v := .int .i64 (IntKind.i64.wrap (s1.2 + 1))) (by exact xr_move rfl rfl) rfl rfl rfl ?_
        refine ol_nil ?_
        obtain rfl := Option.some.inj h
        refine lp_in ?_
        exact ⟨e0, rfl, e9, e10, rfl, b_0, fB⟩
      · refine cw_condF rfl c8 ?_
        refine cw_exit ?_
        repeat (first | with_reducible refine thn_e ?_ | with_reducible refine blk_e rfl ?_)
        obtain rfl := Option.some.inj h
        refine lp_exit ?_
        rintro rfl
        refine thn_x ?_
        exact ⟨e1, b_0, fB⟩
  · rintro ρ12 w13 ⟨e1, b_0, fB⟩
    have h := h4
    refine cw_seq ?_
    refine cw_region ?_
    refine ol_val (v := .int .u32 e2) (by exact xr_move rfl e1) rfl rfl rfl ?_
    refine ol_val (v := .int .u32 e2) (by exact xr_assign rfl rfl) rfl rfl rfl ?_
    refine ol_nil ?_
    refine cw_ret ?_
    repeat (first | with_reducible refine thn_r ?_ | with_reducible refine blk_r ?_)
    obtain rfl := Option.some.inj h
    refine fin_ret1 Try.results130 rfl ?_
    exact ⟨_, rfl, rfl, fB⟩
end Go.Proofs.Ytpdglhpohkkeiaa
