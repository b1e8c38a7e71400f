/- rickyard/octet.Lay: its model, and that the Go function computes it: written by gen.py. -/
import Derived.Test.YtpdglhpohkkeiaaBase
set_option linter.unusedVariables false
namespace Go.Proofs.Ytpdglhpohkkeiaa
open Go Go.Xw
def octet_Lay.s0 (fu : Nat) (a1 : Int) : (Int × Int × (List Int)) → Option (Sum (List Int) (Int × Int × (List Int))) := fun s14 => (if (decide (s14.2.1 < (List.length (List.replicate (Int.toNat a1) (0 : Int)) : Int))) = true then (if 0 ≤ s14.2.1 ∧ s14.2.1 < (List.length s14.2.2 : Int) then some (Sum.inr ((shR .u64 s14.1 8), (IntKind.i64.wrap (s14.2.1 + 1)), (List.set s14.2.2 (Int.toNat s14.2.1) (IntKind.u8.wrap s14.1)))) else none) else some (Sum.inl (s14.2.2)))
def octet_Lay.f (fu : Nat) (a0 : Int) (a1 : Int) : Option (List Int) := (if (if (decide (a1 < 0)) = true then true else (decide (a1 > 8))) = true then some ([]) else (if 0 ≤ a1 ∧ Int.toNat a1 ≤ LIM then ((loopM (octet_Lay.s0 fu a1) fu (a0, 0, (List.replicate (Int.toNat a1) (0 : Int)))).bind fun e15 => some (e15)) else none))
set_option maxRecDepth 100000 in
set_option maxHeartbeats 400000 in
theorem octet_Lay.ok (fu : Nat) (w : World) (a0 : Int) (a1 : Int) (r : (List Int)) (h : octet_Lay.f fu a0 a1 = some r) :
    Calls Try.prog 98 (([.int .u64 a0, .int .i64 a1] : List Value).toArray) w (fun e w' => ∃ v, e = .returned v ∧ ∃ u1 : Value, ∃ o2 : Own (kI .u8) 5 w' w.heap.size u1 r, v = u1 ∧ Gr w w') := by
  unfold octet_Lay.f at h
  have fB : Gr w w := Fr.refl _ _
  refine calls_cw Try.func98 rfl Try.ntmps98 rfl ?_
  refine cw_seq ?_
  refine cw_region ?_
  refine ol_val (v := .slice none 0 0) (by exact xr_assign rfl rfl) rfl rfl rfl ?_
  refine ol_nil ?_
  refine cw_seq ?_
  refine cw_seq ?_
  refine cw_mid (fun ρ' w' => ρ' 0 = .int .u64 a0 ∧ ρ' 1 = .int .i64 a1 ∧ ρ' 12 = .bool (if (decide (a1 < 0)) = true then true else (decide (a1 > 8))) ∧ w = w') ?_ ?_
  · skip
    refine cw_region ?_
    refine ol_val (v := .int .i64 a1) (by exact xr_move rfl rfl) rfl rfl rfl ?_
    refine ol_val (v := .bool (decide (a1 < 0))) (by exact xr_lss rfl rfl rfl) rfl rfl rfl ?_
    refine ol_val (v := .bool (decide (a1 < 0))) (by exact xr_move rfl rfl) rfl rfl rfl ?_
    rcases bt (decide (a1 < 0)) with c4 | c4
    · skip
      refine ol_gskip rfl rfl rfl rfl rfl c4 ?_
      refine ol_gskip rfl rfl rfl rfl rfl c4 ?_
      refine ol_val (v := .bool true) (by exact xr_pickT rfl rfl c4 rfl) rfl rfl rfl ?_
      refine ol_nil ?_
      refine thn_i ?_
      exact ⟨rfl, rfl, (rfl).trans (congrArg (fun z => (.bool z : Value)) (show true = (if (decide (a1 < 0)) = true then true else (decide (a1 > 8))) from by rw [ite_t c4])), rfl⟩
    · skip
      refine ol_gval (v := .int .i64 a1) (by exact xr_move rfl rfl) rfl rfl rfl rfl rfl c4 ?_
      refine ol_gval (v := .bool (decide (a1 > 8))) (by exact xr_gtr rfl rfl rfl) rfl rfl rfl rfl rfl c4 ?_
      refine ol_val (v := .bool (decide (a1 > 8))) (by exact xr_pickF rfl rfl c4 rfl) rfl rfl rfl ?_
      refine ol_nil ?_
      refine thn_i ?_
      exact ⟨rfl, rfl, (rfl).trans (congrArg (fun z => (.bool z : Value)) (show (decide (a1 > 8)) = (if (decide (a1 < 0)) = true then true else (decide (a1 > 8))) from by rw [ite_f c4])), rfl⟩
  · skip
    rintro ρ5 _ ⟨e0, e1, e12, rfl⟩
    rcases is h with ⟨c6, h⟩ | ⟨c6, h⟩
    · refine cw_condT e12 c6 ?_
      refine cw_seq ?_
      refine cw_region ?_
      refine ol_val (v := .slice none 0 0) (by exact xr_assign rfl rfl) rfl rfl rfl ?_
      refine ol_nil ?_
      refine cw_ret ?_
      repeat (first | with_reducible refine thn_r ?_ | with_reducible refine blk_r ?_)
      obtain rfl := Option.some.inj h
      refine fin_ret1 Try.results98 rfl ?_
      exact ⟨_, rfl, (.slice none 0 0), Own.nil _ _ _ _, rfl, fB⟩
    · refine cw_condF e12 c6 ?_
      refine cw_skip ?_
      refine cw_seq ?_
      refine cw_region ?_
      refine ol_val (v := .int .i64 a1) (by exact xr_move rfl e1) rfl rfl rfl ?_
      obtain ⟨g7, h⟩ := gs h
      refine ol_op (by exact opv_make (K := (kI .u8)) (z := (0 : Int)) rfl Try.underlying38 el5 rfl rfl rfl g7.1 g7.2 rfl fB.size) rfl rfl rfl ?_
      rintro v8 w13 ⟨o10, q9, z11⟩
      have fB := fB.gr q9
      refine ol_val (v := v8) (by exact xr_assign rfl rfl) rfl rfl rfl ?_
      refine ol_nil ?_
      refine cw_seq ?_
      refine cw_seq ?_
      refine cw_region ?_
      refine ol_val (v := v8) (by exact xr_move rfl rfl) rfl rfl rfl ?_
      refine ol_val (v := .int .i64 (List.length (List.replicate (Int.toNat a1) (0 : Int)) : Int)) (by exact xr_lenR rfl Try.underlying38 rfl o10.rd) rfl rfl rfl ?_
      refine ol_val (v := .int .i64 0) (by exact xr_move rfl rfl) rfl rfl rfl ?_
      refine ol_nil ?_
      obtain ⟨e15, l16, h17⟩ := bs h
      refine cw_mid (fun ρ' w' => Own (kI .u8) 5 w' w.heap.size v8 e15 ∧ ρ' 5 = v8 ∧ Gr w w') ?_ ?_
      · refine cw_block ?_
        refine cw_round (fun (s14 : Int × Int × (List Int)) ρ' w' => Own (kI .u8) 5 w' w.heap.size v8 s14.2.2 ∧ ρ' 0 = .int .u64 s14.1 ∧ ρ' 5 = v8 ∧ ρ' 16 = .int .i64 (List.length (List.replicate (Int.toNat a1) (0 : Int)) : Int) ∧ ρ' 17 = .int .i64 s14.2.1 ∧ Gr w w') l16 ?_ ?_
        · skip
          exact ⟨o10, e0, rfl, rfl, rfl, fB⟩
        · rintro s14 x20 ρ18 w19 ⟨o10, e0, e5, e16, e17, fB⟩ h
          unfold octet_Lay.s0 at h
          refine cw_seq ?_
          refine cw_region ?_
          refine ol_val (v := .bool (decide (s14.2.1 < (List.length (List.replicate (Int.toNat a1) (0 : Int)) : Int)))) (by exact xr_lss rfl e17 e16) rfl rfl rfl ?_
          refine ol_nil ?_
          refine cw_seq ?_
          rcases is h with ⟨c21, h⟩ | ⟨c21, h⟩
          · refine cw_condT rfl c21 ?_
            refine cw_skip ?_
            refine cw_seq ?_
            refine cw_block ?_
            refine cw_seq ?_
            refine cw_region ?_
            refine ol_val (v := .int .i64 s14.2.1) (by exact xr_move rfl e17) rfl rfl rfl ?_
            refine ol_val (v := .int .i64 s14.2.1) (by exact xr_assign rfl rfl) rfl rfl rfl ?_
            refine ol_nil ?_
            refine cw_seq ?_
            refine cw_region ?_
            refine ol_val (v := v8) (by exact xr_move rfl e5) rfl rfl rfl ?_
            refine ol_val (v := .int .i64 s14.2.1) (by exact xr_move rfl rfl) rfl rfl rfl ?_
            refine ol_val (v := .int .u64 s14.1) (by exact xr_move rfl e0) rfl rfl rfl ?_
            refine ol_val (v := .int .u8 (IntKind.u8.wrap s14.1)) (by exact xr_conv rfl Try.underlying132 Try.underlying5 rfl) rfl rfl rfl ?_
            obtain ⟨g22, h⟩ := gs h
            refine ol_val (v := .pointer (some ⟨(sb v8), so v8 + Int.toNat s14.2.1 * 1, none⟩)) (by exact xr_indexR (K := (kI .u8)) (v := v8) rfl Try.underlying38 sz5 rfl o10.rd rfl g22.1 g22.2) rfl rfl rfl ?_
            have f24 := o10.geO
            refine ol_op0 (by exact opv_storeRow (z := (IntKind.u8.wrap s14.1)) (xs := cellsOf [Seg.cell (.int .u8 (IntKind.u8.wrap s14.1))]) rfl sz5 rfl rfl rfl (len_cellsOf _) (one_cellsOf _) o10 g22.1 g22.2 (Spl.whole ((Kd.len _ _).trans (Kd.len _ _).symm)) rfl) rfl rfl ?_
            rintro _ w25 ⟨o10, q23⟩
            have fB := fB.wrO q23 f24
            refine ol_nil ?_
            refine cw_region ?_
            refine ol_val (v := .int .u64 s14.1) (by exact xr_move rfl e0) rfl rfl rfl ?_
            refine ol_val (v := .int .u64 (shR .u64 s14.1 8)) (by exact xr_shr rfl rfl rfl (by decide)) rfl rfl rfl ?_
            refine ol_val (v := .int .u64 (shR .u64 s14.1 8)) (by exact xr_assign rfl rfl) rfl rfl rfl ?_
            refine ol_nil ?_
            refine blk_i ?_
            refine cw_region ?_
            refine ol_val (v := .int .i64 (IntKind.i64.wrap (s14.2.1 + 1))) (by exact xr_add rfl e17 rfl) rfl rfl rfl ?_
            refine ol_val (v := .int .i64 (IntKind.i64.wrap (s14.2.1 + 1))) (by exact xr_move rfl rfl) rfl rfl rfl ?_
            refine ol_nil ?_
            obtain rfl := Option.some.inj h
            refine lp_in ?_
            exact ⟨o10, rfl, e5, e16, rfl, fB⟩
          · refine cw_condF rfl c21 ?_
            refine cw_exit ?_
            repeat (first | with_reducible refine thn_e ?_ | with_reducible refine blk_e rfl ?_)
            obtain rfl := Option.some.inj h
            refine lp_exit ?_
            rintro rfl
            refine thn_x ?_
            exact ⟨o10, e5, fB⟩
      · rintro ρ26 w27 ⟨o10, e5, fB⟩
        have h := h17
        refine cw_seq ?_
        refine cw_region ?_
        refine ol_val (v := v8) (by exact xr_move rfl e5) rfl rfl rfl ?_
        refine ol_val (v := v8) (by exact xr_assign rfl rfl) rfl rfl rfl ?_
        refine ol_nil ?_
        refine cw_ret ?_
        repeat (first | with_reducible refine thn_r ?_ | with_reducible refine blk_r ?_)
        obtain rfl := Option.some.inj h
        refine fin_ret1 Try.results98 rfl ?_
        exact ⟨_, rfl, v8, o10, rfl, fB⟩
end Go.Proofs.Ytpdglhpohkkeiaa
