/- NodeGets: texts merged, part 3 of 5. The last part proves that the law NodeGets holds for every input. -/
import Derived.Test.YtjhajfkfhdnciaaPkNodeGets2
/- rickyard/octet.Lay: its model, and that the Go function computes it: written by gen.py. -/
set_option linter.unusedVariables false
namespace Go.Proofs.Ytjhajfkfhdnciaa
open Go Go.Xw
def octet_Lay.s0 (fu : Nat) (a1 : Int) : (Int × Int × (List Int)) → Option (Sum (List Int) (Int × Int × (List Int))) := fun s14 => (if (decide (s14.2.1 < (List.length (List.replicate (Int.toNat a1) (0 : Int)) : Int))) = true then (if 0 ≤ s14.2.1 ∧ s14.2.1 < (List.length s14.2.2 : Int) then some (Sum.inr ((shR .u64 s14.1 8), (IntKind.i64.wrap (s14.2.1 + 1)), (List.set s14.2.2 (Int.toNat s14.2.1) (IntKind.u8.wrap s14.1)))) else none) else some (Sum.inl (s14.2.2)))
def octet_Lay.f (fu : Nat) (a0 : Int) (a1 : Int) : Option (List Int) := (if (if (decide (a1 < 0)) = true then true else (decide (a1 > 8))) = true then some ([]) else (if 0 ≤ a1 ∧ Int.toNat a1 ≤ LIM then ((loopM (octet_Lay.s0 fu a1) fu (a0, 0, (List.replicate (Int.toNat a1) (0 : Int)))).bind fun e15 => some (e15)) else none))
set_option maxRecDepth 100000 in
set_option maxHeartbeats 400000 in
theorem octet_Lay.ok (fu : Nat) (w : World) (a0 : Int) (a1 : Int) (r : (List Int)) (h : octet_Lay.f fu a0 a1 = some r) :
    Calls Try.prog 95 (([.int .u64 a0, .int .i64 a1] : List Value).toArray) w (fun e w' => ∃ v, e = .returned v ∧ ∃ u1 : Value, ∃ o2 : Own (kI .u8) 5 w' w.heap.size u1 r, v = u1 ∧ Gr w w') := by
  unfold octet_Lay.f at h
  have fB : Gr w w := Fr.refl _ _
  refine calls_cw Try.func95 rfl Try.ntmps95 rfl ?_
  refine cw_seq ?_
  refine cw_region ?_
  refine ol_val (v := .slice none 0 0) (by exact xr_assign rfl rfl) rfl rfl rfl ?_
  refine ol_nil ?_
  refine cw_seq ?_
  refine cw_seq ?_
  refine cw_mid (fun ρ' w' => ρ' 0 = .int .u64 a0 ∧ ρ' 1 = .int .i64 a1 ∧ ρ' 12 = .bool (if (decide (a1 < 0)) = true then true else (decide (a1 > 8))) ∧ w = w') ?_ ?_
  · skip
    refine cw_region ?_
    refine ol_val (v := .int .i64 a1) (by exact xr_move rfl rfl) rfl rfl rfl ?_
    refine ol_val (v := .bool (decide (a1 < 0))) (by exact xr_lss rfl rfl rfl) rfl rfl rfl ?_
    refine ol_val (v := .bool (decide (a1 < 0))) (by exact xr_move rfl rfl) rfl rfl rfl ?_
    rcases bt (decide (a1 < 0)) with c4 | c4
    · skip
      refine ol_gskip rfl rfl rfl rfl rfl c4 ?_
      refine ol_gskip rfl rfl rfl rfl rfl c4 ?_
      refine ol_val (v := .bool true) (by exact xr_pickT rfl rfl c4 rfl) rfl rfl rfl ?_
      refine ol_nil ?_
      refine thn_i ?_
      exact ⟨rfl, rfl, (rfl).trans (congrArg (fun z => (.bool z : Value)) (show true = (if (decide (a1 < 0)) = true then true else (decide (a1 > 8))) from by rw [ite_t c4])), rfl⟩
    · skip
      refine ol_gval (v := .int .i64 a1) (by exact xr_move rfl rfl) rfl rfl rfl rfl rfl c4 ?_
      refine ol_gval (v := .bool (decide (a1 > 8))) (by exact xr_gtr rfl rfl rfl) rfl rfl rfl rfl rfl c4 ?_
      refine ol_val (v := .bool (decide (a1 > 8))) (by exact xr_pickF rfl rfl c4 rfl) rfl rfl rfl ?_
      refine ol_nil ?_
      refine thn_i ?_
      exact ⟨rfl, rfl, (rfl).trans (congrArg (fun z => (.bool z : Value)) (show (decide (a1 > 8)) = (if (decide (a1 < 0)) = true then true else (decide (a1 > 8))) from by rw [ite_f c4])), rfl⟩
  · skip
    rintro ρ5 _ ⟨e0, e1, e12, rfl⟩
    rcases is h with ⟨c6, h⟩ | ⟨c6, h⟩
    · refine cw_condT e12 c6 ?_
      refine cw_seq ?_
      refine cw_region ?_
      refine ol_val (v := .slice none 0 0) (by exact xr_assign rfl rfl) rfl rfl rfl ?_
      refine ol_nil ?_
      refine cw_ret ?_
      repeat (first | with_reducible refine thn_r ?_ | with_reducible refine blk_r ?_)
      obtain rfl := Option.some.inj h
      refine fin_ret1 Try.results95 rfl ?_
      exact ⟨_, rfl, (.slice none 0 0), Own.nil _ _ _ _, rfl, fB⟩
    · refine cw_condF e12 c6 ?_
      refine cw_skip ?_
      refine cw_seq ?_
      refine cw_region ?_
      refine ol_val (v := .int .i64 a1) (by exact xr_move rfl e1) rfl rfl rfl ?_
      obtain ⟨g7, h⟩ := gs h
      refine ol_op (by exact opv_make (K := (kI .u8)) (z := (0 : Int)) rfl Try.underlying22 el5 rfl rfl rfl g7.1 g7.2 rfl fB.size) rfl rfl rfl ?_
      rintro v8 w13 ⟨o10, q9, z11⟩
      have fB := fB.gr q9
      refine ol_val (v := v8) (by exact xr_assign rfl rfl) rfl rfl rfl ?_
      refine ol_nil ?_
      refine cw_seq ?_
      refine cw_seq ?_
      refine cw_region ?_
      refine ol_val (v := v8) (by exact xr_move rfl rfl) rfl rfl rfl ?_
      refine ol_val (v := .int .i64 (List.length (List.replicate (Int.toNat a1) (0 : Int)) : Int)) (by exact xr_lenR rfl Try.underlying22 rfl o10.rd) rfl rfl rfl ?_
      refine ol_val (v := .int .i64 0) (by exact xr_move rfl rfl) rfl rfl rfl ?_
      refine ol_nil ?_
      obtain ⟨e15, l16, h17⟩ := bs h
      refine cw_mid (fun ρ' w' => ∃ o10 : Own (kI .u8) 5 w' w.heap.size v8 e15, ρ' 5 = v8 ∧ Gr w w') ?_ ?_
      · refine cw_block ?_
        refine cw_round (fun (s14 : Int × Int × (List Int)) ρ' w' => ∃ o10 : Own (kI .u8) 5 w' w.heap.size v8 s14.2.2, ρ' 0 = .int .u64 s14.1 ∧ ρ' 5 = v8 ∧ ρ' 16 = .int .i64 (List.length (List.replicate (Int.toNat a1) (0 : Int)) : Int) ∧ ρ' 17 = .int .i64 s14.2.1 ∧ Gr w w') l16 ?_ ?_
        · skip
          exact ⟨o10, e0, rfl, rfl, rfl, fB⟩
        · rintro s14 x20 ρ18 w19 ⟨o10, e0, e5, e16, e17, fB⟩ h
          unfold octet_Lay.s0 at h
          refine cw_seq ?_
          refine cw_region ?_
          refine ol_val (v := .bool (decide (s14.2.1 < (List.length (List.replicate (Int.toNat a1) (0 : Int)) : Int)))) (by exact xr_lss rfl e17 e16) rfl rfl rfl ?_
          refine ol_nil ?_
          refine cw_seq ?_
          rcases is h with ⟨c21, h⟩ | ⟨c21, h⟩
          · refine cw_condT rfl c21 ?_
            refine cw_skip ?_
            refine cw_seq ?_
            refine cw_block ?_
            refine cw_seq ?_
            refine cw_region ?_
            refine ol_val (v := .int .i64 s14.2.1) (by exact xr_move rfl e17) rfl rfl rfl ?_
            refine ol_val (v := .int .i64 s14.2.1) (by exact xr_assign rfl rfl) rfl rfl rfl ?_
            refine ol_nil ?_
            refine cw_seq ?_
            refine cw_region ?_
            refine ol_val (v := v8) (by exact xr_move rfl e5) rfl rfl rfl ?_
            refine ol_val (v := .int .i64 s14.2.1) (by exact xr_move rfl rfl) rfl rfl rfl ?_
            refine ol_val (v := .int .u64 s14.1) (by exact xr_move rfl e0) rfl rfl rfl ?_
            refine ol_val (v := .int .u8 (IntKind.u8.wrap s14.1)) (by exact xr_conv rfl Try.underlying129 Try.underlying5 rfl) rfl rfl rfl ?_
            obtain ⟨g22, h⟩ := gs h
            refine ol_val (v := .pointer (some ⟨(sb v8), so v8 + Int.toNat s14.2.1 * 1, none⟩)) (by exact xr_indexR (K := (kI .u8)) (v := v8) rfl Try.underlying22 sz5 rfl o10.rd rfl g22.1 g22.2) rfl rfl rfl ?_
            have f24 := o10.geO
            refine ol_op0 (by exact opv_storeRow (z := (IntKind.u8.wrap s14.1)) (xs := cellsOf [Seg.cell (.int .u8 (IntKind.u8.wrap s14.1))]) rfl sz5 rfl rfl rfl (len_cellsOf _) (one_cellsOf _) o10 g22.1 g22.2 (Spl.whole ((Kd.len _ _).trans (Kd.len _ _).symm)) rfl) rfl rfl ?_
            rintro _ w25 ⟨o10, q23⟩
            have fB := fB.wrO q23 f24
            refine ol_nil ?_
            refine cw_region ?_
            refine ol_val (v := .int .u64 s14.1) (by exact xr_move rfl e0) rfl rfl rfl ?_
            refine ol_val (v := .int .u64 (shR .u64 s14.1 8)) (by exact xr_shr rfl rfl rfl (by decide)) rfl rfl rfl ?_
            refine ol_val (v := .int .u64 (shR .u64 s14.1 8)) (by exact xr_assign rfl rfl) rfl rfl rfl ?_
            refine ol_nil ?_
            refine blk_i ?_
            refine cw_region ?_
            refine ol_val (v := .int .i64 (IntKind.i64.wrap (s14.2.1 + 1))) (by exact xr_add rfl e17 rfl) rfl rfl rfl ?_
            refine ol_val (v := .int .i64 (IntKind.i64.wrap (s14.2.1 + 1))) (by exact xr_move rfl rfl) rfl rfl rfl ?_
            refine ol_nil ?_
            obtain rfl := Option.some.inj h
            refine lp_in ?_
            exact ⟨o10, rfl, e5, e16, rfl, fB⟩
          · refine cw_condF rfl c21 ?_
            refine cw_exit ?_
            repeat (first | with_reducible refine thn_e ?_ | with_reducible refine blk_e rfl ?_)
            obtain rfl := Option.some.inj h
            refine lp_exit ?_
            rintro rfl
            refine thn_x ?_
            exact ⟨o10, e5, fB⟩
      · rintro ρ26 w27 ⟨o10, e5, fB⟩
        have h := h17
        refine cw_seq ?_
        refine cw_region ?_
        refine ol_val (v := v8) (by exact xr_move rfl e5) rfl rfl rfl ?_
        refine ol_val (v := v8) (by exact xr_assign rfl rfl) rfl rfl rfl ?_
        refine ol_nil ?_
        refine cw_ret ?_
        repeat (first | with_reducible refine thn_r ?_ | with_reducible refine blk_r ?_)
        obtain rfl := Option.some.inj h
        refine fin_ret1 Try.results95 rfl ?_
        exact ⟨_, rfl, v8, o10, rfl, fB⟩
end Go.Proofs.Ytjhajfkfhdnciaa

/- rickyard/block.Seal: its model, and that the Go function computes it: written by gen.py. -/
set_option linter.unusedVariables false
namespace Go.Proofs.Ytjhajfkfhdnciaa
open Go Go.Xw
def block_Seal.f (fu : Nat) (a0 : Int) (a1 : Int) (a2 : List Int) : Option ((List Int) × Bool) := (if (if (decide (a0 < 1)) = true then true else (if (decide (a0 ≥ 256)) = true then true else (if (decide (a1 < 0)) = true then true else (if (decide (a1 ≥ 256)) = true then true else (decide ((List.length a2 : Int) > 56)))))) = true then some ([], false) else (if (4 : Int) < (List.length (List.replicate (Int.toNat 64) (0 : Int)) : Int) then (if (5 : Int) < (List.length (List.set (List.replicate (Int.toNat 64) (0 : Int)) (Int.toNat 4) (IntKind.u8.wrap a0)) : Int) then (if (8 : Int) ≤ (List.length (List.set (List.set (List.replicate (Int.toNat 64) (0 : Int)) (Int.toNat 4) (IntKind.u8.wrap a0)) (Int.toNat 5) (IntKind.u8.wrap a1)) : Int) then (if Int.toNat 8 ≤ List.length (List.set (List.set (List.replicate (Int.toNat 64) (0 : Int)) (Int.toNat 4) (IntKind.u8.wrap a0)) (Int.toNat 5) (IntKind.u8.wrap a1)) ∧ List.length (List.set (List.set (List.replicate (Int.toNat 64) (0 : Int)) (Int.toNat 4) (IntKind.u8.wrap a0)) (Int.toNat 5) (IntKind.u8.wrap a1)) ≤ List.length (List.set (List.set (List.replicate (Int.toNat 64) (0 : Int)) (Int.toNat 4) (IntKind.u8.wrap a0)) (Int.toNat 5) (IntKind.u8.wrap a1)) then (if (4 : Int) ≤ (List.length (splL (List.set (List.set (List.replicate (Int.toNat 64) (0 : Int)) (Int.toNat 4) (IntKind.u8.wrap a0)) (Int.toNat 5) (IntKind.u8.wrap a1)) (Int.toNat 8) (List.take (List.length (List.set (List.set (List.replicate (Int.toNat 64) (0 : Int)) (Int.toNat 4) (IntKind.u8.wrap a0)) (Int.toNat 5) (IntKind.u8.wrap a1)) - Int.toNat 8) a2)) : Int) then ((crc_Sum.f fu [(cut (splL (List.set (List.set (List.replicate (Int.toNat 64) (0 : Int)) (Int.toNat 4) (IntKind.u8.wrap a0)) (Int.toNat 5) (IntKind.u8.wrap a1)) (Int.toNat 8) (List.take (List.length (List.set (List.set (List.replicate (Int.toNat 64) (0 : Int)) (Int.toNat 4) (IntKind.u8.wrap a0)) (Int.toNat 5) (IntKind.u8.wrap a1)) - Int.toNat 8) a2)) 4 (List.length (splL (List.set (List.set (List.replicate (Int.toNat 64) (0 : Int)) (Int.toNat 4) (IntKind.u8.wrap a0)) (Int.toNat 5) (IntKind.u8.wrap a1)) (Int.toNat 8) (List.take (List.length (List.set (List.set (List.replicate (Int.toNat 64) (0 : Int)) (Int.toNat 4) (IntKind.u8.wrap a0)) (Int.toNat 5) (IntKind.u8.wrap a1)) - Int.toNat 8) a2)) : Int))] : Option Int).bind fun t36 => ((octet_Lay.f fu (IntKind.u64.wrap t36) 4 : Option (List Int)).bind fun t40 => some ((splL (splL (List.set (List.set (List.replicate (Int.toNat 64) (0 : Int)) (Int.toNat 4) (IntKind.u8.wrap a0)) (Int.toNat 5) (IntKind.u8.wrap a1)) (Int.toNat 8) (List.take (List.length (List.set (List.set (List.replicate (Int.toNat 64) (0 : Int)) (Int.toNat 4) (IntKind.u8.wrap a0)) (Int.toNat 5) (IntKind.u8.wrap a1)) - Int.toNat 8) a2)) 0 (List.take (List.length (splL (List.set (List.set (List.replicate (Int.toNat 64) (0 : Int)) (Int.toNat 4) (IntKind.u8.wrap a0)) (Int.toNat 5) (IntKind.u8.wrap a1)) (Int.toNat 8) (List.take (List.length (List.set (List.set (List.replicate (Int.toNat 64) (0 : Int)) (Int.toNat 4) (IntKind.u8.wrap a0)) (Int.toNat 5) (IntKind.u8.wrap a1)) - Int.toNat 8) a2))) t40)), true))) else none) else none) else none) else none) else none))
set_option maxRecDepth 100000 in
set_option maxHeartbeats 400000 in
theorem block_Seal.ok (fu : Nat) (w : World) (a0 : Int) (a1 : Int) (a2 : List Int) (V2_0 : Value) (R2_0 : Rd (kI .u8) w V2_0 a2) (r : (List Int) × Bool) (h : block_Seal.f fu a0 a1 a2 = some r) :
    Calls Try.prog 28 (([.int .i64 a0, .int .i64 a1, V2_0] : List Value).toArray) w (fun e w' => ∃ v, e = .returned v ∧ ∃ u1 : Value, ∃ o2 : Own (kI .u8) 5 w' w.heap.size u1 r.1, v = .tuple #[u1, .bool r.2] ∧ Gr w w') := by
  unfold block_Seal.f at h
  have fB : Gr w w := Fr.refl _ _
  refine calls_cw Try.func28 rfl Try.ntmps28 rfl ?_
  refine cw_seq ?_
  refine cw_region ?_
  refine ol_val (v := .slice none 0 0) (by exact xr_assign rfl rfl) rfl rfl rfl ?_
  refine ol_val (v := .bool false) (by exact xr_assign rfl rfl) rfl rfl rfl ?_
  refine ol_nil ?_
  refine cw_seq ?_
  refine cw_seq ?_
  refine cw_mid (fun ρ' w' => ρ' 0 = .int .i64 a0 ∧ ρ' 1 = .int .i64 a1 ∧ ρ' 2 = V2_0 ∧ ρ' 27 = .bool (if (decide (a0 < 1)) = true then true else (if (decide (a0 ≥ 256)) = true then true else (if (decide (a1 < 0)) = true then true else (if (decide (a1 ≥ 256)) = true then true else (decide ((List.length a2 : Int) > 56)))))) ∧ w = w') ?_ ?_
  · skip
    refine cw_region ?_
    refine ol_val (v := .int .i64 a0) (by exact xr_move rfl rfl) rfl rfl rfl ?_
    refine ol_val (v := .bool (decide (a0 < 1))) (by exact xr_lss rfl rfl rfl) rfl rfl rfl ?_
    refine ol_val (v := .bool (decide (a0 < 1))) (by exact xr_move rfl rfl) rfl rfl rfl ?_
    rcases bt (decide (a0 < 1)) with c4 | c4
    · skip
      refine ol_gskip rfl rfl rfl rfl rfl c4 ?_
      refine ol_gskip rfl rfl rfl rfl rfl c4 ?_
      refine ol_val (v := .bool true) (by exact xr_pickT rfl rfl c4 rfl) rfl rfl rfl ?_
      refine ol_val (v := .bool true) (by exact xr_move rfl rfl) rfl rfl rfl ?_
      refine ol_gskip rfl rfl rfl rfl rfl rfl ?_
      refine ol_gskip rfl rfl rfl rfl rfl rfl ?_
      refine ol_val (v := .bool true) (by exact xr_pickT rfl rfl rfl rfl) rfl rfl rfl ?_
      refine ol_val (v := .bool true) (by exact xr_move rfl rfl) rfl rfl rfl ?_
      refine ol_gskip rfl rfl rfl rfl rfl rfl ?_
      refine ol_gskip rfl rfl rfl rfl rfl rfl ?_
      refine ol_val (v := .bool true) (by exact xr_pickT rfl rfl rfl rfl) rfl rfl rfl ?_
      refine ol_val (v := .bool true) (by exact xr_move rfl rfl) rfl rfl rfl ?_
      refine ol_gskip rfl rfl rfl rfl rfl rfl ?_
      refine ol_gskip rfl rfl rfl rfl rfl rfl ?_
      refine ol_gskip rfl rfl rfl rfl rfl rfl ?_
      refine ol_val (v := .bool true) (by exact xr_pickT rfl rfl rfl rfl) rfl rfl rfl ?_
      refine ol_nil ?_
      refine thn_i ?_
      exact ⟨rfl, rfl, rfl, (rfl).trans (congrArg (fun z => (.bool z : Value)) (show true = (if (decide (a0 < 1)) = true then true else (if (decide (a0 ≥ 256)) = true then true else (if (decide (a1 < 0)) = true then true else (if (decide (a1 ≥ 256)) = true then true else (decide ((List.length a2 : Int) > 56)))))) from by rw [ite_t c4])), rfl⟩
    · skip
      refine ol_gval (v := .int .i64 a0) (by exact xr_move rfl rfl) rfl rfl rfl rfl rfl c4 ?_
      refine ol_gval (v := .bool (decide (a0 ≥ 256))) (by exact xr_geq rfl rfl rfl) rfl rfl rfl rfl rfl c4 ?_
      refine ol_val (v := .bool (decide (a0 ≥ 256))) (by exact xr_pickF rfl rfl c4 rfl) rfl rfl rfl ?_
      refine ol_val (v := .bool (decide (a0 ≥ 256))) (by exact xr_move rfl rfl) rfl rfl rfl ?_
      rcases bt (decide (a0 ≥ 256)) with c5 | c5
      · skip
        refine ol_gskip rfl rfl rfl rfl rfl c5 ?_
        refine ol_gskip rfl rfl rfl rfl rfl c5 ?_
        refine ol_val (v := .bool true) (by exact xr_pickT rfl rfl c5 rfl) rfl rfl rfl ?_
        refine ol_val (v := .bool true) (by exact xr_move rfl rfl) rfl rfl rfl ?_
        refine ol_gskip rfl rfl rfl rfl rfl rfl ?_
        refine ol_gskip rfl rfl rfl rfl rfl rfl ?_
        refine ol_val (v := .bool true) (by exact xr_pickT rfl rfl rfl rfl) rfl rfl rfl ?_
        refine ol_val (v := .bool true) (by exact xr_move rfl rfl) rfl rfl rfl ?_
        refine ol_gskip rfl rfl rfl rfl rfl rfl ?_
        refine ol_gskip rfl rfl rfl rfl rfl rfl ?_
        refine ol_gskip rfl rfl rfl rfl rfl rfl ?_
        refine ol_val (v := .bool true) (by exact xr_pickT rfl rfl rfl rfl) rfl rfl rfl ?_
        refine ol_nil ?_
        refine thn_i ?_
        exact ⟨rfl, rfl, rfl, (rfl).trans (congrArg (fun z => (.bool z : Value)) (show true = (if (decide (a0 < 1)) = true then true else (if (decide (a0 ≥ 256)) = true then true else (if (decide (a1 < 0)) = true then true else (if (decide (a1 ≥ 256)) = true then true else (decide ((List.length a2 : Int) > 56)))))) from by rw [ite_f c4, ite_t c5])), rfl⟩
      · skip
        refine ol_gval (v := .int .i64 a1) (by exact xr_move rfl rfl) rfl rfl rfl rfl rfl c5 ?_
        refine ol_gval (v := .bool (decide (a1 < 0))) (by exact xr_lss rfl rfl rfl) rfl rfl rfl rfl rfl c5 ?_
        refine ol_val (v := .bool (decide (a1 < 0))) (by exact xr_pickF rfl rfl c5 rfl) rfl rfl rfl ?_
        refine ol_val (v := .bool (decide (a1 < 0))) (by exact xr_move rfl rfl) rfl rfl rfl ?_
        rcases bt (decide (a1 < 0)) with c6 | c6
        · skip
          refine ol_gskip rfl rfl rfl rfl rfl c6 ?_
          refine ol_gskip rfl rfl rfl rfl rfl c6 ?_
          refine ol_val (v := .bool true) (by exact xr_pickT rfl rfl c6 rfl) rfl rfl rfl ?_
          refine ol_val (v := .bool true) (by exact xr_move rfl rfl) rfl rfl rfl ?_
          refine ol_gskip rfl rfl rfl rfl rfl rfl ?_
          refine ol_gskip rfl rfl rfl rfl rfl rfl ?_
          refine ol_gskip rfl rfl rfl rfl rfl rfl ?_
          refine ol_val (v := .bool true) (by exact xr_pickT rfl rfl rfl rfl) rfl rfl rfl ?_
          refine ol_nil ?_
          refine thn_i ?_
          exact ⟨rfl, rfl, rfl, (rfl).trans (congrArg (fun z => (.bool z : Value)) (show true = (if (decide (a0 < 1)) = true then true else (if (decide (a0 ≥ 256)) = true then true else (if (decide (a1 < 0)) = true then true else (if (decide (a1 ≥ 256)) = true then true else (decide ((List.length a2 : Int) > 56)))))) from by rw [ite_f c4, ite_f c5, ite_t c6])), rfl⟩
        · skip
          refine ol_gval (v := .int .i64 a1) (by exact xr_move rfl rfl) rfl rfl rfl rfl rfl c6 ?_
          refine ol_gval (v := .bool (decide (a1 ≥ 256))) (by exact xr_geq rfl rfl rfl) rfl rfl rfl rfl rfl c6 ?_
          refine ol_val (v := .bool (decide (a1 ≥ 256))) (by exact xr_pickF rfl rfl c6 rfl) rfl rfl rfl ?_
          refine ol_val (v := .bool (decide (a1 ≥ 256))) (by exact xr_move rfl rfl) rfl rfl rfl ?_
          rcases bt (decide (a1 ≥ 256)) with c7 | c7
          · skip
            refine ol_gskip rfl rfl rfl rfl rfl c7 ?_
            refine ol_gskip rfl rfl rfl rfl rfl c7 ?_
            refine ol_gskip rfl rfl rfl rfl rfl c7 ?_
            refine ol_val (v := .bool true) (by exact xr_pickT rfl rfl c7 rfl) rfl rfl rfl ?_
            refine ol_nil ?_
            refine thn_i ?_
            exact ⟨rfl, rfl, rfl, (rfl).trans (congrArg (fun z => (.bool z : Value)) (show true = (if (decide (a0 < 1)) = true then true else (if (decide (a0 ≥ 256)) = true then true else (if (decide (a1 < 0)) = true then true else (if (decide (a1 ≥ 256)) = true then true else (decide ((List.length a2 : Int) > 56)))))) from by rw [ite_f c4, ite_f c5, ite_f c6, ite_t c7])), rfl⟩
          · skip
            refine ol_gval (v := V2_0) (by exact xr_move rfl rfl) rfl rfl rfl rfl rfl c7 ?_
            refine ol_gval (v := .int .i64 (List.length a2 : Int)) (by exact xr_lenR rfl Try.underlying22 rfl (R2_0.gr fB)) rfl rfl rfl rfl rfl c7 ?_
            refine ol_gval (v := .bool (decide ((List.length a2 : Int) > 56))) (by exact xr_gtr rfl rfl rfl) rfl rfl rfl rfl rfl c7 ?_
            refine ol_val (v := .bool (decide ((List.length a2 : Int) > 56))) (by exact xr_pickF rfl rfl c7 rfl) rfl rfl rfl ?_
            refine ol_nil ?_
            refine thn_i ?_
            exact ⟨rfl, rfl, rfl, (rfl).trans (congrArg (fun z => (.bool z : Value)) (show (decide ((List.length a2 : Int) > 56)) = (if (decide (a0 < 1)) = true then true else (if (decide (a0 ≥ 256)) = true then true else (if (decide (a1 < 0)) = true then true else (if (decide (a1 ≥ 256)) = true then true else (decide ((List.length a2 : Int) > 56)))))) from by rw [ite_f c4, ite_f c5, ite_f c6, ite_f c7])), rfl⟩
  · skip
    rintro ρ8 _ ⟨e0, e1, e2, e27, rfl⟩
    rcases is h with ⟨c9, h⟩ | ⟨c9, h⟩
    · refine cw_condT e27 c9 ?_
      refine cw_seq ?_
      refine cw_region ?_
      refine ol_val (v := .slice none 0 0) (by exact xr_assign rfl rfl) rfl rfl rfl ?_
      refine ol_val (v := .bool false) (by exact xr_assign rfl rfl) rfl rfl rfl ?_
      refine ol_nil ?_
      refine cw_ret ?_
      repeat (first | with_reducible refine thn_r ?_ | with_reducible refine blk_r ?_)
      obtain rfl := Option.some.inj h
      refine fin_ret2 Try.results28 rfl rfl ?_
      exact ⟨_, rfl, (.slice none 0 0), Own.nil _ _ _ _, rfl, fB⟩
    · refine cw_condF e27 c9 ?_
      refine cw_skip ?_
      refine cw_seq ?_
      refine cw_region ?_
      refine ol_op (by exact opv_make (K := (kI .u8)) (z := (0 : Int)) rfl Try.underlying22 el5 rfl rfl rfl (by decide) (by decide) rfl fB.size) rfl rfl rfl ?_
      rintro v10 w15 ⟨o12, q11, z13⟩
      have fB := fB.gr q11
      refine ol_val (v := v10) (by exact xr_assign rfl rfl) rfl rfl rfl ?_
      refine ol_nil ?_
      refine cw_seq ?_
      refine cw_region ?_
      refine ol_val (v := v10) (by exact xr_move rfl rfl) rfl rfl rfl ?_
      refine ol_val (v := v10) (by exact xr_move rfl rfl) rfl rfl rfl ?_
      refine ol_val (v := .int .i64 a0) (by exact xr_move rfl e0) rfl rfl rfl ?_
      refine ol_val (v := .int .u8 (IntKind.u8.wrap a0)) (by exact xr_conv rfl Try.underlying3 Try.underlying5 rfl) rfl rfl rfl ?_
      refine ol_val (v := .int .i64 a1) (by exact xr_move rfl e1) rfl rfl rfl ?_
      refine ol_val (v := .int .u8 (IntKind.u8.wrap a1)) (by exact xr_conv rfl Try.underlying3 Try.underlying5 rfl) rfl rfl rfl ?_
      obtain ⟨g16, h⟩ := gs h
      refine ol_val (v := .pointer (some ⟨(sb v10), so v10 + Int.toNat 4 * 1, none⟩)) (by exact xr_indexR (K := (kI .u8)) (v := v10) rfl Try.underlying22 sz5 rfl o12.rd rfl (by decide) g16) rfl rfl rfl ?_
      have f18 := o12.geO
      refine ol_op0 (by exact opv_storeRow (z := (IntKind.u8.wrap a0)) (xs := cellsOf [Seg.cell (.int .u8 (IntKind.u8.wrap a0))]) rfl sz5 rfl rfl rfl (len_cellsOf _) (one_cellsOf _) o12 (by decide) g16 (Spl.whole ((Kd.len _ _).trans (Kd.len _ _).symm)) rfl) rfl rfl ?_
      rintro _ w19 ⟨o12, q17⟩
      have fB := fB.wrO q17 f18
      obtain ⟨g20, h⟩ := gs h
      refine ol_val (v := .pointer (some ⟨(sb v10), so v10 + Int.toNat 5 * 1, none⟩)) (by exact xr_indexR (K := (kI .u8)) (v := v10) rfl Try.underlying22 sz5 rfl o12.rd rfl (by decide) g20) rfl rfl rfl ?_
      have f22 := o12.geO
      refine ol_op0 (by exact opv_storeRow (z := (IntKind.u8.wrap a1)) (xs := cellsOf [Seg.cell (.int .u8 (IntKind.u8.wrap a1))]) rfl sz5 rfl rfl rfl (len_cellsOf _) (one_cellsOf _) o12 (by decide) g20 (Spl.whole ((Kd.len _ _).trans (Kd.len _ _).symm)) rfl) rfl rfl ?_
      rintro _ w23 ⟨o12, q21⟩
      have fB := fB.wrO q21 f22
      refine ol_nil ?_
      refine cw_seq ?_
      refine cw_region ?_
      refine ol_val (v := v10) (by exact xr_move rfl rfl) rfl rfl rfl ?_
      obtain ⟨g25, h⟩ := gs h
      refine ol_val (v := subv 1 v10 (Int.toNat 8) (List.length (List.set (List.set (List.replicate (Int.toNat 64) (0 : Int)) (Int.toNat 4) (IntKind.u8.wrap a0)) (Int.toNat 5) (IntKind.u8.wrap a1)))) (by exact xr_slice_l (K := (kI .u8)) (v := v10) rfl Try.underlying22 sz5 rfl o12.rd rfl (by decide) g25) rfl rfl rfl ?_
      have r24 : Rd (kI .u8) w23 (subv 1 v10 (Int.toNat 8) (List.length (List.set (List.set (List.replicate (Int.toNat 64) (0 : Int)) (Int.toNat 4) (IntKind.u8.wrap a0)) (Int.toNat 5) (IntKind.u8.wrap a1)))) (cut (List.set (List.set (List.replicate (Int.toNat 64) (0 : Int)) (Int.toNat 4) (IntKind.u8.wrap a0)) (Int.toNat 5) (IntKind.u8.wrap a1)) 8 (List.length (List.set (List.set (List.replicate (Int.toNat 64) (0 : Int)) (Int.toNat 4) (IntKind.u8.wrap a0)) (Int.toNat 5) (IntKind.u8.wrap a1)) : Int)) := o12.rd.cut (lo := 8) (hi := (List.length (List.set (List.set (List.replicate (Int.toNat 64) (0 : Int)) (Int.toNat 4) (IntKind.u8.wrap a0)) (Int.toNat 5) (IntKind.u8.wrap a1)) : Int)) (by decide) g25 (Int.le_refl _)
      refine ol_val (v := V2_0) (by exact xr_move rfl e2) rfl rfl rfl ?_
      obtain ⟨g27, h⟩ := gs h
      have f28 := o12.geO
      refine ol_op (by exact opv_copyCut rfl Try.underlying22 sz5 rfl rfl rfl rfl o12 g27.1 g27.2 (R2_0.gr fB)) rfl rfl rfl ?_
      rintro _ w29 ⟨rfl, o12, q26⟩
      have fB := fB.wrO q26 f28
      refine ol_nil ?_
      refine cw_seq ?_
      refine cw_region ?_
      refine ol_val (v := v10) (by exact xr_move rfl rfl) rfl rfl rfl ?_
      refine ol_val (v := v10) (by exact xr_move rfl rfl) rfl rfl rfl ?_
      obtain ⟨g31, h⟩ := gs h
      refine ol_val (v := subv 1 v10 (Int.toNat 4) (List.length (splL (List.set (List.set (List.replicate (Int.toNat 64) (0 : Int)) (Int.toNat 4) (IntKind.u8.wrap a0)) (Int.toNat 5) (IntKind.u8.wrap a1)) (Int.toNat 8) (List.take (List.length (List.set (List.set (List.replicate (Int.toNat 64) (0 : Int)) (Int.toNat 4) (IntKind.u8.wrap a0)) (Int.toNat 5) (IntKind.u8.wrap a1)) - Int.toNat 8) a2)))) (by exact xr_slice_l (K := (kI .u8)) (v := v10) rfl Try.underlying22 sz5 rfl o12.rd rfl (by decide) g31) rfl rfl rfl ?_
      have r30 : Rd (kI .u8) w29 (subv 1 v10 (Int.toNat 4) (List.length (splL (List.set (List.set (List.replicate (Int.toNat 64) (0 : Int)) (Int.toNat 4) (IntKind.u8.wrap a0)) (Int.toNat 5) (IntKind.u8.wrap a1)) (Int.toNat 8) (List.take (List.length (List.set (List.set (List.replicate (Int.toNat 64) (0 : Int)) (Int.toNat 4) (IntKind.u8.wrap a0)) (Int.toNat 5) (IntKind.u8.wrap a1)) - Int.toNat 8) a2)))) (cut (splL (List.set (List.set (List.replicate (Int.toNat 64) (0 : Int)) (Int.toNat 4) (IntKind.u8.wrap a0)) (Int.toNat 5) (IntKind.u8.wrap a1)) (Int.toNat 8) (List.take (List.length (List.set (List.set (List.replicate (Int.toNat 64) (0 : Int)) (Int.toNat 4) (IntKind.u8.wrap a0)) (Int.toNat 5) (IntKind.u8.wrap a1)) - Int.toNat 8) a2)) 4 (List.length (splL (List.set (List.set (List.replicate (Int.toNat 64) (0 : Int)) (Int.toNat 4) (IntKind.u8.wrap a0)) (Int.toNat 5) (IntKind.u8.wrap a1)) (Int.toNat 8) (List.take (List.length (List.set (List.set (List.replicate (Int.toNat 64) (0 : Int)) (Int.toNat 4) (IntKind.u8.wrap a0)) (Int.toNat 5) (IntKind.u8.wrap a1)) - Int.toNat 8) a2)) : Int)) := o12.rd.cut (lo := 4) (hi := (List.length (splL (List.set (List.set (List.replicate (Int.toNat 64) (0 : Int)) (Int.toNat 4) (IntKind.u8.wrap a0)) (Int.toNat 5) (IntKind.u8.wrap a1)) (Int.toNat 8) (List.take (List.length (List.set (List.set (List.replicate (Int.toNat 64) (0 : Int)) (Int.toNat 4) (IntKind.u8.wrap a0)) (Int.toNat 5) (IntKind.u8.wrap a1)) - Int.toNat 8) a2)) : Int)) (by decide) g31 (Int.le_refl _)
      refine ol_op (by exact opv_build1 rfl Try.underlying157 el22 rfl r30 rfl) rfl rfl rfl ?_
      rintro v32 w35 ⟨r34, q33⟩
      have o12 := o12.gr q33
      have fB := fB.gr q33
      obtain ⟨t36, k37, h⟩ := bs h
      refine ol_op (by exact opv_call rfl cal96 (ac rfl an) (crc_Sum.ok fu _ [(cut (splL (List.set (List.set (List.replicate (Int.toNat 64) (0 : Int)) (Int.toNat 4) (IntKind.u8.wrap a0)) (Int.toNat 5) (IntKind.u8.wrap a1)) (Int.toNat 8) (List.take (List.length (List.set (List.set (List.replicate (Int.toNat 64) (0 : Int)) (Int.toNat 4) (IntKind.u8.wrap a0)) (Int.toNat 5) (IntKind.u8.wrap a1)) - Int.toNat 8) a2)) 4 (List.length (splL (List.set (List.set (List.replicate (Int.toNat 64) (0 : Int)) (Int.toNat 4) (IntKind.u8.wrap a0)) (Int.toNat 5) (IntKind.u8.wrap a1)) (Int.toNat 8) (List.take (List.length (List.set (List.set (List.replicate (Int.toNat 64) (0 : Int)) (Int.toNat 4) (IntKind.u8.wrap a0)) (Int.toNat 5) (IntKind.u8.wrap a1)) - Int.toNat 8) a2)) : Int))] v32 (r34) _ k37)) rfl rfl rfl ?_
      rintro _ w39 ⟨rfl, q38⟩
      have o12 := o12.gr q38
      have fB := fB.gr q38
      refine ol_val (v := .int .u64 (IntKind.u64.wrap t36)) (by exact xr_conv rfl Try.underlying36 Try.underlying129 rfl) rfl rfl rfl ?_
      obtain ⟨t40, k41, h⟩ := bs h
      refine ol_op (by exact opv_call rfl cal95 (ac rfl (ac rfl an)) (octet_Lay.ok fu _ (IntKind.u64.wrap t36) 4 _ k41)) rfl rfl rfl ?_
      rintro u42 w46 ⟨_, o43, rfl, q45⟩
      have a47 := OffV.call o12 o43
      have o43 := Own.base o43 fB.size
      have o12 := o12.gr q45
      have fB := fB.gr q45
      have f49 := o12.geO
      refine ol_op (by exact opv_copyRow rfl Try.underlying22 sz5 rfl rfl rfl o12 o43.rd) rfl rfl rfl ?_
      rintro _ w50 ⟨rfl, o12, q48⟩
      have fB := fB.wrO q48 f49
      refine ol_nil ?_
      refine cw_seq ?_
      refine cw_region ?_
      refine ol_val (v := v10) (by exact xr_move rfl rfl) rfl rfl rfl ?_
      refine ol_val (v := v10) (by exact xr_assign rfl rfl) rfl rfl rfl ?_
      refine ol_val (v := .bool true) (by exact xr_assign rfl rfl) rfl rfl rfl ?_
      refine ol_nil ?_
      refine cw_ret ?_
      repeat (first | with_reducible refine thn_r ?_ | with_reducible refine blk_r ?_)
      obtain rfl := Option.some.inj h
      refine fin_ret2 Try.results28 rfl rfl ?_
      exact ⟨_, rfl, v10, o12, rfl, fB⟩
end Go.Proofs.Ytjhajfkfhdnciaa

/- rickyard/octet.Octets: its model, and that the Go function computes it: written by gen.py. -/
set_option linter.unusedVariables false
namespace Go.Proofs.Ytjhajfkfhdnciaa
open Go Go.Xw
def octet_Octets.s0 (fu : Nat) (a0 : List Int) : ((List Int) × Int) → Option (Sum (List Int) ((List Int) × Int)) := fun s4 => (if (decide (s4.2 < (List.length a0 : Int))) = true then (if 0 ≤ s4.2 ∧ s4.2 < (List.length a0 : Int) then ((octet_Lay.f fu (ix a0 s4.2) 8 : Option (List Int)).bind fun t19 => (if List.length s4.1 + List.length t19 ≤ LIM then some (Sum.inr ((s4.1 ++ t19), (IntKind.i64.wrap (s4.2 + 1)))) else none)) else none) else some (Sum.inl (s4.1)))
def octet_Octets.f (fu : Nat) (a0 : List Int) : Option (List Int) := ((loopM (octet_Octets.s0 fu a0) fu ([], 0)).bind fun e5 => some (e5))
set_option maxRecDepth 100000 in
set_option maxHeartbeats 400000 in
theorem octet_Octets.ok (fu : Nat) (w : World) (a0 : List Int) (V0_0 : Value) (R0_0 : Rd (kI .u64) w V0_0 a0) (r : (List Int)) (h : octet_Octets.f fu a0 = some r) :
    Calls Try.prog 104 (([V0_0] : List Value).toArray) w (fun e w' => ∃ v, e = .returned v ∧ ∃ u1 : Value, ∃ o2 : Own (kI .u8) 5 w' w.heap.size u1 r, v = u1 ∧ Gr w w') := by
  unfold octet_Octets.f at h
  have fB : Gr w w := Fr.refl _ _
  refine calls_cw Try.func104 rfl Try.ntmps104 rfl ?_
  refine cw_seq ?_
  refine cw_region ?_
  refine ol_val (v := .slice none 0 0) (by exact xr_assign rfl rfl) rfl rfl rfl ?_
  refine ol_nil ?_
  refine cw_seq ?_
  refine cw_region ?_
  refine ol_val (v := .slice none 0 0) (by exact xr_assign rfl rfl) rfl rfl rfl ?_
  refine ol_nil ?_
  refine cw_seq ?_
  refine cw_seq ?_
  refine cw_region ?_
  refine ol_val (v := V0_0) (by exact xr_move rfl rfl) rfl rfl rfl ?_
  refine ol_val (v := .int .i64 (List.length a0 : Int)) (by exact xr_lenR rfl Try.underlying168 rfl (R0_0.gr fB)) rfl rfl rfl ?_
  refine ol_val (v := .int .i64 0) (by exact xr_move rfl rfl) rfl rfl rfl ?_
  refine ol_nil ?_
  obtain ⟨e5, l6, h7⟩ := bs h
  refine cw_mid (fun ρ' w' => ∃ v8 : Value, ∃ o9 : Own (kI .u8) 5 w' w.heap.size v8 e5, ρ' 3 = v8 ∧ Gr w w') ?_ ?_
  · refine cw_block ?_
    refine cw_round (fun (s4 : (List Int) × Int) ρ' w' => ∃ v11 : Value, ∃ o12 : Own (kI .u8) 5 w' w.heap.size v11 s4.1, ρ' 3 = v11 ∧ ρ' 6 = V0_0 ∧ ρ' 7 = .int .i64 (List.length a0 : Int) ∧ ρ' 8 = .int .i64 s4.2 ∧ Gr w w') l6 ?_ ?_
    · skip
      exact ⟨(.slice none 0 0), Own.nil _ _ _ _, rfl, rfl, rfl, rfl, fB⟩
    · rintro s4 x16 ρ14 w15 ⟨v11, o12, e3, e6, e7, e8, fB⟩ h
      unfold octet_Octets.s0 at h
      refine cw_seq ?_
      refine cw_region ?_
      refine ol_val (v := .bool (decide (s4.2 < (List.length a0 : Int)))) (by exact xr_lss rfl e8 e7) rfl rfl rfl ?_
      refine ol_nil ?_
      refine cw_seq ?_
      rcases is h with ⟨c17, h⟩ | ⟨c17, h⟩
      · refine cw_condT rfl c17 ?_
        refine cw_skip ?_
        refine cw_seq ?_
        refine cw_block ?_
        refine cw_seq ?_
        refine cw_region ?_
        obtain ⟨g18, h⟩ := gs h
        refine ol_val (v := .pointer (some ⟨(sb V0_0), so V0_0 + Int.toNat s4.2 * 1, none⟩)) (by exact xr_indexR (K := (kI .u64)) (v := V0_0) rfl Try.underlying168 sz129 e6 (R0_0.gr fB) e8 g18.1 g18.2) rfl rfl rfl ?_
        refine ol_val (v := .int .u64 (ix a0 s4.2)) (by exact xr_load1 (v := .int .u64 (ix a0 s4.2)) rfl ag129 rfl ((R0_0.gr fB).elem g18.1 g18.2)) rfl rfl rfl ?_
        refine ol_val (v := .int .u64 (ix a0 s4.2)) (by exact xr_assign rfl rfl) rfl rfl rfl ?_
        refine ol_nil ?_
        refine cw_region ?_
        refine ol_val (v := v11) (by exact xr_move rfl e3) rfl rfl rfl ?_
        refine ol_val (v := .int .u64 (ix a0 s4.2)) (by exact xr_move rfl rfl) rfl rfl rfl ?_
        obtain ⟨t19, k20, h⟩ := bs h
        refine ol_op (by exact opv_call rfl cal95 (ac rfl (ac rfl an)) (octet_Lay.ok fu _ (ix a0 s4.2) 8 _ k20)) rfl rfl rfl ?_
        rintro u21 w25 ⟨_, o22, rfl, q24⟩
        have a26 := OffV.call o12 o22
        have o22 := Own.base o22 fB.size
        have o12 := o12.gr q24
        have fB := fB.gr q24
        obtain ⟨g31, h⟩ := gs h
        have f33 := o12.geO
        refine ol_op (by exact opv_append (K := (kI .u8)) rfl Try.underlying22 el5 rfl rfl rfl rfl rfl o12 o22.rd g31 fB.size) rfl rfl rfl ?_
        rintro v27 w34 ⟨o28, q29, n30⟩
        have fB := fB.wrO q29 f33
        refine ol_val (v := v27) (by exact xr_assign rfl rfl) rfl rfl rfl ?_
        refine ol_nil ?_
        refine blk_i ?_
        refine cw_region ?_
        refine ol_val (v := .int .i64 (IntKind.i64.wrap (s4.2 + 1))) (by exact xr_add rfl e8 rfl) rfl rfl rfl ?_
        refine ol_val (v := .int .i64 (IntKind.i64.wrap (s4.2 + 1))) (by exact xr_move rfl rfl) rfl rfl rfl ?_
        refine ol_nil ?_
        obtain rfl := Option.some.inj h
        refine lp_in ?_
        exact ⟨v27, o28, rfl, e6, e7, rfl, fB⟩
      · refine cw_condF rfl c17 ?_
        refine cw_exit ?_
        repeat (first | with_reducible refine thn_e ?_ | with_reducible refine blk_e rfl ?_)
        obtain rfl := Option.some.inj h
        refine lp_exit ?_
        rintro rfl
        refine thn_x ?_
        exact ⟨v11, o12, e3, fB⟩
  · rintro ρ35 w36 ⟨v8, o9, e3, fB⟩
    have h := h7
    refine cw_seq ?_
    refine cw_region ?_
    refine ol_val (v := v8) (by exact xr_move rfl e3) rfl rfl rfl ?_
    refine ol_val (v := v8) (by exact xr_assign rfl rfl) rfl rfl rfl ?_
    refine ol_nil ?_
    refine cw_ret ?_
    repeat (first | with_reducible refine thn_r ?_ | with_reducible refine blk_r ?_)
    obtain rfl := Option.some.inj h
    refine fin_ret1 Try.results104 rfl ?_
    exact ⟨_, rfl, v8, o9, rfl, fB⟩
end Go.Proofs.Ytjhajfkfhdnciaa

/- rickyard/node.Put: its model, and that the Go function computes it: written by gen.py. -/
set_option linter.unusedVariables false
namespace Go.Proofs.Ytjhajfkfhdnciaa
open Go Go.Xw
def node_Put.s0 (fu : Nat) (a0 : S_api_Node) : ((List Int) × Int) → Option (Sum (List Int) ((List Int) × Int)) := fun s72 => (if (decide (s72.2 < (List.length a0.Kids : Int))) = true then (if 0 ≤ s72.2 ∧ s72.2 < (List.length a0.Kids : Int) then ((octet_Lay.f fu (IntKind.u64.wrap (ix a0.Kids s72.2)) 2 : Option (List Int)).bind fun t87 => (if List.length s72.1 + List.length t87 ≤ LIM then some (Sum.inr ((s72.1 ++ t87), (IntKind.i64.wrap (s72.2 + 1)))) else none)) else none) else some (Sum.inl (s72.1)))
def node_Put.f (fu : Nat) (a0 : S_api_Node) : Option ((List Int) × Bool) := ((node_Right.f fu a0 : Option Bool).bind fun t10 => (if (!t10) = true then some ([], false) else ((octet_Octets.f fu [(IntKind.u64.wrap a0.Entry.Key), (IntKind.u64.wrap a0.Entry.Value)] : Option (List Int)).bind fun t30 => ((octet_Lay.f fu (IntKind.u64.wrap a0.Entry.Handle.Slot) 4 : Option (List Int)).bind fun t37 => (if List.length t30 + List.length t37 ≤ LIM then ((octet_Lay.f fu (IntKind.u64.wrap a0.Entry.Handle.Gen) 4 : Option (List Int)).bind fun t55 => (if List.length (t30 ++ t37) + List.length t55 ≤ LIM then ((loopM (node_Put.s0 fu a0) fu (((t30 ++ t37) ++ t55), 0)).bind fun e73 => ((block_Seal.f fu 1 (List.length a0.Kids : Int) e73 : Option ((List Int) × Bool)).bind fun t106 => some (t106.1, t106.2))) else none)) else none)))))
set_option maxRecDepth 100000 in
set_option maxHeartbeats 400000 in
theorem node_Put.ok (fu : Nat) (w : World) (a0 : S_api_Node) (V0_0 : Value) (R0_0 : Rd (kI .i64) w V0_0 a0.Kids) (r : (List Int) × Bool) (h : node_Put.f fu a0 = some r) :
    Calls Try.prog 39 (([aggV [Seg.cell (.int .i64 a0.Entry.Handle.Slot), Seg.cell (.int .i64 a0.Entry.Handle.Gen), Seg.cell (.int .i64 a0.Entry.Key), Seg.cell (.int .i64 a0.Entry.Value), Seg.cell V0_0 R0_0.one]] : List Value).toArray) w (fun e w' => ∃ v, e = .returned v ∧ ∃ u1 : Value, ∃ o2 : Own (kI .u8) 5 w' w.heap.size u1 r.1, v = .tuple #[u1, .bool r.2] ∧ Gr w w') := by
  unfold node_Put.f at h
  have fB : Gr w w := Fr.refl _ _
  refine calls_cw Try.func39 rfl Try.ntmps39 rfl ?_
  refine cw_seq ?_
  refine cw_region ?_
  refine ol_op (by exact opv_box (ss := [Seg.cell (.int .i64 a0.Entry.Handle.Slot), Seg.cell (.int .i64 a0.Entry.Handle.Gen), Seg.cell (.int .i64 a0.Entry.Key), Seg.cell (.int .i64 a0.Entry.Value), Seg.cell V0_0 R0_0.one]) rfl rfl rfl) rfl rfl rfl ?_
  rintro _ w9 ⟨G4, rfl, b5, q6, z7⟩
  have z7 := Nat.le_trans fB.size z7
  have fB := fB.gr q6
  refine ol_val (v := .slice none 0 0) (by exact xr_assign rfl rfl) rfl rfl rfl ?_
  refine ol_val (v := .bool false) (by exact xr_assign rfl rfl) rfl rfl rfl ?_
  refine ol_nil ?_
  refine cw_seq ?_
  refine cw_seq ?_
  refine cw_region ?_
  refine ol_val (v := aggV [Seg.cell (.int .i64 a0.Entry.Handle.Slot), Seg.cell (.int .i64 a0.Entry.Handle.Gen), Seg.cell (.int .i64 a0.Entry.Key), Seg.cell (.int .i64 a0.Entry.Value), Seg.cell V0_0 R0_0.one]) (by exact xr_loadS (ss := [Seg.cell (.int .i64 a0.Entry.Handle.Slot), Seg.cell (.int .i64 a0.Entry.Handle.Gen), Seg.cell (.int .i64 a0.Entry.Key), Seg.cell (.int .i64 a0.Entry.Value), Seg.cell V0_0 R0_0.one]) rfl ag47 sz47 rfl rfl (b5.segs 0 5 rfl)) rfl rfl rfl ?_
  obtain ⟨t10, k11, h⟩ := bs h
  refine ol_op (by exact opv_call rfl cal43 (ac rfl an) (node_Right.ok fu _ a0 V0_0 (R0_0.gr fB) _ k11)) rfl rfl rfl ?_
  rintro _ w13 ⟨rfl, q12⟩
  have b5 := b5.gr q12
  have fB := fB.gr q12
  refine ol_val (v := .bool (!t10)) (by exact xr_not rfl rfl) rfl rfl rfl ?_
  refine ol_nil ?_
  rcases is h with ⟨c14, h⟩ | ⟨c14, h⟩
  · refine cw_condT rfl c14 ?_
    refine cw_seq ?_
    refine cw_region ?_
    refine ol_val (v := .slice none 0 0) (by exact xr_assign rfl rfl) rfl rfl rfl ?_
    refine ol_val (v := .bool false) (by exact xr_assign rfl rfl) rfl rfl rfl ?_
    refine ol_nil ?_
    refine cw_ret ?_
    repeat (first | with_reducible refine thn_r ?_ | with_reducible refine blk_r ?_)
    obtain rfl := Option.some.inj h
    refine fin_ret2 Try.results39 rfl rfl ?_
    exact ⟨_, rfl, (.slice none 0 0), Own.nil _ _ _ _, rfl, fB⟩
  · refine cw_condF rfl c14 ?_
    refine cw_skip ?_
    refine cw_seq ?_
    refine cw_region ?_
    refine ol_val (v := .pointer (some ⟨G4, 0, none⟩)) (by exact xr_fieldAddr (p := 0) (q := 0) rfl fl47_0 rfl) rfl rfl rfl ?_
    refine ol_val (v := aggV [Seg.cell (.int .i64 a0.Entry.Handle.Slot), Seg.cell (.int .i64 a0.Entry.Handle.Gen), Seg.cell (.int .i64 a0.Entry.Key), Seg.cell (.int .i64 a0.Entry.Value)]) (by exact xr_loadS (ss := [Seg.cell (.int .i64 a0.Entry.Handle.Slot), Seg.cell (.int .i64 a0.Entry.Handle.Gen), Seg.cell (.int .i64 a0.Entry.Key), Seg.cell (.int .i64 a0.Entry.Value)]) rfl ag44 sz44 rfl rfl (b5.segs 0 4 rfl)) rfl rfl rfl ?_
    refine ol_op (by exact opv_alloc (ss := [Seg.cell (.int .i64 (0 : Int)), Seg.cell (.int .i64 (0 : Int)), Seg.cell (.int .i64 (0 : Int)), Seg.cell (.int .i64 (0 : Int))]) rfl ze44 rfl) rfl rfl rfl ?_
    rintro _ w20 ⟨G15, rfl, b16, q17, z18⟩
    have n21 := Blk.ne b5 z18
    have z18 := Nat.le_trans fB.size z18
    have b5 := b5.gr q17
    have fB := fB.gr q17
    refine ol_op0 (by exact opv_store (ss' := [Seg.cell (.int .i64 a0.Entry.Handle.Slot), Seg.cell (.int .i64 a0.Entry.Handle.Gen), Seg.cell (.int .i64 a0.Entry.Key), Seg.cell (.int .i64 a0.Entry.Value)]) (xs := cellsOf [Seg.cell (.int .i64 a0.Entry.Handle.Slot), Seg.cell (.int .i64 a0.Entry.Handle.Gen), Seg.cell (.int .i64 a0.Entry.Key), Seg.cell (.int .i64 a0.Entry.Value)]) rfl sz44 rfl rfl rfl (len_cellsOf _) (one_cellsOf _) b16 (Spl.segs _ 0 4 [Seg.cell (.int .i64 a0.Entry.Handle.Slot), Seg.cell (.int .i64 a0.Entry.Handle.Gen), Seg.cell (.int .i64 a0.Entry.Key), Seg.cell (.int .i64 a0.Entry.Value)] rfl rfl)) rfl rfl ?_
    rintro _ w23 ⟨b16, q22⟩
    have b5 := b5.wr q22 n21
    have fB := fB.wr q22 z18
    refine ol_nil ?_
    refine cw_seq ?_
    refine cw_region ?_
    refine ol_val (v := .pointer (some ⟨G15, 2, none⟩)) (by exact xr_fieldAddr (p := 0) (q := 2) rfl fl44_1 rfl) rfl rfl rfl ?_
    refine ol_val (v := .int .i64 a0.Entry.Key) (by exact xr_load1 (v := .int .i64 a0.Entry.Key) rfl ag3 rfl (b16.seg 2 rfl rfl)) rfl rfl rfl ?_
    refine ol_val (v := .int .u64 (IntKind.u64.wrap a0.Entry.Key)) (by exact xr_conv rfl Try.underlying3 Try.underlying129 rfl) rfl rfl rfl ?_
    refine ol_val (v := .pointer (some ⟨G15, 3, none⟩)) (by exact xr_fieldAddr (p := 0) (q := 3) rfl fl44_2 rfl) rfl rfl rfl ?_
    refine ol_val (v := .int .i64 a0.Entry.Value) (by exact xr_load1 (v := .int .i64 a0.Entry.Value) rfl ag3 rfl (b16.seg 3 rfl rfl)) rfl rfl rfl ?_
    refine ol_val (v := .int .u64 (IntKind.u64.wrap a0.Entry.Value)) (by exact xr_conv rfl Try.underlying3 Try.underlying129 rfl) rfl rfl rfl ?_
    refine ol_op (by exact opv_buildSlice (K := (kI .u64)) (xs := [(IntKind.u64.wrap a0.Entry.Key), (IntKind.u64.wrap a0.Entry.Value)]) (vals := [.int .u64 (IntKind.u64.wrap a0.Entry.Key), .int .u64 (IntKind.u64.wrap a0.Entry.Value)]) rfl Try.underlying168 el129 rfl rfl ⟨rfl, rfl, ⟨rfl, rfl, trivial⟩⟩ rfl rfl rfl fB.size) rfl rfl rfl ?_
    rintro v24 w29 ⟨o26, q25, z27⟩
    have b5 := b5.gr q25
    have b16 := b16.gr q25
    have fB := fB.gr q25
    obtain ⟨t30, k31, h⟩ := bs h
    refine ol_op (by exact opv_call rfl cal104 (ac rfl an) (octet_Octets.ok fu _ [(IntKind.u64.wrap a0.Entry.Key), (IntKind.u64.wrap a0.Entry.Value)] v24 (o26.rd) _ k31)) rfl rfl rfl ?_
    rintro u32 w36 ⟨_, o33, rfl, q35⟩
    have o33 := Own.base o33 fB.size
    have b5 := b5.gr q35
    have b16 := b16.gr q35
    have fB := fB.gr q35
    refine ol_val (v := u32) (by exact xr_assign rfl rfl) rfl rfl rfl ?_
    refine ol_nil ?_
    refine cw_seq ?_
    refine cw_region ?_
    refine ol_val (v := u32) (by exact xr_move rfl rfl) rfl rfl rfl ?_
    refine ol_val (v := .pointer (some ⟨G15, 0, none⟩)) (by exact xr_fieldAddr (p := 0) (q := 0) rfl fl44_0 rfl) rfl rfl rfl ?_
    refine ol_val (v := .pointer (some ⟨G15, 0, none⟩)) (by exact xr_fieldAddr (p := 0) (q := 0) rfl fl42_0 rfl) rfl rfl rfl ?_
    refine ol_val (v := .int .i64 a0.Entry.Handle.Slot) (by exact xr_load1 (v := .int .i64 a0.Entry.Handle.Slot) rfl ag3 rfl (b16.seg 0 rfl rfl)) rfl rfl rfl ?_
    refine ol_val (v := .int .u64 (IntKind.u64.wrap a0.Entry.Handle.Slot)) (by exact xr_conv rfl Try.underlying3 Try.underlying129 rfl) rfl rfl rfl ?_
    obtain ⟨t37, k38, h⟩ := bs h
    refine ol_op (by exact opv_call rfl cal95 (ac rfl (ac rfl an)) (octet_Lay.ok fu _ (IntKind.u64.wrap a0.Entry.Handle.Slot) 4 _ k38)) rfl rfl rfl ?_
    rintro u39 w43 ⟨_, o40, rfl, q42⟩
    have a44 := OffV.call o33 o40
    have o40 := Own.base o40 fB.size
    have b5 := b5.gr q42
    have b16 := b16.gr q42
    have o33 := o33.gr q42
    have fB := fB.gr q42
    obtain ⟨g49, h⟩ := gs h
    have f51 := off_ty b5 o33 (by decide)
    have f52 := off_ty b16 o33 (by decide)
    have f53 := o33.geO
    refine ol_op (by exact opv_append (K := (kI .u8)) rfl Try.underlying22 el5 rfl rfl rfl rfl rfl o33 o40.rd g49 fB.size) rfl rfl rfl ?_
    rintro v45 w54 ⟨o46, q47, n48⟩
    have b5 := b5.wrO q47 f51
    have b16 := b16.wrO q47 f52
    have fB := fB.wrO q47 f53
    refine ol_val (v := v45) (by exact xr_assign rfl rfl) rfl rfl rfl ?_
    refine ol_nil ?_
    refine cw_seq ?_
    refine cw_region ?_
    refine ol_val (v := v45) (by exact xr_move rfl rfl) rfl rfl rfl ?_
    refine ol_val (v := .pointer (some ⟨G15, 0, none⟩)) (by exact xr_fieldAddr (p := 0) (q := 0) rfl fl44_0 rfl) rfl rfl rfl ?_
    refine ol_val (v := .pointer (some ⟨G15, 1, none⟩)) (by exact xr_fieldAddr (p := 0) (q := 1) rfl fl42_1 rfl) rfl rfl rfl ?_
    refine ol_val (v := .int .i64 a0.Entry.Handle.Gen) (by exact xr_load1 (v := .int .i64 a0.Entry.Handle.Gen) rfl ag3 rfl (b16.seg 1 rfl rfl)) rfl rfl rfl ?_
    refine ol_val (v := .int .u64 (IntKind.u64.wrap a0.Entry.Handle.Gen)) (by exact xr_conv rfl Try.underlying3 Try.underlying129 rfl) rfl rfl rfl ?_
    obtain ⟨t55, k56, h⟩ := bs h
    refine ol_op (by exact opv_call rfl cal95 (ac rfl (ac rfl an)) (octet_Lay.ok fu _ (IntKind.u64.wrap a0.Entry.Handle.Gen) 4 _ k56)) rfl rfl rfl ?_
    rintro u57 w61 ⟨_, o58, rfl, q60⟩
    have a62 := OffV.call o46 o58
    have o58 := Own.base o58 fB.size
    have b5 := b5.gr q60
    have o46 := o46.gr q60
    have fB := fB.gr q60
    obtain ⟨g67, h⟩ := gs h
    have f69 := off_ty b5 o46 (by decide)
    have f70 := o46.geO
    refine ol_op (by exact opv_append (K := (kI .u8)) rfl Try.underlying22 el5 rfl rfl rfl rfl rfl o46 o58.rd g67 fB.size) rfl rfl rfl ?_
    rintro v63 w71 ⟨o64, q65, n66⟩
    have b5 := b5.wrO q65 f69
    have fB := fB.wrO q65 f70
    refine ol_val (v := v63) (by exact xr_assign rfl rfl) rfl rfl rfl ?_
    refine ol_nil ?_
    refine cw_seq ?_
    refine cw_seq ?_
    refine cw_region ?_
    refine ol_val (v := .pointer (some ⟨G4, 4, none⟩)) (by exact xr_fieldAddr (p := 0) (q := 4) rfl fl47_1 rfl) rfl rfl rfl ?_
    refine ol_val (v := V0_0) (by exact xr_load1 (v := V0_0) rfl ag45 rfl (b5.seg 4 rfl rfl)) rfl rfl rfl ?_
    refine ol_val (v := .int .i64 (List.length a0.Kids : Int)) (by exact xr_lenR rfl Try.underlying45 rfl (R0_0.gr fB)) rfl rfl rfl ?_
    refine ol_val (v := .int .i64 0) (by exact xr_move rfl rfl) rfl rfl rfl ?_
    refine ol_nil ?_
    obtain ⟨e73, l74, h75⟩ := bs h
    refine cw_mid (fun ρ' w' => ∃ v76 : Value, ∃ o77 : Own (kI .u8) 5 w' w.heap.size v76 e73, ρ' 1 = .pointer (some ⟨G4, 0, none⟩) ∧ ρ' 5 = v76 ∧ Blk w' G4 47 [Seg.cell (.int .i64 a0.Entry.Handle.Slot), Seg.cell (.int .i64 a0.Entry.Handle.Gen), Seg.cell (.int .i64 a0.Entry.Key), Seg.cell (.int .i64 a0.Entry.Value), Seg.cell V0_0 R0_0.one] ∧ Gr w w') ?_ ?_
    · refine cw_block ?_
      refine cw_round (fun (s72 : (List Int) × Int) ρ' w' => ∃ v79 : Value, ∃ o80 : Own (kI .u8) 5 w' w.heap.size v79 s72.1, ρ' 1 = .pointer (some ⟨G4, 0, none⟩) ∧ ρ' 5 = v79 ∧ ρ' 36 = V0_0 ∧ ρ' 37 = .int .i64 (List.length a0.Kids : Int) ∧ ρ' 38 = .int .i64 s72.2 ∧ Blk w' G4 47 [Seg.cell (.int .i64 a0.Entry.Handle.Slot), Seg.cell (.int .i64 a0.Entry.Handle.Gen), Seg.cell (.int .i64 a0.Entry.Key), Seg.cell (.int .i64 a0.Entry.Value), Seg.cell V0_0 R0_0.one] ∧ Gr w w') l74 ?_ ?_
      · skip
        exact ⟨v63, o64, rfl, rfl, rfl, rfl, rfl, b5, fB⟩
      · rintro s72 x84 ρ82 w83 ⟨v79, o80, e1, e5, e36, e37, e38, b5, fB⟩ h
        unfold node_Put.s0 at h
        refine cw_seq ?_
        refine cw_region ?_
        refine ol_val (v := .bool (decide (s72.2 < (List.length a0.Kids : Int)))) (by exact xr_lss rfl e38 e37) rfl rfl rfl ?_
        refine ol_nil ?_
        refine cw_seq ?_
        rcases is h with ⟨c85, h⟩ | ⟨c85, h⟩
        · refine cw_condT rfl c85 ?_
          refine cw_skip ?_
          refine cw_seq ?_
          refine cw_block ?_
          refine cw_seq ?_
          refine cw_region ?_
          obtain ⟨g86, h⟩ := gs h
          refine ol_val (v := .pointer (some ⟨(sb V0_0), so V0_0 + Int.toNat s72.2 * 1, none⟩)) (by exact xr_indexR (K := (kI .i64)) (v := V0_0) rfl Try.underlying45 sz3 e36 (R0_0.gr fB) e38 g86.1 g86.2) rfl rfl rfl ?_
          refine ol_val (v := .int .i64 (ix a0.Kids s72.2)) (by exact xr_load1 (v := .int .i64 (ix a0.Kids s72.2)) rfl ag3 rfl ((R0_0.gr fB).elem g86.1 g86.2)) rfl rfl rfl ?_
          refine ol_val (v := .int .i64 (ix a0.Kids s72.2)) (by exact xr_assign rfl rfl) rfl rfl rfl ?_
          refine ol_nil ?_
          refine cw_region ?_
          refine ol_val (v := v79) (by exact xr_move rfl e5) rfl rfl rfl ?_
          refine ol_val (v := .int .i64 (ix a0.Kids s72.2)) (by exact xr_move rfl rfl) rfl rfl rfl ?_
          refine ol_val (v := .int .u64 (IntKind.u64.wrap (ix a0.Kids s72.2))) (by exact xr_conv rfl Try.underlying3 Try.underlying129 rfl) rfl rfl rfl ?_
          obtain ⟨t87, k88, h⟩ := bs h
          refine ol_op (by exact opv_call rfl cal95 (ac rfl (ac rfl an)) (octet_Lay.ok fu _ (IntKind.u64.wrap (ix a0.Kids s72.2)) 2 _ k88)) rfl rfl rfl ?_
          rintro u89 w93 ⟨_, o90, rfl, q92⟩
          have a94 := OffV.call o80 o90
          have o90 := Own.base o90 fB.size
          have b5 := b5.gr q92
          have o80 := o80.gr q92
          have fB := fB.gr q92
          obtain ⟨g99, h⟩ := gs h
          have f101 := off_ty b5 o80 (by decide)
          have f102 := o80.geO
          refine ol_op (by exact opv_append (K := (kI .u8)) rfl Try.underlying22 el5 rfl rfl rfl rfl rfl o80 o90.rd g99 fB.size) rfl rfl rfl ?_
          rintro v95 w103 ⟨o96, q97, n98⟩
          have b5 := b5.wrO q97 f101
          have fB := fB.wrO q97 f102
          refine ol_val (v := v95) (by exact xr_assign rfl rfl) rfl rfl rfl ?_
          refine ol_nil ?_
          refine blk_i ?_
          refine cw_region ?_
          refine ol_val (v := .int .i64 (IntKind.i64.wrap (s72.2 + 1))) (by exact xr_add rfl e38 rfl) rfl rfl rfl ?_
          refine ol_val (v := .int .i64 (IntKind.i64.wrap (s72.2 + 1))) (by exact xr_move rfl rfl) rfl rfl rfl ?_
          refine ol_nil ?_
          obtain rfl := Option.some.inj h
          refine lp_in ?_
          exact ⟨v95, o96, e1, rfl, e36, e37, rfl, b5, fB⟩
        · refine cw_condF rfl c85 ?_
          refine cw_exit ?_
          repeat (first | with_reducible refine thn_e ?_ | with_reducible refine blk_e rfl ?_)
          obtain rfl := Option.some.inj h
          refine lp_exit ?_
          rintro rfl
          refine thn_x ?_
          exact ⟨v79, o80, e1, e5, b5, fB⟩
    · rintro ρ104 w105 ⟨v76, o77, e1, e5, b5, fB⟩
      have h := h75
      refine cw_seq ?_
      refine cw_region ?_
      refine ol_val (v := .pointer (some ⟨G4, 4, none⟩)) (by exact xr_fieldAddr (p := 0) (q := 4) rfl fl47_1 e1) rfl rfl rfl ?_
      refine ol_val (v := V0_0) (by exact xr_load1 (v := V0_0) rfl ag45 rfl (b5.seg 4 rfl rfl)) rfl rfl rfl ?_
      refine ol_val (v := .int .i64 (List.length a0.Kids : Int)) (by exact xr_lenR rfl Try.underlying45 rfl (R0_0.gr fB)) rfl rfl rfl ?_
      refine ol_val (v := v76) (by exact xr_move rfl e5) rfl rfl rfl ?_
      obtain ⟨t106, k107, h⟩ := bs h
      refine ol_op (by exact opv_call rfl cal28 (ac rfl (ac rfl (ac rfl an))) (block_Seal.ok fu _ 1 (List.length a0.Kids : Int) e73 v76 (o77.rd) _ k107)) rfl rfl rfl ?_
      rintro _ w112 ⟨u108, o109, rfl, q111⟩
      have o109 := Own.base o109 fB.size
      have fB := fB.gr q111
      refine ol_val (v := u108) (by exact xr_extract rfl rfl rfl) rfl rfl rfl ?_
      refine ol_val (v := .bool t106.2) (by exact xr_extract rfl rfl rfl) rfl rfl rfl ?_
      refine ol_val (v := u108) (by exact xr_assign rfl rfl) rfl rfl rfl ?_
      refine ol_val (v := .bool t106.2) (by exact xr_assign rfl rfl) rfl rfl rfl ?_
      refine ol_nil ?_
      refine cw_ret ?_
      repeat (first | with_reducible refine thn_r ?_ | with_reducible refine blk_r ?_)
      obtain rfl := Option.some.inj h
      refine fin_ret2 Try.results39 rfl rfl ?_
      exact ⟨_, rfl, u108, o109, rfl, fB⟩
end Go.Proofs.Ytjhajfkfhdnciaa

/- cmp.Or[int]: its model, and that the Go function computes it: written by gen.py. -/
set_option linter.unusedVariables false
namespace Go.Proofs.Ytjhajfkfhdnciaa
open Go Go.Xw
def cmp_Or.s0 (fu : Nat) (a0 : List Int) : Int → Option (Sum (Sum Int Unit) Int) := fun s1 => (if (decide (s1 < (List.length a0 : Int))) = true then (if 0 ≤ s1 ∧ s1 < (List.length a0 : Int) then (if (!decide ((ix a0 s1) = 0)) = true then some (Sum.inl (Sum.inl ((ix a0 s1)))) else some (Sum.inr ((IntKind.i64.wrap (s1 + 1))))) else none) else some (Sum.inl (Sum.inr ())))
def cmp_Or.f (fu : Nat) (a0 : List Int) : Option Int := ((loopM (cmp_Or.s0 fu a0) fu (0)).bind fun e2 => match e2 with | Sum.inl p => some p | Sum.inr x5 => some (0))
set_option maxRecDepth 100000 in
set_option maxHeartbeats 400000 in
theorem cmp_Or.ok (fu : Nat) (w : World) (a0 : List Int) (V0_0 : Value) (R0_0 : Rd (kI .i64) w V0_0 a0) (r : Int) (h : cmp_Or.f fu a0 = some r) :
    Calls Try.prog 105 (([V0_0] : List Value).toArray) w (fun e w' => ∃ v, e = .returned v ∧ v = .int .i64 r ∧ Gr w w') := by
  unfold cmp_Or.f at h
  have fB : Gr w w := Fr.refl _ _
  refine calls_cw Try.func105 rfl Try.ntmps105 rfl ?_
  refine cw_seq ?_
  refine cw_region ?_
  refine ol_val (v := .int .i64 0) (by exact xr_assign rfl rfl) rfl rfl rfl ?_
  refine ol_nil ?_
  refine cw_seq ?_
  refine cw_region ?_
  refine ol_val (v := .int .i64 0) (by exact xr_assign rfl rfl) rfl rfl rfl ?_
  refine ol_nil ?_
  refine cw_seq ?_
  refine cw_seq ?_
  refine cw_region ?_
  refine ol_val (v := V0_0) (by exact xr_move rfl rfl) rfl rfl rfl ?_
  refine ol_val (v := .int .i64 (List.length a0 : Int)) (by exact xr_lenR rfl Try.underlying45 rfl (R0_0.gr fB)) rfl rfl rfl ?_
  refine ol_val (v := .int .i64 0) (by exact xr_move rfl rfl) rfl rfl rfl ?_
  refine ol_nil ?_
  obtain ⟨e2, l3, h4⟩ := bs h
  refine cw_mid (fun ρ' w' => ∃ x5, e2 = Sum.inr x5 ∧ ρ' 3 = .int .i64 0 ∧ Gr w w') ?_ ?_
  · refine cw_block ?_
    refine cw_round (fun (s1 : Int) ρ' w' => ρ' 3 = .int .i64 0 ∧ ρ' 6 = V0_0 ∧ ρ' 7 = .int .i64 (List.length a0 : Int) ∧ ρ' 8 = .int .i64 s1 ∧ Gr w w') l3 ?_ ?_
    · skip
      exact ⟨rfl, rfl, rfl, rfl, fB⟩
    · rintro s1 x8 ρ6 w7 ⟨e3, e6, e7, e8, fB⟩ h
      unfold cmp_Or.s0 at h
      refine cw_seq ?_
      refine cw_region ?_
      refine ol_val (v := .bool (decide (s1 < (List.length a0 : Int)))) (by exact xr_lss rfl e8 e7) rfl rfl rfl ?_
      refine ol_nil ?_
      refine cw_seq ?_
      rcases is h with ⟨c9, h⟩ | ⟨c9, h⟩
      · refine cw_condT rfl c9 ?_
        refine cw_skip ?_
        refine cw_seq ?_
        refine cw_block ?_
        refine cw_seq ?_
        refine cw_region ?_
        obtain ⟨g10, h⟩ := gs h
        refine ol_val (v := .pointer (some ⟨(sb V0_0), so V0_0 + Int.toNat s1 * 1, none⟩)) (by exact xr_indexR (K := (kI .i64)) (v := V0_0) rfl Try.underlying45 sz3 e6 (R0_0.gr fB) e8 g10.1 g10.2) rfl rfl rfl ?_
        refine ol_val (v := .int .i64 (ix a0 s1)) (by exact xr_load1 (v := .int .i64 (ix a0 s1)) rfl ag3 rfl ((R0_0.gr fB).elem g10.1 g10.2)) rfl rfl rfl ?_
        refine ol_val (v := .int .i64 (ix a0 s1)) (by exact xr_assign rfl rfl) rfl rfl rfl ?_
        refine ol_nil ?_
        refine cw_seq ?_
        refine cw_region ?_
        refine ol_val (v := .int .i64 (ix a0 s1)) (by exact xr_move rfl rfl) rfl rfl rfl ?_
        refine ol_val (v := .int .i64 0) (by exact xr_move rfl e3) rfl rfl rfl ?_
        refine ol_val (v := .bool (!decide ((ix a0 s1) = 0))) (by exact xr_neI rfl Try.underlying3 rfl rfl rfl) rfl rfl rfl ?_
        refine ol_nil ?_
        rcases is h with ⟨c11, h⟩ | ⟨c11, h⟩
        · refine cw_condT rfl c11 ?_
          refine cw_seq ?_
          refine cw_region ?_
          refine ol_val (v := .int .i64 (ix a0 s1)) (by exact xr_move rfl rfl) rfl rfl rfl ?_
          refine ol_val (v := .int .i64 (ix a0 s1)) (by exact xr_assign rfl rfl) rfl rfl rfl ?_
          refine ol_nil ?_
          refine cw_ret ?_
          repeat (first | with_reducible refine thn_r ?_ | with_reducible refine blk_r ?_)
          obtain rfl := Option.some.inj h
          refine lp_ret ?_
          rintro rfl
          repeat (first | with_reducible refine thn_r ?_ | with_reducible refine blk_r ?_)
          have h := h4
          obtain rfl := Option.some.inj h
          refine fin_ret1 Try.results105 rfl ?_
          exact ⟨_, rfl, rfl, fB⟩
        · refine cw_condF rfl c11 ?_
          refine cw_skip ?_
          refine blk_i ?_
          refine cw_region ?_
          refine ol_val (v := .int .i64 (IntKind.i64.wrap (s1 + 1))) (by exact xr_add rfl e8 rfl) rfl rfl rfl ?_
          refine ol_val (v := .int .i64 (IntKind.i64.wrap (s1 + 1))) (by exact xr_move rfl rfl) rfl rfl rfl ?_
          refine ol_nil ?_
          obtain rfl := Option.some.inj h
          refine lp_in ?_
          exact ⟨e3, e6, e7, rfl, fB⟩
      · refine cw_condF rfl c9 ?_
        refine cw_exit ?_
        repeat (first | with_reducible refine thn_e ?_ | with_reducible refine blk_e rfl ?_)
        obtain rfl := Option.some.inj h
        refine lp_exit ?_
        rintro rfl
        refine thn_x ?_
        exact ⟨_, rfl, e3, fB⟩
  · rintro ρ12 w13 ⟨x5, rfl, e3, fB⟩
    have h := h4
    refine cw_seq ?_
    refine cw_region ?_
    refine ol_val (v := .int .i64 0) (by exact xr_move rfl e3) rfl rfl rfl ?_
    refine ol_val (v := .int .i64 0) (by exact xr_assign rfl rfl) rfl rfl rfl ?_
    refine ol_nil ?_
    refine cw_ret ?_
    repeat (first | with_reducible refine thn_r ?_ | with_reducible refine blk_r ?_)
    obtain rfl := Option.some.inj h
    refine fin_ret1 Try.results105 rfl ?_
    exact ⟨_, rfl, rfl, fB⟩
end Go.Proofs.Ytjhajfkfhdnciaa

/- cmp.isNaN[int]: its model, and that the Go function computes it: written by gen.py. -/
set_option linter.unusedVariables false
namespace Go.Proofs.Ytjhajfkfhdnciaa
open Go Go.Xw
def cmp_isNaN.f (fu : Nat) (a0 : Int) : Option Bool := some ((!decide (a0 = a0)))
set_option maxRecDepth 100000 in
set_option maxHeartbeats 400000 in
theorem cmp_isNaN.ok (fu : Nat) (w : World) (a0 : Int) (r : Bool) (h : cmp_isNaN.f fu a0 = some r) :
    Calls Try.prog 137 (([.int .i64 a0] : List Value).toArray) w (fun e w' => ∃ v, e = .returned v ∧ v = .bool r ∧ Gr w w') := by
  unfold cmp_isNaN.f at h
  have fB : Gr w w := Fr.refl _ _
  refine calls_cw Try.func137 rfl Try.ntmps137 rfl ?_
  refine cw_seq ?_
  refine cw_region ?_
  refine ol_val (v := .bool false) (by exact xr_assign rfl rfl) rfl rfl rfl ?_
  refine ol_nil ?_
  refine cw_seq ?_
  refine cw_region ?_
  refine ol_val (v := .int .i64 a0) (by exact xr_move rfl rfl) rfl rfl rfl ?_
  refine ol_val (v := .int .i64 a0) (by exact xr_move rfl rfl) rfl rfl rfl ?_
  refine ol_val (v := .bool (!decide (a0 = a0))) (by exact xr_neI rfl Try.underlying3 rfl rfl rfl) rfl rfl rfl ?_
  refine ol_val (v := .bool (!decide (a0 = a0))) (by exact xr_assign rfl rfl) rfl rfl rfl ?_
  refine ol_nil ?_
  refine cw_ret ?_
  repeat (first | with_reducible refine thn_r ?_ | with_reducible refine blk_r ?_)
  obtain rfl := Option.some.inj h
  refine fin_ret1 Try.results137 rfl ?_
  exact ⟨_, rfl, rfl, fB⟩
end Go.Proofs.Ytjhajfkfhdnciaa

/- cmp.Compare[int]: its model, and that the Go function computes it: written by gen.py. -/
set_option linter.unusedVariables false
namespace Go.Proofs.Ytjhajfkfhdnciaa
open Go Go.Xw
def cmp_Compare.f (fu : Nat) (a0 : Int) (a1 : Int) : Option Int := ((cmp_isNaN.f fu a0 : Option Bool).bind fun t1 => ((cmp_isNaN.f fu a1 : Option Bool).bind fun t5 => (if t1 = true then (if t5 = true then some (0) else some ((-1))) else (if t5 = true then some (1) else (if (decide (a0 < a1)) = true then some ((-1)) else (if (decide (a0 > a1)) = true then some (1) else some (0)))))))
set_option maxRecDepth 100000 in
set_option maxHeartbeats 400000 in
theorem cmp_Compare.ok (fu : Nat) (w : World) (a0 : Int) (a1 : Int) (r : Int) (h : cmp_Compare.f fu a0 a1 = some r) :
    Calls Try.prog 106 (([.int .i64 a0, .int .i64 a1] : List Value).toArray) w (fun e w' => ∃ v, e = .returned v ∧ v = .int .i64 r ∧ Gr w w') := by
  unfold cmp_Compare.f at h
  have fB : Gr w w := Fr.refl _ _
  refine calls_cw Try.func106 rfl Try.ntmps106 rfl ?_
  refine cw_seq ?_
  refine cw_region ?_
  refine ol_val (v := .int .i64 0) (by exact xr_assign rfl rfl) rfl rfl rfl ?_
  refine ol_nil ?_
  refine cw_seq ?_
  refine cw_region ?_
  refine ol_val (v := .int .i64 a0) (by exact xr_move rfl rfl) rfl rfl rfl ?_
  obtain ⟨t1, k2, h⟩ := bs h
  refine ol_op (by exact opv_call rfl cal137 (ac rfl an) (cmp_isNaN.ok fu _ a0 _ k2)) rfl rfl rfl ?_
  rintro _ w4 ⟨rfl, q3⟩
  have fB := fB.gr q3
  refine ol_val (v := .bool t1) (by exact xr_assign rfl rfl) rfl rfl rfl ?_
  refine ol_nil ?_
  refine cw_seq ?_
  refine cw_region ?_
  refine ol_val (v := .int .i64 a1) (by exact xr_move rfl rfl) rfl rfl rfl ?_
  obtain ⟨t5, k6, h⟩ := bs h
  refine ol_op (by exact opv_call rfl cal137 (ac rfl an) (cmp_isNaN.ok fu _ a1 _ k6)) rfl rfl rfl ?_
  rintro _ w8 ⟨rfl, q7⟩
  have fB := fB.gr q7
  refine ol_val (v := .bool t5) (by exact xr_assign rfl rfl) rfl rfl rfl ?_
  refine ol_nil ?_
  refine cw_seq ?_
  refine cw_seq ?_
  refine cw_region ?_
  refine ol_val (v := .bool t1) (by exact xr_move rfl rfl) rfl rfl rfl ?_
  refine ol_nil ?_
  rcases is h with ⟨c9, h⟩ | ⟨c9, h⟩
  · refine cw_condT rfl c9 ?_
    refine cw_seq ?_
    refine cw_seq ?_
    refine cw_region ?_
    refine ol_val (v := .bool t5) (by exact xr_move rfl rfl) rfl rfl rfl ?_
    refine ol_nil ?_
    rcases is h with ⟨c10, h⟩ | ⟨c10, h⟩
    · refine cw_condT rfl c10 ?_
      refine cw_seq ?_
      refine cw_region ?_
      refine ol_val (v := .int .i64 0) (by exact xr_assign rfl rfl) rfl rfl rfl ?_
      refine ol_nil ?_
      refine cw_ret ?_
      repeat (first | with_reducible refine thn_r ?_ | with_reducible refine blk_r ?_)
      obtain rfl := Option.some.inj h
      refine fin_ret1 Try.results106 rfl ?_
      exact ⟨_, rfl, rfl, fB⟩
    · refine cw_condF rfl c10 ?_
      refine cw_skip ?_
      refine cw_seq ?_
      refine cw_region ?_
      refine ol_val (v := .int .i64 (-1)) (by exact xr_assign rfl rfl) rfl rfl rfl ?_
      refine ol_nil ?_
      refine cw_ret ?_
      repeat (first | with_reducible refine thn_r ?_ | with_reducible refine blk_r ?_)
      obtain rfl := Option.some.inj h
      refine fin_ret1 Try.results106 rfl ?_
      exact ⟨_, rfl, rfl, fB⟩
  · refine cw_condF rfl c9 ?_
    refine cw_skip ?_
    refine cw_seq ?_
    refine cw_seq ?_
    refine cw_region ?_
    refine ol_val (v := .bool t5) (by exact xr_move rfl rfl) rfl rfl rfl ?_
    refine ol_nil ?_
    rcases is h with ⟨c11, h⟩ | ⟨c11, h⟩
    · refine cw_condT rfl c11 ?_
      refine cw_seq ?_
      refine cw_region ?_
      refine ol_val (v := .int .i64 1) (by exact xr_assign rfl rfl) rfl rfl rfl ?_
      refine ol_nil ?_
      refine cw_ret ?_
      repeat (first | with_reducible refine thn_r ?_ | with_reducible refine blk_r ?_)
      obtain rfl := Option.some.inj h
      refine fin_ret1 Try.results106 rfl ?_
      exact ⟨_, rfl, rfl, fB⟩
    · refine cw_condF rfl c11 ?_
      refine cw_skip ?_
      refine cw_seq ?_
      refine cw_seq ?_
      refine cw_region ?_
      refine ol_val (v := .int .i64 a0) (by exact xr_move rfl rfl) rfl rfl rfl ?_
      refine ol_val (v := .int .i64 a1) (by exact xr_move rfl rfl) rfl rfl rfl ?_
      refine ol_val (v := .bool (decide (a0 < a1))) (by exact xr_lss rfl rfl rfl) rfl rfl rfl ?_
      refine ol_nil ?_
      rcases is h with ⟨c12, h⟩ | ⟨c12, h⟩
      · refine cw_condT rfl c12 ?_
        refine cw_seq ?_
        refine cw_region ?_
        refine ol_val (v := .int .i64 (-1)) (by exact xr_assign rfl rfl) rfl rfl rfl ?_
        refine ol_nil ?_
        refine cw_ret ?_
        repeat (first | with_reducible refine thn_r ?_ | with_reducible refine blk_r ?_)
        obtain rfl := Option.some.inj h
        refine fin_ret1 Try.results106 rfl ?_
        exact ⟨_, rfl, rfl, fB⟩
      · refine cw_condF rfl c12 ?_
        refine cw_skip ?_
        refine cw_seq ?_
        refine cw_seq ?_
        refine cw_region ?_
        refine ol_val (v := .int .i64 a0) (by exact xr_move rfl rfl) rfl rfl rfl ?_
        refine ol_val (v := .int .i64 a1) (by exact xr_move rfl rfl) rfl rfl rfl ?_
        refine ol_val (v := .bool (decide (a0 > a1))) (by exact xr_gtr rfl rfl rfl) rfl rfl rfl ?_
        refine ol_nil ?_
        rcases is h with ⟨c13, h⟩ | ⟨c13, h⟩
        · refine cw_condT rfl c13 ?_
          refine cw_seq ?_
          refine cw_region ?_
          refine ol_val (v := .int .i64 1) (by exact xr_assign rfl rfl) rfl rfl rfl ?_
          refine ol_nil ?_
          refine cw_ret ?_
          repeat (first | with_reducible refine thn_r ?_ | with_reducible refine blk_r ?_)
          obtain rfl := Option.some.inj h
          refine fin_ret1 Try.results106 rfl ?_
          exact ⟨_, rfl, rfl, fB⟩
        · refine cw_condF rfl c13 ?_
          refine cw_skip ?_
          refine cw_seq ?_
          refine cw_region ?_
          refine ol_val (v := .int .i64 0) (by exact xr_assign rfl rfl) rfl rfl rfl ?_
          refine ol_nil ?_
          refine cw_ret ?_
          repeat (first | with_reducible refine thn_r ?_ | with_reducible refine blk_r ?_)
          obtain rfl := Option.some.inj h
          refine fin_ret1 Try.results106 rfl ?_
          exact ⟨_, rfl, rfl, fB⟩
end Go.Proofs.Ytjhajfkfhdnciaa

/- rickyard/node.Compare: its model, and that the Go function computes it: written by gen.py. -/
set_option linter.unusedVariables false
namespace Go.Proofs.Ytjhajfkfhdnciaa
open Go Go.Xw
def node_Compare.f (fu : Nat) (a0 : S_api_Entry) (a1 : S_api_Entry) : Option Int := ((cmp_Compare.f fu a0.Key a1.Key : Option Int).bind fun t14 => ((cmp_Compare.f fu a0.Handle.Slot a1.Handle.Slot : Option Int).bind fun t17 => ((cmp_Compare.f fu a0.Handle.Gen a1.Handle.Gen : Option Int).bind fun t23 => ((cmp_Or.f fu [t14, t17, t23] : Option Int).bind fun t33 => some (t33)))))
set_option maxRecDepth 100000 in
set_option maxHeartbeats 400000 in
theorem node_Compare.ok (fu : Nat) (w : World) (a0 : S_api_Entry) (a1 : S_api_Entry) (r : Int) (h : node_Compare.f fu a0 a1 = some r) :
    Calls Try.prog 40 (([aggV [Seg.cell (.int .i64 a0.Handle.Slot), Seg.cell (.int .i64 a0.Handle.Gen), Seg.cell (.int .i64 a0.Key), Seg.cell (.int .i64 a0.Value)], aggV [Seg.cell (.int .i64 a1.Handle.Slot), Seg.cell (.int .i64 a1.Handle.Gen), Seg.cell (.int .i64 a1.Key), Seg.cell (.int .i64 a1.Value)]] : List Value).toArray) w (fun e w' => ∃ v, e = .returned v ∧ v = .int .i64 r ∧ Gr w w') := by
  unfold node_Compare.f at h
  have fB : Gr w w := Fr.refl _ _
  refine calls_cw Try.func40 rfl Try.ntmps40 rfl ?_
  refine cw_seq ?_
  refine cw_region ?_
  refine ol_op (by exact opv_box (ss := [Seg.cell (.int .i64 a0.Handle.Slot), Seg.cell (.int .i64 a0.Handle.Gen), Seg.cell (.int .i64 a0.Key), Seg.cell (.int .i64 a0.Value)]) rfl rfl rfl) rfl rfl rfl ?_
  rintro _ w6 ⟨G1, rfl, b2, q3, z4⟩
  have z4 := Nat.le_trans fB.size z4
  have fB := fB.gr q3
  refine ol_op (by exact opv_box (ss := [Seg.cell (.int .i64 a1.Handle.Slot), Seg.cell (.int .i64 a1.Handle.Gen), Seg.cell (.int .i64 a1.Key), Seg.cell (.int .i64 a1.Value)]) rfl rfl rfl) rfl rfl rfl ?_
  rintro _ w12 ⟨G7, rfl, b8, q9, z10⟩
  have n13 := Blk.ne b2 z10
  have z10 := Nat.le_trans fB.size z10
  have b2 := b2.gr q9
  have fB := fB.gr q9
  refine ol_val (v := .int .i64 0) (by exact xr_assign rfl rfl) rfl rfl rfl ?_
  refine ol_nil ?_
  refine cw_seq ?_
  obtain ⟨t14, k15, h⟩ := bs h
  obtain ⟨t17, k18, h⟩ := bs h
  refine cw_drawL 18 [fun vz wz => vz = (.pointer (some ⟨G1, 2, none⟩) : Value), fun vz wz => vz = (.int .i64 a0.Key : Value), fun vz wz => vz = (.pointer (some ⟨G7, 2, none⟩) : Value), fun vz wz => vz = (.int .i64 a1.Key : Value), fun vz wz => vz = (.int .i64 t14 : Value), fun vz wz => vz = (.pointer (some ⟨G1, 0, none⟩) : Value), fun vz wz => vz = (.pointer (some ⟨G1, 0, none⟩) : Value), fun vz wz => vz = (.int .i64 a0.Handle.Slot : Value), fun vz wz => vz = (.pointer (some ⟨G7, 0, none⟩) : Value), fun vz wz => vz = (.pointer (some ⟨G7, 0, none⟩) : Value), fun vz wz => vz = (.int .i64 a1.Handle.Slot : Value), fun vz wz => vz = (.int .i64 t17 : Value), fun vz wz => vz = (.pointer (some ⟨G1, 0, none⟩) : Value), fun vz wz => vz = (.pointer (some ⟨G1, 1, none⟩) : Value), fun vz wz => vz = (.int .i64 a0.Handle.Gen : Value), fun vz wz => vz = (.pointer (some ⟨G7, 0, none⟩) : Value), fun vz wz => vz = (.pointer (some ⟨G7, 1, none⟩) : Value), fun vz wz => vz = (.int .i64 a1.Handle.Gen : Value)] mo rfl ⟨fun _ _ _ h _ => h, fun _ _ _ h _ => h, fun _ _ _ h _ => h, fun _ _ _ h _ => h, fun _ _ _ h _ => h, fun _ _ _ h _ => h, fun _ _ _ h _ => h, fun _ _ _ h _ => h, fun _ _ _ h _ => h, fun _ _ _ h _ => h, fun _ _ _ h _ => h, fun _ _ _ h _ => h, fun _ _ _ h _ => h, fun _ _ _ h _ => h, fun _ _ _ h _ => h, fun _ _ _ h _ => h, fun _ _ _ h _ => h, fun _ _ _ h _ => h, trivial⟩ ?_ ?_
  · refine ⟨?_, ?_, ?_, ?_, ?_, ?_, ?_, ?_, ?_, ?_, ?_, ?_, ?_, ?_, ?_, ?_, ?_, ?_, trivial⟩
    · intro ρz wz hz hk hd
      exact sk_val (v := .pointer (some ⟨G1, 2, none⟩)) (by exact xr_fieldAddr (p := 0) (q := 2) rfl fl44_1 ((hk 2 rfl).trans rfl)) rfl rfl
    · intro ρz wz hz hk hd
      have d5 := hd 0 rfl 5 rfl
      exact sk_val (v := .int .i64 a0.Key) (by exact xr_load1 (v := .int .i64 a0.Key) rfl ag3 d5 ((b2.gr hz).seg 2 rfl rfl)) rfl rfl
    · intro ρz wz hz hk hd
      exact sk_val (v := .pointer (some ⟨G7, 2, none⟩)) (by exact xr_fieldAddr (p := 0) (q := 2) rfl fl44_1 ((hk 3 rfl).trans rfl)) rfl rfl
    · intro ρz wz hz hk hd
      have d7 := hd 2 rfl 7 rfl
      exact sk_val (v := .int .i64 a1.Key) (by exact xr_load1 (v := .int .i64 a1.Key) rfl ag3 d7 ((b8.gr hz).seg 2 rfl rfl)) rfl rfl
    · intro ρz wz hz hk hd
      have d6 := hd 1 rfl 6 rfl
      have d8 := hd 3 rfl 8 rfl
      refine sk_op (by exact opv_call rfl cal106 (ac d6 (ac d8 an)) (cmp_Compare.ok fu _ a0.Key a1.Key _ k15)) rfl ?_
      rintro _ wy ⟨rfl, q16⟩
      exact ⟨rfl, q16⟩
    · intro ρz wz hz hk hd
      exact sk_val (v := .pointer (some ⟨G1, 0, none⟩)) (by exact xr_fieldAddr (p := 0) (q := 0) rfl fl44_0 ((hk 2 rfl).trans rfl)) rfl rfl
    · intro ρz wz hz hk hd
      have d10 := hd 5 rfl 10 rfl
      exact sk_val (v := .pointer (some ⟨G1, 0, none⟩)) (by exact xr_fieldAddr (p := 0) (q := 0) rfl fl42_0 d10) rfl rfl
    · intro ρz wz hz hk hd
      have d11 := hd 6 rfl 11 rfl
      exact sk_val (v := .int .i64 a0.Handle.Slot) (by exact xr_load1 (v := .int .i64 a0.Handle.Slot) rfl ag3 d11 ((b2.gr hz).seg 0 rfl rfl)) rfl rfl
    · intro ρz wz hz hk hd
      exact sk_val (v := .pointer (some ⟨G7, 0, none⟩)) (by exact xr_fieldAddr (p := 0) (q := 0) rfl fl44_0 ((hk 3 rfl).trans rfl)) rfl rfl
    · intro ρz wz hz hk hd
      have d13 := hd 8 rfl 13 rfl
      exact sk_val (v := .pointer (some ⟨G7, 0, none⟩)) (by exact xr_fieldAddr (p := 0) (q := 0) rfl fl42_0 d13) rfl rfl
    · intro ρz wz hz hk hd
      have d14 := hd 9 rfl 14 rfl
      exact sk_val (v := .int .i64 a1.Handle.Slot) (by exact xr_load1 (v := .int .i64 a1.Handle.Slot) rfl ag3 d14 ((b8.gr hz).seg 0 rfl rfl)) rfl rfl
    · intro ρz wz hz hk hd
      have d12 := hd 7 rfl 12 rfl
      have d15 := hd 10 rfl 15 rfl
      refine sk_op (by exact opv_call rfl cal106 (ac d12 (ac d15 an)) (cmp_Compare.ok fu _ a0.Handle.Slot a1.Handle.Slot _ k18)) rfl ?_
      rintro _ wy ⟨rfl, q19⟩
      exact ⟨rfl, q19⟩
    · intro ρz wz hz hk hd
      exact sk_val (v := .pointer (some ⟨G1, 0, none⟩)) (by exact xr_fieldAddr (p := 0) (q := 0) rfl fl44_0 ((hk 2 rfl).trans rfl)) rfl rfl
    · intro ρz wz hz hk hd
      have d17 := hd 12 rfl 17 rfl
      exact sk_val (v := .pointer (some ⟨G1, 1, none⟩)) (by exact xr_fieldAddr (p := 0) (q := 1) rfl fl42_1 d17) rfl rfl
    · intro ρz wz hz hk hd
      have d18 := hd 13 rfl 18 rfl
      exact sk_val (v := .int .i64 a0.Handle.Gen) (by exact xr_load1 (v := .int .i64 a0.Handle.Gen) rfl ag3 d18 ((b2.gr hz).seg 1 rfl rfl)) rfl rfl
    · intro ρz wz hz hk hd
      exact sk_val (v := .pointer (some ⟨G7, 0, none⟩)) (by exact xr_fieldAddr (p := 0) (q := 0) rfl fl44_0 ((hk 3 rfl).trans rfl)) rfl rfl
    · intro ρz wz hz hk hd
      have d20 := hd 15 rfl 20 rfl
      exact sk_val (v := .pointer (some ⟨G7, 1, none⟩)) (by exact xr_fieldAddr (p := 0) (q := 1) rfl fl42_1 d20) rfl rfl
    · intro ρz wz hz hk hd
      have d21 := hd 16 rfl 21 rfl
      exact sk_val (v := .int .i64 a1.Handle.Gen) (by exact xr_load1 (v := .int .i64 a1.Handle.Gen) rfl ag3 d21 ((b8.gr hz).seg 1 rfl rfl)) rfl rfl
  · intro ρ20 w21 q22 hk hd
    have e9 := hd 4 rfl 9 rfl
    have e16 := hd 11 rfl 16 rfl
    have e19 := hd 14 rfl 19 rfl
    have e22 := hd 17 rfl 22 rfl
    have fB := fB.gr q22
    obtain ⟨t23, k24, h⟩ := bs h
    refine ol_op (by exact opv_call rfl cal106 (ac e19 (ac e22 an)) (cmp_Compare.ok fu _ a0.Handle.Gen a1.Handle.Gen _ k24)) rfl rfl rfl ?_
    rintro _ w26 ⟨rfl, q25⟩
    have fB := fB.gr q25
    refine ol_op (by exact opv_buildSlice (K := (kI .i64)) (xs := [t14, t17, t23]) (vals := [.int .i64 t14, .int .i64 t17, .int .i64 t23]) rfl Try.underlying45 el3 rfl rfl ⟨rfl, e9, ⟨rfl, e16, ⟨rfl, rfl, trivial⟩⟩⟩ rfl rfl rfl fB.size) rfl rfl rfl ?_
    rintro v27 w32 ⟨o29, q28, z30⟩
    have fB := fB.gr q28
    obtain ⟨t33, k34, h⟩ := bs h
    refine ol_op (by exact opv_call rfl cal105 (ac rfl an) (cmp_Or.ok fu _ [t14, t17, t23] v27 (o29.rd) _ k34)) rfl rfl rfl ?_
    rintro _ w36 ⟨rfl, q35⟩
    have fB := fB.gr q35
    refine ol_val (v := .int .i64 t33) (by exact xr_assign rfl rfl) rfl rfl rfl ?_
    refine ol_nil ?_
    refine cw_ret ?_
    repeat (first | with_reducible refine thn_r ?_ | with_reducible refine blk_r ?_)
    obtain rfl := Option.some.inj h
    refine fin_ret1 Try.results40 rfl ?_
    exact ⟨_, rfl, rfl, fB⟩
end Go.Proofs.Ytjhajfkfhdnciaa

/- rickyard/rickyardlaw08.awake: its model, and that the Go function computes it: written by gen.py. -/
set_option linter.unusedVariables false
namespace Go.Proofs.Ytjhajfkfhdnciaa
open Go Go.Xw
def rickyardlaw08_awake.f (fu : Nat) : Option Bool := ((node_Put.f fu (⟨(⟨(⟨3, 1⟩ : S_api_Handle), (-5), 7⟩ : S_api_Entry), [9]⟩ : S_api_Node) : Option ((List Int) × Bool)).bind fun t16 => ((node_Get.f fu t16.1 : Option (S_api_Node × Bool)).bind fun t23 => (((if t16.2 = true then (if t23.2 = true then (if (decide ((List.length t16.1 : Int) = 64)) = true then (if (decide ((List.length t23.1.Kids : Int) = 1)) = true then (if (decide (t23.1.Entry = (⟨(⟨3, 1⟩ : S_api_Handle), (-5), 7⟩ : S_api_Entry))) = true then ((node_Compare.f fu (⟨(⟨3, 1⟩ : S_api_Handle), (-5), 7⟩ : S_api_Entry) (⟨(⟨(0 : Int), (0 : Int)⟩ : S_api_Handle), (0 : Int), (0 : Int)⟩ : S_api_Entry) : Option Int).bind fun t50 => some ((decide (t50 = (-1))))) else some (false)) else some (false)) else some (false)) else some (false)) else some (false)) : Option Bool).bind fun x43 => some (x43))))
set_option maxRecDepth 100000 in
set_option maxHeartbeats 400000 in
theorem rickyardlaw08_awake.ok (fu : Nat) (w : World)  (r : Bool) (h : rickyardlaw08_awake.f fu = some r) :
    Calls Try.prog 35 (([] : List Value).toArray) w (fun e w' => ∃ v, e = .returned v ∧ v = .bool r ∧ Gr w w') := by
  unfold rickyardlaw08_awake.f at h
  have fB : Gr w w := Fr.refl _ _
  refine calls_cw Try.func35 rfl Try.ntmps35 rfl ?_
  refine cw_seq ?_
  refine cw_region ?_
  refine ol_val (v := .bool false) (by exact xr_assign rfl rfl) rfl rfl rfl ?_
  refine ol_nil ?_
  refine cw_seq ?_
  refine cw_region ?_
  refine ol_val (v := aggV [Seg.cell (.int .i64 3), Seg.cell (.int .i64 1)]) (by exact xr_build (vals := [(0, .int .i64 3), (1, .int .i64 1)]) rfl ⟨rfl, rfl, ⟨rfl, rfl, trivial⟩⟩ (bl42_0_1 3 1 _)) rfl rfl rfl ?_
  refine ol_val (v := aggV [Seg.cell (.int .i64 3), Seg.cell (.int .i64 1), Seg.cell (.int .i64 (-5)), Seg.cell (.int .i64 7)]) (by exact xr_buildS (vals := [(0, aggV [Seg.cell (.int .i64 3), Seg.cell (.int .i64 1)]), (1, .int .i64 (-5)), (2, .int .i64 7)]) (res := [Seg.cell (.int .i64 3), Seg.cell (.int .i64 1), Seg.cell (.int .i64 (-5)), Seg.cell (.int .i64 7)]) rfl ⟨rfl, rfl, ⟨rfl, rfl, ⟨rfl, rfl, trivial⟩⟩⟩ Try.underlying44 ze44 pl44 (fl_cons (xs := cellsOf [Seg.cell (.int .i64 3), Seg.cell (.int .i64 1)]) (cs' := cellsOf [Seg.cell (.int .i64 3), Seg.cell (.int .i64 1), Seg.cell (.int .i64 (0 : Int)), Seg.cell (.int .i64 (0 : Int))]) rfl rfl (len_cellsOf _) (Spl.segs [Seg.cell (.int .i64 (0 : Int)), Seg.cell (.int .i64 (0 : Int)), Seg.cell (.int .i64 (0 : Int)), Seg.cell (.int .i64 (0 : Int))] 0 2 [Seg.cell (.int .i64 3), Seg.cell (.int .i64 1)] rfl rfl) (fl_cons (xs := cellsOf [Seg.cell (.int .i64 (-5))]) (cs' := cellsOf [Seg.cell (.int .i64 3), Seg.cell (.int .i64 1), Seg.cell (.int .i64 (-5)), Seg.cell (.int .i64 (0 : Int))]) rfl rfl (len_cellsOf _) (Spl.segs [Seg.cell (.int .i64 3), Seg.cell (.int .i64 1), Seg.cell (.int .i64 (0 : Int)), Seg.cell (.int .i64 (0 : Int))] 2 1 [Seg.cell (.int .i64 (-5))] rfl rfl) (fl_cons (xs := cellsOf [Seg.cell (.int .i64 7)]) (cs' := cellsOf [Seg.cell (.int .i64 3), Seg.cell (.int .i64 1), Seg.cell (.int .i64 (-5)), Seg.cell (.int .i64 7)]) rfl rfl (len_cellsOf _) (Spl.segs [Seg.cell (.int .i64 3), Seg.cell (.int .i64 1), Seg.cell (.int .i64 (-5)), Seg.cell (.int .i64 (0 : Int))] 3 1 [Seg.cell (.int .i64 7)] rfl rfl) fl_nil)))) rfl rfl rfl ?_
  refine ol_op (by exact opv_buildSlice (K := (kI .i64)) (xs := [9]) (vals := [.int .i64 9]) rfl Try.underlying45 el3 rfl rfl ⟨rfl, rfl, trivial⟩ rfl rfl rfl fB.size) rfl rfl rfl ?_
  rintro v1 w6 ⟨o3, q2, z4⟩
  have fB := fB.gr q2
  refine ol_val (v := aggV [Seg.cell (.int .i64 3), Seg.cell (.int .i64 1), Seg.cell (.int .i64 (-5)), Seg.cell (.int .i64 7), Seg.cell v1 o3.one]) (by exact xr_buildS (vals := [(0, aggV [Seg.cell (.int .i64 3), Seg.cell (.int .i64 1), Seg.cell (.int .i64 (-5)), Seg.cell (.int .i64 7)]), (1, v1)]) (res := [Seg.cell (.int .i64 3), Seg.cell (.int .i64 1), Seg.cell (.int .i64 (-5)), Seg.cell (.int .i64 7), Seg.cell v1 o3.one]) rfl ⟨rfl, rfl, ⟨rfl, rfl, trivial⟩⟩ Try.underlying47 ze47 pl47 (fl_cons (xs := cellsOf [Seg.cell (.int .i64 3), Seg.cell (.int .i64 1), Seg.cell (.int .i64 (-5)), Seg.cell (.int .i64 7)]) (cs' := cellsOf [Seg.cell (.int .i64 3), Seg.cell (.int .i64 1), Seg.cell (.int .i64 (-5)), Seg.cell (.int .i64 7), Seg.cell (.slice none 0 0) (by rfl)]) rfl rfl (len_cellsOf _) (Spl.segs [Seg.cell (.int .i64 (0 : Int)), Seg.cell (.int .i64 (0 : Int)), Seg.cell (.int .i64 (0 : Int)), Seg.cell (.int .i64 (0 : Int)), Seg.cell (.slice none 0 0) (by rfl)] 0 4 [Seg.cell (.int .i64 3), Seg.cell (.int .i64 1), Seg.cell (.int .i64 (-5)), Seg.cell (.int .i64 7)] rfl rfl) (fl_cons (xs := cellsOf [Seg.cell v1 o3.one]) (cs' := cellsOf [Seg.cell (.int .i64 3), Seg.cell (.int .i64 1), Seg.cell (.int .i64 (-5)), Seg.cell (.int .i64 7), Seg.cell v1 o3.one]) rfl (cells_one o3.one) (len_cellsOf _) (Spl.segs [Seg.cell (.int .i64 3), Seg.cell (.int .i64 1), Seg.cell (.int .i64 (-5)), Seg.cell (.int .i64 7), Seg.cell (.slice none 0 0) (by rfl)] 4 1 [Seg.cell v1 o3.one] rfl rfl) fl_nil))) rfl rfl rfl ?_
  refine ol_op (by exact opv_alloc (ss := [Seg.cell (.int .i64 (0 : Int)), Seg.cell (.int .i64 (0 : Int)), Seg.cell (.int .i64 (0 : Int)), Seg.cell (.int .i64 (0 : Int)), Seg.cell (.slice none 0 0) (by rfl)]) rfl ze47 rfl) rfl rfl rfl ?_
  rintro _ w12 ⟨G7, rfl, b8, q9, z10⟩
  have z10 := Nat.le_trans fB.size z10
  have o3 := o3.gr q9
  have fB := fB.gr q9
  have f14 := off_ty b8 o3 (by decide)
  refine ol_op0 (by exact opv_store (ss' := [Seg.cell (.int .i64 3), Seg.cell (.int .i64 1), Seg.cell (.int .i64 (-5)), Seg.cell (.int .i64 7), Seg.cell v1 o3.one]) (xs := cellsOf [Seg.cell (.int .i64 3), Seg.cell (.int .i64 1), Seg.cell (.int .i64 (-5)), Seg.cell (.int .i64 7), Seg.cell v1 o3.one]) rfl sz47 rfl rfl rfl (len_cellsOf _) (one_cellsOf _) b8 (Spl.segs _ 0 5 [Seg.cell (.int .i64 3), Seg.cell (.int .i64 1), Seg.cell (.int .i64 (-5)), Seg.cell (.int .i64 7), Seg.cell v1 o3.one] rfl rfl)) rfl rfl ?_
  rintro _ w15 ⟨b8, q13⟩
  have o3 := o3.wr q13 f14
  have fB := fB.wr q13 z10
  refine ol_nil ?_
  refine cw_seq ?_
  refine cw_region ?_
  refine ol_val (v := aggV [Seg.cell (.int .i64 3), Seg.cell (.int .i64 1), Seg.cell (.int .i64 (-5)), Seg.cell (.int .i64 7), Seg.cell v1 o3.one]) (by exact xr_loadS (ss := [Seg.cell (.int .i64 3), Seg.cell (.int .i64 1), Seg.cell (.int .i64 (-5)), Seg.cell (.int .i64 7), Seg.cell v1 o3.one]) rfl ag47 sz47 rfl rfl (b8.segs 0 5 rfl)) rfl rfl rfl ?_
  obtain ⟨t16, k17, h⟩ := bs h
  refine ol_op (by exact opv_call rfl cal39 (ac rfl an) (node_Put.ok fu _ (⟨(⟨(⟨3, 1⟩ : S_api_Handle), (-5), 7⟩ : S_api_Entry), [9]⟩ : S_api_Node) v1 (o3.rd) _ k17)) rfl rfl rfl ?_
  rintro _ w22 ⟨u18, o19, rfl, q21⟩
  have o19 := Own.base o19 fB.size
  have b8 := b8.gr q21
  have o3 := o3.gr q21
  have fB := fB.gr q21
  refine ol_val (v := .tuple #[u18, .bool t16.2]) (by exact xr_move rfl rfl) rfl rfl rfl ?_
  refine ol_val (v := u18) (by exact xr_extract rfl rfl rfl) rfl rfl rfl ?_
  refine ol_val (v := .bool t16.2) (by exact xr_extract rfl rfl rfl) rfl rfl rfl ?_
  refine ol_val (v := u18) (by exact xr_assign rfl rfl) rfl rfl rfl ?_
  refine ol_val (v := .bool t16.2) (by exact xr_assign rfl rfl) rfl rfl rfl ?_
  refine ol_nil ?_
  refine cw_seq ?_
  refine cw_region ?_
  refine ol_val (v := u18) (by exact xr_move rfl rfl) rfl rfl rfl ?_
  obtain ⟨t23, k24, h⟩ := bs h
  refine ol_op (by exact opv_call rfl cal36 (ac rfl an) (node_Get.ok fu _ t16.1 u18 (o19.rd) _ k24)) rfl rfl rfl ?_
  rintro _ w29 ⟨u25, o26, rfl, q28⟩
  have a30 := OffV.call o3 o26
  have o26 := Own.base o26 fB.size
  have b8 := b8.gr q28
  have o3 := o3.gr q28
  have o19 := o19.gr q28
  have fB := fB.gr q28
  refine ol_val (v := .tuple #[aggV [Seg.cell (.int .i64 t23.1.Entry.Handle.Slot), Seg.cell (.int .i64 t23.1.Entry.Handle.Gen), Seg.cell (.int .i64 t23.1.Entry.Key), Seg.cell (.int .i64 t23.1.Entry.Value), Seg.cell u25 o26.one], .bool t23.2]) (by exact xr_move rfl rfl) rfl rfl rfl ?_
  refine ol_val (v := aggV [Seg.cell (.int .i64 t23.1.Entry.Handle.Slot), Seg.cell (.int .i64 t23.1.Entry.Handle.Gen), Seg.cell (.int .i64 t23.1.Entry.Key), Seg.cell (.int .i64 t23.1.Entry.Value), Seg.cell u25 o26.one]) (by exact xr_extract rfl rfl rfl) rfl rfl rfl ?_
  refine ol_val (v := .bool t23.2) (by exact xr_extract rfl rfl rfl) rfl rfl rfl ?_
  refine ol_op (by exact opv_alloc (ss := [Seg.cell (.int .i64 (0 : Int)), Seg.cell (.int .i64 (0 : Int)), Seg.cell (.int .i64 (0 : Int)), Seg.cell (.int .i64 (0 : Int)), Seg.cell (.slice none 0 0) (by rfl)]) rfl ze47 rfl) rfl rfl rfl ?_
  rintro _ w36 ⟨G31, rfl, b32, q33, z34⟩
  have n37 := Blk.ne b8 z34
  have z34 := Nat.le_trans fB.size z34
  have b8 := b8.gr q33
  have o3 := o3.gr q33
  have o19 := o19.gr q33
  have o26 := o26.gr q33
  have fB := fB.gr q33
  have f39 := off_ty b32 o3 (by decide)
  have f40 := off_ty b32 o19 (by decide)
  have f41 := off_ty b32 o26 (by decide)
  refine ol_op0 (by exact opv_store (ss' := [Seg.cell (.int .i64 t23.1.Entry.Handle.Slot), Seg.cell (.int .i64 t23.1.Entry.Handle.Gen), Seg.cell (.int .i64 t23.1.Entry.Key), Seg.cell (.int .i64 t23.1.Entry.Value), Seg.cell u25 o26.one]) (xs := cellsOf [Seg.cell (.int .i64 t23.1.Entry.Handle.Slot), Seg.cell (.int .i64 t23.1.Entry.Handle.Gen), Seg.cell (.int .i64 t23.1.Entry.Key), Seg.cell (.int .i64 t23.1.Entry.Value), Seg.cell u25 o26.one]) rfl sz47 rfl rfl rfl (len_cellsOf _) (one_cellsOf _) b32 (Spl.segs _ 0 5 [Seg.cell (.int .i64 t23.1.Entry.Handle.Slot), Seg.cell (.int .i64 t23.1.Entry.Handle.Gen), Seg.cell (.int .i64 t23.1.Entry.Key), Seg.cell (.int .i64 t23.1.Entry.Value), Seg.cell u25 o26.one] rfl rfl)) rfl rfl ?_
  rintro _ w42 ⟨b32, q38⟩
  have b8 := b8.wr q38 n37
  have o3 := o3.wr q38 f39
  have o19 := o19.wr q38 f40
  have o26 := o26.wr q38 f41
  have fB := fB.wr q38 z34
  refine ol_val (v := .bool t23.2) (by exact xr_assign rfl rfl) rfl rfl rfl ?_
  refine ol_nil ?_
  refine cw_seq ?_
  obtain ⟨x43, j44, h⟩ := bs h
  refine cw_mid (fun ρ' w' => ρ' 0 = .bool x43 ∧ Gr w42 w') ?_ ?_
  · skip
    refine cw_region ?_
    refine ol_val (v := .bool t16.2) (by exact xr_move rfl rfl) rfl rfl rfl ?_
    refine ol_val (v := .bool t16.2) (by exact xr_move rfl rfl) rfl rfl rfl ?_
    rcases is j44 with ⟨c45, j44⟩ | ⟨c45, j44⟩
    · skip
      refine ol_gval (v := .bool t23.2) (by exact xr_move rfl rfl) rfl rfl rfl rfl rfl c45 ?_
      refine ol_val (v := .bool t23.2) (by exact xr_pickT rfl rfl c45 rfl) rfl rfl rfl ?_
      refine ol_val (v := .bool t23.2) (by exact xr_move rfl rfl) rfl rfl rfl ?_
      rcases is j44 with ⟨c46, j44⟩ | ⟨c46, j44⟩
      · skip
        refine ol_gval (v := u18) (by exact xr_move rfl rfl) rfl rfl rfl rfl rfl c46 ?_
        refine ol_gval (v := .int .i64 (List.length t16.1 : Int)) (by exact xr_lenR rfl Try.underlying22 rfl o19.rd) rfl rfl rfl rfl rfl c46 ?_
        refine ol_gval (v := .bool (decide ((List.length t16.1 : Int) = 64))) (by exact xr_eqI rfl Try.underlying3 rfl rfl rfl) rfl rfl rfl rfl rfl c46 ?_
        refine ol_val (v := .bool (decide ((List.length t16.1 : Int) = 64))) (by exact xr_pickT rfl rfl c46 rfl) rfl rfl rfl ?_
        refine ol_val (v := .bool (decide ((List.length t16.1 : Int) = 64))) (by exact xr_move rfl rfl) rfl rfl rfl ?_
        rcases is j44 with ⟨c47, j44⟩ | ⟨c47, j44⟩
        · skip
          refine ol_gval (v := .pointer (some ⟨G31, 4, none⟩)) (by exact xr_fieldAddr (p := 0) (q := 4) rfl fl47_1 rfl) rfl rfl rfl rfl rfl c47 ?_
          refine ol_gval (v := u25) (by exact xr_load1 (v := u25) rfl ag45 rfl (b32.seg 4 rfl rfl)) rfl rfl rfl rfl rfl c47 ?_
          refine ol_gval (v := .int .i64 (List.length t23.1.Kids : Int)) (by exact xr_lenR rfl Try.underlying45 rfl o26.rd) rfl rfl rfl rfl rfl c47 ?_
          refine ol_gval (v := .bool (decide ((List.length t23.1.Kids : Int) = 1))) (by exact xr_eqI rfl Try.underlying3 rfl rfl rfl) rfl rfl rfl rfl rfl c47 ?_
          refine ol_val (v := .bool (decide ((List.length t23.1.Kids : Int) = 1))) (by exact xr_pickT rfl rfl c47 rfl) rfl rfl rfl ?_
          refine ol_val (v := .bool (decide ((List.length t23.1.Kids : Int) = 1))) (by exact xr_move rfl rfl) rfl rfl rfl ?_
          rcases is j44 with ⟨c48, j44⟩ | ⟨c48, j44⟩
          · skip
            refine ol_gval (v := .pointer (some ⟨G31, 0, none⟩)) (by exact xr_fieldAddr (p := 0) (q := 0) rfl fl47_0 rfl) rfl rfl rfl rfl rfl c48 ?_
            refine ol_gval (v := aggV [Seg.cell (.int .i64 t23.1.Entry.Handle.Slot), Seg.cell (.int .i64 t23.1.Entry.Handle.Gen), Seg.cell (.int .i64 t23.1.Entry.Key), Seg.cell (.int .i64 t23.1.Entry.Value)]) (by exact xr_loadS (ss := [Seg.cell (.int .i64 t23.1.Entry.Handle.Slot), Seg.cell (.int .i64 t23.1.Entry.Handle.Gen), Seg.cell (.int .i64 t23.1.Entry.Key), Seg.cell (.int .i64 t23.1.Entry.Value)]) rfl ag44 sz44 rfl rfl (b32.segs 0 4 rfl)) rfl rfl rfl rfl rfl c48 ?_
            refine ol_gval (v := .pointer (some ⟨G7, 0, none⟩)) (by exact xr_fieldAddr (p := 0) (q := 0) rfl fl47_0 rfl) rfl rfl rfl rfl rfl c48 ?_
            refine ol_gval (v := aggV [Seg.cell (.int .i64 3), Seg.cell (.int .i64 1), Seg.cell (.int .i64 (-5)), Seg.cell (.int .i64 7)]) (by exact xr_loadS (ss := [Seg.cell (.int .i64 3), Seg.cell (.int .i64 1), Seg.cell (.int .i64 (-5)), Seg.cell (.int .i64 7)]) rfl ag44 sz44 rfl rfl (b8.segs 0 4 rfl)) rfl rfl rfl rfl rfl c48 ?_
            refine ol_gval (v := .bool (decide (t23.1.Entry = (⟨(⟨3, 1⟩ : S_api_Handle), (-5), 7⟩ : S_api_Entry)))) (by exact xr_eqA (a := t23.1.Entry) (b := (⟨(⟨3, 1⟩ : S_api_Handle), (-5), 7⟩ : S_api_Entry)) rfl eqa44 rfl Try.eqGuardType43 rfl rfl rfl rfl) rfl rfl rfl rfl rfl c48 ?_
            refine ol_val (v := .bool (decide (t23.1.Entry = (⟨(⟨3, 1⟩ : S_api_Handle), (-5), 7⟩ : S_api_Entry)))) (by exact xr_pickT rfl rfl c48 rfl) rfl rfl rfl ?_
            refine ol_val (v := .bool (decide (t23.1.Entry = (⟨(⟨3, 1⟩ : S_api_Handle), (-5), 7⟩ : S_api_Entry)))) (by exact xr_move rfl rfl) rfl rfl rfl ?_
            rcases is j44 with ⟨c49, j44⟩ | ⟨c49, j44⟩
            · skip
              refine ol_gval (v := .pointer (some ⟨G7, 0, none⟩)) (by exact xr_fieldAddr (p := 0) (q := 0) rfl fl47_0 rfl) rfl rfl rfl rfl rfl c49 ?_
              refine ol_gval (v := aggV [Seg.cell (.int .i64 3), Seg.cell (.int .i64 1), Seg.cell (.int .i64 (-5)), Seg.cell (.int .i64 7)]) (by exact xr_loadS (ss := [Seg.cell (.int .i64 3), Seg.cell (.int .i64 1), Seg.cell (.int .i64 (-5)), Seg.cell (.int .i64 7)]) rfl ag44 sz44 rfl rfl (b8.segs 0 4 rfl)) rfl rfl rfl rfl rfl c49 ?_
              refine ol_gval (v := aggV [Seg.cell (.int .i64 (0 : Int)), Seg.cell (.int .i64 (0 : Int)), Seg.cell (.int .i64 (0 : Int)), Seg.cell (.int .i64 (0 : Int))]) (by exact xr_build (vals := []) rfl trivial (bl44_ _)) rfl rfl rfl rfl rfl c49 ?_
              obtain ⟨t50, k51, j44⟩ := bs j44
              refine ol_gop (by exact opv_call rfl cal40 (ac rfl (ac rfl an)) (node_Compare.ok fu _ (⟨(⟨3, 1⟩ : S_api_Handle), (-5), 7⟩ : S_api_Entry) (⟨(⟨(0 : Int), (0 : Int)⟩ : S_api_Handle), (0 : Int), (0 : Int)⟩ : S_api_Entry) _ k51)) rfl rfl rfl rfl rfl c49 ?_
              rintro _ w53 ⟨rfl, q52⟩
              have fB := fB.gr q52
              refine ol_gval (v := .bool (decide (t50 = (-1)))) (by exact xr_eqI rfl Try.underlying3 rfl rfl rfl) rfl rfl rfl rfl rfl c49 ?_
              refine ol_val (v := .bool (decide (t50 = (-1)))) (by exact xr_pickT rfl rfl c49 rfl) rfl rfl rfl ?_
              refine ol_val (v := .bool (decide (t50 = (-1)))) (by exact xr_assign rfl rfl) rfl rfl rfl ?_
              refine ol_nil ?_
              obtain rfl := Option.some.inj j44
              refine thn_i ?_
              exact ⟨rfl, q52⟩
            · skip
              refine ol_gskip rfl rfl rfl rfl rfl c49 ?_
              refine ol_gskip rfl rfl rfl rfl rfl c49 ?_
              refine ol_gskip rfl rfl rfl rfl rfl c49 ?_
              refine ol_gskip rfl rfl rfl rfl rfl c49 ?_
              refine ol_gskip rfl rfl rfl rfl rfl c49 ?_
              refine ol_val (v := .bool false) (by exact xr_pickF rfl rfl c49 rfl) rfl rfl rfl ?_
              refine ol_val (v := .bool false) (by exact xr_assign rfl rfl) rfl rfl rfl ?_
              refine ol_nil ?_
              obtain rfl := Option.some.inj j44
              refine thn_i ?_
              exact ⟨rfl, Fr.refl _ _⟩
          · skip
            refine ol_gskip rfl rfl rfl rfl rfl c48 ?_
            refine ol_gskip rfl rfl rfl rfl rfl c48 ?_
            refine ol_gskip rfl rfl rfl rfl rfl c48 ?_
            refine ol_gskip rfl rfl rfl rfl rfl c48 ?_
            refine ol_gskip rfl rfl rfl rfl rfl c48 ?_
            refine ol_val (v := .bool false) (by exact xr_pickF rfl rfl c48 rfl) rfl rfl rfl ?_
            refine ol_val (v := .bool false) (by exact xr_move rfl rfl) rfl rfl rfl ?_
            refine ol_gskip rfl rfl rfl rfl rfl rfl ?_
            refine ol_gskip rfl rfl rfl rfl rfl rfl ?_
            refine ol_gskip rfl rfl rfl rfl rfl rfl ?_
            refine ol_gskip rfl rfl rfl rfl rfl rfl ?_
            refine ol_gskip rfl rfl rfl rfl rfl rfl ?_
            refine ol_val (v := .bool false) (by exact xr_pickF rfl rfl rfl rfl) rfl rfl rfl ?_
            refine ol_val (v := .bool false) (by exact xr_assign rfl rfl) rfl rfl rfl ?_
            refine ol_nil ?_
            obtain rfl := Option.some.inj j44
            refine thn_i ?_
            exact ⟨rfl, Fr.refl _ _⟩
        · skip
          refine ol_gskip rfl rfl rfl rfl rfl c47 ?_
          refine ol_gskip rfl rfl rfl rfl rfl c47 ?_
          refine ol_gskip rfl rfl rfl rfl rfl c47 ?_
          refine ol_gskip rfl rfl rfl rfl rfl c47 ?_
          refine ol_val (v := .bool false) (by exact xr_pickF rfl rfl c47 rfl) rfl rfl rfl ?_
          refine ol_val (v := .bool false) (by exact xr_move rfl rfl) rfl rfl rfl ?_
          refine ol_gskip rfl rfl rfl rfl rfl rfl ?_
          refine ol_gskip rfl rfl rfl rfl rfl rfl ?_
          refine ol_gskip rfl rfl rfl rfl rfl rfl ?_
          refine ol_gskip rfl rfl rfl rfl rfl rfl ?_
          refine ol_gskip rfl rfl rfl rfl rfl rfl ?_
          refine ol_val (v := .bool false) (by exact xr_pickF rfl rfl rfl rfl) rfl rfl rfl ?_
          refine ol_val (v := .bool false) (by exact xr_move rfl rfl) rfl rfl rfl ?_
          refine ol_gskip rfl rfl rfl rfl rfl rfl ?_
          refine ol_gskip rfl rfl rfl rfl rfl rfl ?_
          refine ol_gskip rfl rfl rfl rfl rfl rfl ?_
          refine ol_gskip rfl rfl rfl rfl rfl rfl ?_
          refine ol_gskip rfl rfl rfl rfl rfl rfl ?_
          refine ol_val (v := .bool false) (by exact xr_pickF rfl rfl rfl rfl) rfl rfl rfl ?_
          refine ol_val (v := .bool false) (by exact xr_assign rfl rfl) rfl rfl rfl ?_
          refine ol_nil ?_
          obtain rfl := Option.some.inj j44
          refine thn_i ?_
          exact ⟨rfl, Fr.refl _ _⟩
      · skip
        refine ol_gskip rfl rfl rfl rfl rfl c46 ?_
        refine ol_gskip rfl rfl rfl rfl rfl c46 ?_
        refine ol_gskip rfl rfl rfl rfl rfl c46 ?_
        refine ol_val (v := .bool false) (by exact xr_pickF rfl rfl c46 rfl) rfl rfl rfl ?_
        refine ol_val (v := .bool false) (by exact xr_move rfl rfl) rfl rfl rfl ?_
        refine ol_gskip rfl rfl rfl rfl rfl rfl ?_
        refine ol_gskip rfl rfl rfl rfl rfl rfl ?_
        refine ol_gskip rfl rfl rfl rfl rfl rfl ?_
        refine ol_gskip rfl rfl rfl rfl rfl rfl ?_
        refine ol_val (v := .bool false) (by exact xr_pickF rfl rfl rfl rfl) rfl rfl rfl ?_
        refine ol_val (v := .bool false) (by exact xr_move rfl rfl) rfl rfl rfl ?_
        refine ol_gskip rfl rfl rfl rfl rfl rfl ?_
        refine ol_gskip rfl rfl rfl rfl rfl rfl ?_
        refine ol_gskip rfl rfl rfl rfl rfl rfl ?_
        refine ol_gskip rfl rfl rfl rfl rfl rfl ?_
        refine ol_gskip rfl rfl rfl rfl rfl rfl ?_
        refine ol_val (v := .bool false) (by exact xr_pickF rfl rfl rfl rfl) rfl rfl rfl ?_
        refine ol_val (v := .bool false) (by exact xr_move rfl rfl) rfl rfl rfl ?_
        refine ol_gskip rfl rfl rfl rfl rfl rfl ?_
        refine ol_gskip rfl rfl rfl rfl rfl rfl ?_
        refine ol_gskip rfl rfl rfl rfl rfl rfl ?_
        refine ol_gskip rfl rfl rfl rfl rfl rfl ?_
        refine ol_gskip rfl rfl rfl rfl rfl rfl ?_
        refine ol_val (v := .bool false) (by exact xr_pickF rfl rfl rfl rfl) rfl rfl rfl ?_
        refine ol_val (v := .bool false) (by exact xr_assign rfl rfl) rfl rfl rfl ?_
        refine ol_nil ?_
        obtain rfl := Option.some.inj j44
        refine thn_i ?_
        exact ⟨rfl, Fr.refl _ _⟩
    · skip
      refine ol_gskip rfl rfl rfl rfl rfl c45 ?_
      refine ol_val (v := .bool false) (by exact xr_pickF rfl rfl c45 rfl) rfl rfl rfl ?_
      refine ol_val (v := .bool false) (by exact xr_move rfl rfl) rfl rfl rfl ?_
      refine ol_gskip rfl rfl rfl rfl rfl rfl ?_
      refine ol_gskip rfl rfl rfl rfl rfl rfl ?_
      refine ol_gskip rfl rfl rfl rfl rfl rfl ?_
      refine ol_val (v := .bool false) (by exact xr_pickF rfl rfl rfl rfl) rfl rfl rfl ?_
      refine ol_val (v := .bool false) (by exact xr_move rfl rfl) rfl rfl rfl ?_
      refine ol_gskip rfl rfl rfl rfl rfl rfl ?_
      refine ol_gskip rfl rfl rfl rfl rfl rfl ?_
      refine ol_gskip rfl rfl rfl rfl rfl rfl ?_
      refine ol_gskip rfl rfl rfl rfl rfl rfl ?_
      refine ol_val (v := .bool false) (by exact xr_pickF rfl rfl rfl rfl) rfl rfl rfl ?_
      refine ol_val (v := .bool false) (by exact xr_move rfl rfl) rfl rfl rfl ?_
      refine ol_gskip rfl rfl rfl rfl rfl rfl ?_
      refine ol_gskip rfl rfl rfl rfl rfl rfl ?_
      refine ol_gskip rfl rfl rfl rfl rfl rfl ?_
      refine ol_gskip rfl rfl rfl rfl rfl rfl ?_
      refine ol_gskip rfl rfl rfl rfl rfl rfl ?_
      refine ol_val (v := .bool false) (by exact xr_pickF rfl rfl rfl rfl) rfl rfl rfl ?_
      refine ol_val (v := .bool false) (by exact xr_move rfl rfl) rfl rfl rfl ?_
      refine ol_gskip rfl rfl rfl rfl rfl rfl ?_
      refine ol_gskip rfl rfl rfl rfl rfl rfl ?_
      refine ol_gskip rfl rfl rfl rfl rfl rfl ?_
      refine ol_gskip rfl rfl rfl rfl rfl rfl ?_
      refine ol_gskip rfl rfl rfl rfl rfl rfl ?_
      refine ol_val (v := .bool false) (by exact xr_pickF rfl rfl rfl rfl) rfl rfl rfl ?_
      refine ol_val (v := .bool false) (by exact xr_assign rfl rfl) rfl rfl rfl ?_
      refine ol_nil ?_
      obtain rfl := Option.some.inj j44
      refine thn_i ?_
      exact ⟨rfl, Fr.refl _ _⟩
  · skip
    rintro ρ54 w55 ⟨e0, q56⟩
    have fB := fB.gr q56
    refine cw_ret ?_
    repeat (first | with_reducible refine thn_r ?_ | with_reducible refine blk_r ?_)
    obtain rfl := Option.some.inj h
    refine fin_ret1 Try.results35 e0 ?_
    exact ⟨_, rfl, rfl, fB⟩
end Go.Proofs.Ytjhajfkfhdnciaa

/- rickyard/rickyardref07.Fill: its model, and that the Go function computes it: written by gen.py. -/
set_option linter.unusedVariables false
namespace Go.Proofs.Ytjhajfkfhdnciaa
open Go Go.Xw
def rickyardref07_Fill.f (fu : Nat) (a0 : List UInt8) (a1 : Int) : Option (List UInt8) := (if 0 ≤ (mxI (IntKind.i64.wrap (a1 - (List.length a0 : Int))) 0) ∧ Int.toNat (mxI (IntKind.i64.wrap (a1 - (List.length a0 : Int))) 0) ≤ LIM then (if List.length a0 + List.length (List.map toB (List.replicate (Int.toNat (mxI (IntKind.i64.wrap (a1 - (List.length a0 : Int))) 0)) (0 : Int))) ≤ LIM then some ((a0 ++ (List.map toB (List.replicate (Int.toNat (mxI (IntKind.i64.wrap (a1 - (List.length a0 : Int))) 0)) (0 : Int))))) else none) else none)
set_option maxRecDepth 100000 in
set_option maxHeartbeats 400000 in
theorem rickyardref07_Fill.ok (fu : Nat) (w : World) (a0 : List UInt8) (a1 : Int) (r : (List UInt8)) (h : rickyardref07_Fill.f fu a0 a1 = some r) :
    Calls Try.prog 31 (([sv a0, .int .i64 a1] : List Value).toArray) w (fun e w' => ∃ v, e = .returned v ∧ v = sv r ∧ Gr w w') := by
  unfold rickyardref07_Fill.f at h
  have fB : Gr w w := Fr.refl _ _
  refine calls_cw Try.func31 rfl Try.ntmps31 rfl ?_
  refine cw_seq ?_
  refine cw_region ?_
  refine ol_val (v := sv []) (by exact xr_assign rfl rfl) rfl rfl rfl ?_
  refine ol_nil ?_
  refine cw_seq ?_
  refine cw_region ?_
  refine ol_val (v := sv a0) (by exact xr_move rfl rfl) rfl rfl rfl ?_
  refine ol_val (v := .int .i64 a1) (by exact xr_move rfl rfl) rfl rfl rfl ?_
  refine ol_val (v := sv a0) (by exact xr_move rfl rfl) rfl rfl rfl ?_
  refine ol_val (v := .int .i64 (List.length a0 : Int)) (by exact xr_lenStr rfl Try.underlying9 rfl) rfl rfl rfl ?_
  refine ol_val (v := .int .i64 (IntKind.i64.wrap (a1 - (List.length a0 : Int)))) (by exact xr_sub rfl rfl rfl) rfl rfl rfl ?_
  refine ol_val (v := .int .i64 (mxI (IntKind.i64.wrap (a1 - (List.length a0 : Int))) 0)) (by exact xr_max2 rfl rfl rfl) rfl rfl rfl ?_
  obtain ⟨g1, h⟩ := gs h
  refine ol_op (by exact opv_make (K := (kI .u8)) (z := (0 : Int)) rfl Try.underlying22 el5 rfl rfl rfl g1.1 g1.2 rfl fB.size) rfl rfl rfl ?_
  rintro v2 w7 ⟨o4, q3, z5⟩
  have fB := fB.gr q3
  refine ol_val (v := sv (List.map toB (List.replicate (Int.toNat (mxI (IntKind.i64.wrap (a1 - (List.length a0 : Int))) 0)) (0 : Int)))) (by exact xr_toStr rfl Try.underlying22 Try.underlying5 Try.underlying9 rfl o4.rd) rfl rfl rfl ?_
  obtain ⟨g8, h⟩ := gs h
  refine ol_val (v := sv (a0 ++ (List.map toB (List.replicate (Int.toNat (mxI (IntKind.i64.wrap (a1 - (List.length a0 : Int))) 0)) (0 : Int))))) (by exact xr_addStr rfl rfl rfl g8) rfl rfl rfl ?_
  refine ol_val (v := sv (a0 ++ (List.map toB (List.replicate (Int.toNat (mxI (IntKind.i64.wrap (a1 - (List.length a0 : Int))) 0)) (0 : Int))))) (by exact xr_assign rfl rfl) rfl rfl rfl ?_
  refine ol_nil ?_
  refine cw_ret ?_
  repeat (first | with_reducible refine thn_r ?_ | with_reducible refine blk_r ?_)
  obtain rfl := Option.some.inj h
  refine fin_ret1 Try.results31 rfl ?_
  exact ⟨_, rfl, rfl, fB⟩
end Go.Proofs.Ytjhajfkfhdnciaa

/- rickyard/rickyardref01.Octet: its model, and that the Go function computes it: written by gen.py. -/
set_option linter.unusedVariables false
namespace Go.Proofs.Ytjhajfkfhdnciaa
open Go Go.Xw
def rickyardref01_Octet.s0 (fu : Nat) (a1 : Int) : (Int × Int) → Option (Sum Int (Int × Int)) := fun s1 => (if (decide (s1.2 < a1)) = true then some (Sum.inr ((IntKind.u64.wrap (Int.tdiv s1.1 256)), (IntKind.i64.wrap (s1.2 + 1)))) else some (Sum.inl (s1.1)))
def rickyardref01_Octet.f (fu : Nat) (a0 : Int) (a1 : Int) : Option Int := ((loopM (rickyardref01_Octet.s0 fu a1) fu (a0, 0)).bind fun e2 => some ((IntKind.u8.wrap (Int.tmod e2 256))))
set_option maxRecDepth 100000 in
set_option maxHeartbeats 400000 in
theorem rickyardref01_Octet.ok (fu : Nat) (w : World) (a0 : Int) (a1 : Int) (r : Int) (h : rickyardref01_Octet.f fu a0 a1 = some r) :
    Calls Try.prog 132 (([.int .u64 a0, .int .i64 a1] : List Value).toArray) w (fun e w' => ∃ v, e = .returned v ∧ v = .int .u8 r ∧ Gr w w') := by
  unfold rickyardref01_Octet.f at h
  have fB : Gr w w := Fr.refl _ _
  refine calls_cw Try.func132 rfl Try.ntmps132 rfl ?_
  refine cw_seq ?_
  refine cw_region ?_
  refine ol_val (v := .int .u8 0) (by exact xr_assign rfl rfl) rfl rfl rfl ?_
  refine ol_nil ?_
  refine cw_seq ?_
  refine cw_seq ?_
  refine cw_region ?_
  refine ol_val (v := .int .i64 0) (by exact xr_assign rfl rfl) rfl rfl rfl ?_
  refine ol_nil ?_
  obtain ⟨e2, l3, h4⟩ := bs h
  refine cw_mid (fun ρ' w' => ρ' 0 = .int .u64 e2 ∧ Gr w w') ?_ ?_
  · refine cw_block ?_
    refine cw_round (fun (s1 : Int × Int) ρ' w' => ρ' 0 = .int .u64 s1.1 ∧ ρ' 1 = .int .i64 a1 ∧ ρ' 5 = .int .i64 s1.2 ∧ Gr w w') l3 ?_ ?_
    · skip
      exact ⟨rfl, rfl, rfl, fB⟩
    · rintro s1 x7 ρ5 w6 ⟨e0, e1, e5, fB⟩ h
      unfold rickyardref01_Octet.s0 at h
      refine cw_seq ?_
      refine cw_seq ?_
      refine cw_region ?_
      refine ol_val (v := .int .i64 s1.2) (by exact xr_move rfl e5) rfl rfl rfl ?_
      refine ol_val (v := .int .i64 a1) (by exact xr_move rfl e1) rfl rfl rfl ?_
      refine ol_val (v := .bool (decide (s1.2 < a1))) (by exact xr_lss rfl rfl rfl) rfl rfl rfl ?_
      refine ol_nil ?_
      rcases is h with ⟨c8, h⟩ | ⟨c8, h⟩
      · refine cw_condT rfl c8 ?_
        refine cw_skip ?_
        refine cw_seq ?_
        refine cw_block ?_
        refine cw_region ?_
        refine ol_val (v := .int .u64 s1.1) (by exact xr_move rfl e0) rfl rfl rfl ?_
        refine ol_val (v := .int .u64 (IntKind.u64.wrap (Int.tdiv s1.1 256))) (by exact xr_quo rfl rfl rfl (by decide)) rfl rfl rfl ?_
        refine ol_val (v := .int .u64 (IntKind.u64.wrap (Int.tdiv s1.1 256))) (by exact xr_assign rfl rfl) rfl rfl rfl ?_
        refine ol_nil ?_
        refine blk_i ?_
        refine cw_region ?_
        refine ol_val (v := .int .i64 s1.2) (by exact xr_move rfl e5) rfl rfl rfl ?_
        refine ol_val (v := .int .i64 (IntKind.i64.wrap (s1.2 + 1))) (by exact xr_add rfl rfl rfl) rfl rfl rfl ?_
        refine ol_val (v := .int .i64 (IntKind.i64.wrap (s1.2 + 1))) (by exact xr_assign rfl rfl) rfl rfl rfl ?_
        refine ol_nil ?_
        obtain rfl := Option.some.inj h
        refine lp_in ?_
        exact ⟨rfl, e1, rfl, fB⟩
      · refine cw_condF rfl c8 ?_
        refine cw_exit ?_
        repeat (first | with_reducible refine thn_e ?_ | with_reducible refine blk_e rfl ?_)
        obtain rfl := Option.some.inj h
        refine lp_exit ?_
        rintro rfl
        refine thn_x ?_
        exact ⟨e0, fB⟩
  · rintro ρ9 w10 ⟨e0, fB⟩
    have h := h4
    refine cw_seq ?_
    refine cw_region ?_
    refine ol_val (v := .int .u64 e2) (by exact xr_move rfl e0) rfl rfl rfl ?_
    refine ol_val (v := .int .u64 (Int.tmod e2 256)) (by exact xr_rem rfl rfl rfl (by decide)) rfl rfl rfl ?_
    refine ol_val (v := .int .u8 (IntKind.u8.wrap (Int.tmod e2 256))) (by exact xr_conv rfl Try.underlying129 Try.underlying5 rfl) rfl rfl rfl ?_
    refine ol_val (v := .int .u8 (IntKind.u8.wrap (Int.tmod e2 256))) (by exact xr_assign rfl rfl) rfl rfl rfl ?_
    refine ol_nil ?_
    refine cw_ret ?_
    repeat (first | with_reducible refine thn_r ?_ | with_reducible refine blk_r ?_)
    obtain rfl := Option.some.inj h
    refine fin_ret1 Try.results132 rfl ?_
    exact ⟨_, rfl, rfl, fB⟩
end Go.Proofs.Ytjhajfkfhdnciaa

/- rickyard/rickyardref01.Lay: its model, and that the Go function computes it: written by gen.py. -/
set_option linter.unusedVariables false
namespace Go.Proofs.Ytjhajfkfhdnciaa
open Go Go.Xw
def rickyardref01_Lay.s0 (fu : Nat) (a0 : Int) (a1 : Int) : ((List UInt8) × Int) → Option (Sum (List UInt8) ((List UInt8) × Int)) := fun s1 => (if (decide (s1.2 < a1)) = true then ((rickyardref01_Octet.f fu a0 s1.2 : Option Int).bind fun t9 => (if List.length s1.1 + List.length (List.map toB [t9]) ≤ LIM then some (Sum.inr ((s1.1 ++ (List.map toB [t9])), (IntKind.i64.wrap (s1.2 + 1)))) else none)) else some (Sum.inl (s1.1)))
def rickyardref01_Lay.f (fu : Nat) (a0 : Int) (a1 : Int) : Option (List UInt8) := ((loopM (rickyardref01_Lay.s0 fu a0 a1) fu ([], 0)).bind fun e2 => some (e2))
set_option maxRecDepth 100000 in
set_option maxHeartbeats 400000 in
theorem rickyardref01_Lay.ok (fu : Nat) (w : World) (a0 : Int) (a1 : Int) (r : (List UInt8)) (h : rickyardref01_Lay.f fu a0 a1 = some r) :
    Calls Try.prog 99 (([.int .u64 a0, .int .i64 a1] : List Value).toArray) w (fun e w' => ∃ v, e = .returned v ∧ v = sv r ∧ Gr w w') := by
  unfold rickyardref01_Lay.f at h
  have fB : Gr w w := Fr.refl _ _
  refine calls_cw Try.func99 rfl Try.ntmps99 rfl ?_
  refine cw_seq ?_
  refine cw_region ?_
  refine ol_val (v := sv []) (by exact xr_assign rfl rfl) rfl rfl rfl ?_
  refine ol_nil ?_
  refine cw_seq ?_
  refine cw_region ?_
  refine ol_val (v := sv []) (by exact xr_assign rfl rfl) rfl rfl rfl ?_
  refine ol_nil ?_
  refine cw_seq ?_
  refine cw_seq ?_
  refine cw_region ?_
  refine ol_val (v := .int .i64 0) (by exact xr_assign rfl rfl) rfl rfl rfl ?_
  refine ol_nil ?_
  obtain ⟨e2, l3, h4⟩ := bs h
  refine cw_mid (fun ρ' w' => ρ' 5 = sv e2 ∧ Gr w w') ?_ ?_
  · refine cw_block ?_
    refine cw_round (fun (s1 : (List UInt8) × Int) ρ' w' => ρ' 0 = .int .u64 a0 ∧ ρ' 1 = .int .i64 a1 ∧ ρ' 5 = sv s1.1 ∧ ρ' 6 = .int .i64 s1.2 ∧ Gr w w') l3 ?_ ?_
    · skip
      exact ⟨rfl, rfl, rfl, rfl, fB⟩
    · rintro s1 x7 ρ5 w6 ⟨e0, e1, e5, e6, fB⟩ h
      unfold rickyardref01_Lay.s0 at h
      refine cw_seq ?_
      refine cw_seq ?_
      refine cw_region ?_
      refine ol_val (v := .int .i64 s1.2) (by exact xr_move rfl e6) rfl rfl rfl ?_
      refine ol_val (v := .int .i64 a1) (by exact xr_move rfl e1) rfl rfl rfl ?_
      refine ol_val (v := .bool (decide (s1.2 < a1))) (by exact xr_lss rfl rfl rfl) rfl rfl rfl ?_
      refine ol_nil ?_
      rcases is h with ⟨c8, h⟩ | ⟨c8, h⟩
      · refine cw_condT rfl c8 ?_
        refine cw_skip ?_
        refine cw_seq ?_
        refine cw_block ?_
        refine cw_region ?_
        refine ol_val (v := sv s1.1) (by exact xr_move rfl e5) rfl rfl rfl ?_
        refine ol_val (v := .int .u64 a0) (by exact xr_move rfl e0) rfl rfl rfl ?_
        refine ol_val (v := .int .i64 s1.2) (by exact xr_move rfl e6) rfl rfl rfl ?_
        obtain ⟨t9, k10, h⟩ := bs h
        refine ol_op (by exact opv_call rfl cal132 (ac rfl (ac rfl an)) (rickyardref01_Octet.ok fu _ a0 s1.2 _ k10)) rfl rfl rfl ?_
        rintro _ w12 ⟨rfl, q11⟩
        have fB := fB.gr q11
        refine ol_op (by exact opv_buildSlice (K := (kI .u8)) (xs := [t9]) (vals := [.int .u8 t9]) rfl Try.underlying22 el5 rfl rfl ⟨rfl, rfl, trivial⟩ rfl rfl rfl fB.size) rfl rfl rfl ?_
        rintro v13 w18 ⟨o15, q14, z16⟩
        have fB := fB.gr q14
        refine ol_val (v := sv (List.map toB [t9])) (by exact xr_toStr rfl Try.underlying22 Try.underlying5 Try.underlying9 rfl o15.rd) rfl rfl rfl ?_
        obtain ⟨g19, h⟩ := gs h
        refine ol_val (v := sv (s1.1 ++ (List.map toB [t9]))) (by exact xr_addStr rfl rfl rfl g19) rfl rfl rfl ?_
        refine ol_val (v := sv (s1.1 ++ (List.map toB [t9]))) (by exact xr_assign rfl rfl) rfl rfl rfl ?_
        refine ol_nil ?_
        refine blk_i ?_
        refine cw_region ?_
        refine ol_val (v := .int .i64 s1.2) (by exact xr_move rfl e6) rfl rfl rfl ?_
        refine ol_val (v := .int .i64 (IntKind.i64.wrap (s1.2 + 1))) (by exact xr_add rfl rfl rfl) rfl rfl rfl ?_
        refine ol_val (v := .int .i64 (IntKind.i64.wrap (s1.2 + 1))) (by exact xr_assign rfl rfl) rfl rfl rfl ?_
        refine ol_nil ?_
        obtain rfl := Option.some.inj h
        refine lp_in ?_
        exact ⟨e0, e1, rfl, rfl, fB⟩
      · refine cw_condF rfl c8 ?_
        refine cw_exit ?_
        repeat (first | with_reducible refine thn_e ?_ | with_reducible refine blk_e rfl ?_)
        obtain rfl := Option.some.inj h
        refine lp_exit ?_
        rintro rfl
        refine thn_x ?_
        exact ⟨e5, fB⟩
  · rintro ρ20 w21 ⟨e5, fB⟩
    have h := h4
    refine cw_seq ?_
    refine cw_region ?_
    refine ol_val (v := sv e2) (by exact xr_move rfl e5) rfl rfl rfl ?_
    refine ol_val (v := sv e2) (by exact xr_assign rfl rfl) rfl rfl rfl ?_
    refine ol_nil ?_
    refine cw_ret ?_
    repeat (first | with_reducible refine thn_r ?_ | with_reducible refine blk_r ?_)
    obtain rfl := Option.some.inj h
    refine fin_ret1 Try.results99 rfl ?_
    exact ⟨_, rfl, rfl, fB⟩
end Go.Proofs.Ytjhajfkfhdnciaa

/- rickyard/rickyardref02.Step: its model, and that the Go function computes it: written by gen.py. -/
set_option linter.unusedVariables false
namespace Go.Proofs.Ytjhajfkfhdnciaa
open Go Go.Xw
def rickyardref02_Step.f (fu : Nat) (a0 : Int) : Option Int := (if (decide ((Int.tmod a0 2) = 1)) = true then some ((bXor .u32 (IntKind.u32.wrap (Int.tdiv a0 2)) 2197175160)) else some ((IntKind.u32.wrap (Int.tdiv a0 2))))
set_option maxRecDepth 100000 in
set_option maxHeartbeats 400000 in
theorem rickyardref02_Step.ok (fu : Nat) (w : World) (a0 : Int) (r : Int) (h : rickyardref02_Step.f fu a0 = some r) :
    Calls Try.prog 146 (([.int .u32 a0] : List Value).toArray) w (fun e w' => ∃ v, e = .returned v ∧ v = .int .u32 r ∧ Gr w w') := by
  unfold rickyardref02_Step.f at h
  have fB : Gr w w := Fr.refl _ _
  refine calls_cw Try.func146 rfl Try.ntmps146 rfl ?_
  refine cw_seq ?_
  refine cw_region ?_
  refine ol_val (v := .int .u32 0) (by exact xr_assign rfl rfl) rfl rfl rfl ?_
  refine ol_nil ?_
  refine cw_seq ?_
  refine cw_seq ?_
  refine cw_region ?_
  refine ol_val (v := .int .u32 a0) (by exact xr_move rfl rfl) rfl rfl rfl ?_
  refine ol_val (v := .int .u32 (Int.tmod a0 2)) (by exact xr_rem rfl rfl rfl (by decide)) rfl rfl rfl ?_
  refine ol_val (v := .bool (decide ((Int.tmod a0 2) = 1))) (by exact xr_eqI rfl Try.underlying36 rfl rfl rfl) rfl rfl rfl ?_
  refine ol_nil ?_
  rcases is h with ⟨c1, h⟩ | ⟨c1, h⟩
  · refine cw_condT rfl c1 ?_
    refine cw_seq ?_
    refine cw_region ?_
    refine ol_val (v := .int .u32 a0) (by exact xr_move rfl rfl) rfl rfl rfl ?_
    refine ol_val (v := .int .u32 (IntKind.u32.wrap (Int.tdiv a0 2))) (by exact xr_quo rfl rfl rfl (by decide)) rfl rfl rfl ?_
    refine ol_val (v := .int .u32 (bXor .u32 (IntKind.u32.wrap (Int.tdiv a0 2)) 2197175160)) (by exact xr_xor rfl rfl rfl) rfl rfl rfl ?_
    refine ol_val (v := .int .u32 (bXor .u32 (IntKind.u32.wrap (Int.tdiv a0 2)) 2197175160)) (by exact xr_assign rfl rfl) rfl rfl rfl ?_
    refine ol_nil ?_
    refine cw_ret ?_
    repeat (first | with_reducible refine thn_r ?_ | with_reducible refine blk_r ?_)
    obtain rfl := Option.some.inj h
    refine fin_ret1 Try.results146 rfl ?_
    exact ⟨_, rfl, rfl, fB⟩
  · refine cw_condF rfl c1 ?_
    refine cw_skip ?_
    refine cw_seq ?_
    refine cw_region ?_
    refine ol_val (v := .int .u32 a0) (by exact xr_move rfl rfl) rfl rfl rfl ?_
    refine ol_val (v := .int .u32 (IntKind.u32.wrap (Int.tdiv a0 2))) (by exact xr_quo rfl rfl rfl (by decide)) rfl rfl rfl ?_
    refine ol_val (v := .int .u32 (IntKind.u32.wrap (Int.tdiv a0 2))) (by exact xr_assign rfl rfl) rfl rfl rfl ?_
    refine ol_nil ?_
    refine cw_ret ?_
    repeat (first | with_reducible refine thn_r ?_ | with_reducible refine blk_r ?_)
    obtain rfl := Option.some.inj h
    refine fin_ret1 Try.results146 rfl ?_
    exact ⟨_, rfl, rfl, fB⟩
end Go.Proofs.Ytjhajfkfhdnciaa

/- rickyard/rickyardref02.Steps: its model, and that the Go function computes it: written by gen.py. -/
set_option linter.unusedVariables false
namespace Go.Proofs.Ytjhajfkfhdnciaa
open Go Go.Xw
def rickyardref02_Steps.s0 (fu : Nat) (a1 : Int) : (Int × Int) → Option (Sum Int (Int × Int)) := fun s1 => (if (decide (s1.2 < a1)) = true then ((rickyardref02_Step.f fu s1.1 : Option Int).bind fun t9 => some (Sum.inr (t9, (IntKind.i64.wrap (s1.2 + 1))))) else some (Sum.inl (s1.1)))
def rickyardref02_Steps.f (fu : Nat) (a0 : Int) (a1 : Int) : Option Int := ((loopM (rickyardref02_Steps.s0 fu a1) fu (a0, 0)).bind fun e2 => some (e2))
set_option maxRecDepth 100000 in
set_option maxHeartbeats 400000 in
theorem rickyardref02_Steps.ok (fu : Nat) (w : World) (a0 : Int) (a1 : Int) (r : Int) (h : rickyardref02_Steps.f fu a0 a1 = some r) :
    Calls Try.prog 133 (([.int .u32 a0, .int .i64 a1] : List Value).toArray) w (fun e w' => ∃ v, e = .returned v ∧ v = .int .u32 r ∧ Gr w w') := by
  unfold rickyardref02_Steps.f at h
  have fB : Gr w w := Fr.refl _ _
  refine calls_cw Try.func133 rfl Try.ntmps133 rfl ?_
  refine cw_seq ?_
  refine cw_region ?_
  refine ol_val (v := .int .u32 0) (by exact xr_assign rfl rfl) rfl rfl rfl ?_
  refine ol_nil ?_
  refine cw_seq ?_
  refine cw_seq ?_
  refine cw_region ?_
  refine ol_val (v := .int .i64 0) (by exact xr_assign rfl rfl) rfl rfl rfl ?_
  refine ol_nil ?_
  obtain ⟨e2, l3, h4⟩ := bs h
  refine cw_mid (fun ρ' w' => ρ' 0 = .int .u32 e2 ∧ Gr w w') ?_ ?_
  · refine cw_block ?_
    refine cw_round (fun (s1 : Int × Int) ρ' w' => ρ' 0 = .int .u32 s1.1 ∧ ρ' 1 = .int .i64 a1 ∧ ρ' 5 = .int .i64 s1.2 ∧ Gr w w') l3 ?_ ?_
    · skip
      exact ⟨rfl, rfl, rfl, fB⟩
    · rintro s1 x7 ρ5 w6 ⟨e0, e1, e5, fB⟩ h
      unfold rickyardref02_Steps.s0 at h
      refine cw_seq ?_
      refine cw_seq ?_
      refine cw_region ?_
      refine ol_val (v := .int .i64 s1.2) (by exact xr_move rfl e5) rfl rfl rfl ?_
      refine ol_val (v := .int .i64 a1) (by exact xr_move rfl e1) rfl rfl rfl ?_
      refine ol_val (v := .bool (decide (s1.2 < a1))) (by exact xr_lss rfl rfl rfl) rfl rfl rfl ?_
      refine ol_nil ?_
      rcases is h with ⟨c8, h⟩ | ⟨c8, h⟩
      · refine cw_condT rfl c8 ?_
        refine cw_skip ?_
        refine cw_seq ?_
        refine cw_block ?_
        refine cw_region ?_
        refine ol_val (v := .int .u32 s1.1) (by exact xr_move rfl e0) rfl rfl rfl ?_
        obtain ⟨t9, k10, h⟩ := bs h
        refine ol_op (by exact opv_call rfl cal146 (ac rfl an) (rickyardref02_Step.ok fu _ s1.1 _ k10)) rfl rfl rfl ?_
        rintro _ w12 ⟨rfl, q11⟩
        have fB := fB.gr q11
        refine ol_val (v := .int .u32 t9) (by exact xr_assign rfl rfl) rfl rfl rfl ?_
        refine ol_nil ?_
        refine blk_i ?_
        refine cw_region ?_
        refine ol_val (v := .int .i64 s1.2) (by exact xr_move rfl e5) rfl rfl rfl ?_
        refine ol_val (v := .int .i64 (IntKind.i64.wrap (s1.2 + 1))) (by exact xr_add rfl rfl rfl) rfl rfl rfl ?_
        refine ol_val (v := .int .i64 (IntKind.i64.wrap (s1.2 + 1))) (by exact xr_assign rfl rfl) rfl rfl rfl ?_
        refine ol_nil ?_
        obtain rfl := Option.some.inj h
        refine lp_in ?_
        exact ⟨rfl, e1, rfl, fB⟩
      · refine cw_condF rfl c8 ?_
        refine cw_exit ?_
        repeat (first | with_reducible refine thn_e ?_ | with_reducible refine blk_e rfl ?_)
        obtain rfl := Option.some.inj h
        refine lp_exit ?_
        rintro rfl
        refine thn_x ?_
        exact ⟨e0, fB⟩
  · rintro ρ13 w14 ⟨e0, fB⟩
    have h := h4
    refine cw_seq ?_
    refine cw_region ?_
    refine ol_val (v := .int .u32 e2) (by exact xr_move rfl e0) rfl rfl rfl ?_
    refine ol_val (v := .int .u32 e2) (by exact xr_assign rfl rfl) rfl rfl rfl ?_
    refine ol_nil ?_
    refine cw_ret ?_
    repeat (first | with_reducible refine thn_r ?_ | with_reducible refine blk_r ?_)
    obtain rfl := Option.some.inj h
    refine fin_ret1 Try.results133 rfl ?_
    exact ⟨_, rfl, rfl, fB⟩
end Go.Proofs.Ytjhajfkfhdnciaa

/- rickyard/rickyardref02.Sum: its model, and that the Go function computes it: written by gen.py. -/
set_option linter.unusedVariables false
namespace Go.Proofs.Ytjhajfkfhdnciaa
open Go Go.Xw
def rickyardref02_Sum.s0 (fu : Nat) (a0 : List Int) : (Int × Int) → Option (Sum Int (Int × Int)) := fun s1 => (if (decide (s1.2 < (List.length a0 : Int))) = true then (if 0 ≤ s1.2 ∧ s1.2 < (List.length a0 : Int) then ((rickyardref02_Steps.f fu (bXor .u32 s1.1 (IntKind.u32.wrap (ix a0 s1.2))) 8 : Option Int).bind fun t10 => some (Sum.inr (t10, (IntKind.i64.wrap (s1.2 + 1))))) else none) else some (Sum.inl (s1.1)))
def rickyardref02_Sum.f (fu : Nat) (a0 : List Int) : Option Int := ((loopM (rickyardref02_Sum.s0 fu a0) fu (4294967295, 0)).bind fun e2 => some ((IntKind.u32.wrap (4294967295 - e2))))
set_option maxRecDepth 100000 in
set_option maxHeartbeats 400000 in
theorem rickyardref02_Sum.ok (fu : Nat) (w : World) (a0 : List Int) (V0_0 : Value) (R0_0 : Rd (kI .u8) w V0_0 a0) (r : Int) (h : rickyardref02_Sum.f fu a0 = some r) :
    Calls Try.prog 100 (([V0_0] : List Value).toArray) w (fun e w' => ∃ v, e = .returned v ∧ v = .int .u32 r ∧ Gr w w') := by
  unfold rickyardref02_Sum.f at h
  have fB : Gr w w := Fr.refl _ _
  refine calls_cw Try.func100 rfl Try.ntmps100 rfl ?_
  refine cw_seq ?_
  refine cw_region ?_
  refine ol_val (v := .int .u32 0) (by exact xr_assign rfl rfl) rfl rfl rfl ?_
  refine ol_nil ?_
  refine cw_seq ?_
  refine cw_region ?_
  refine ol_val (v := .int .u32 4294967295) (by exact xr_assign rfl rfl) rfl rfl rfl ?_
  refine ol_nil ?_
  refine cw_seq ?_
  refine cw_seq ?_
  refine cw_region ?_
  refine ol_val (v := .int .i64 0) (by exact xr_assign rfl rfl) rfl rfl rfl ?_
  refine ol_nil ?_
  obtain ⟨e2, l3, h4⟩ := bs h
  refine cw_mid (fun ρ' w' => ρ' 3 = .int .u32 e2 ∧ Gr w w') ?_ ?_
  · refine cw_block ?_
    refine cw_round (fun (s1 : Int × Int) ρ' w' => ρ' 0 = V0_0 ∧ ρ' 3 = .int .u32 s1.1 ∧ ρ' 4 = .int .i64 s1.2 ∧ Gr w w') l3 ?_ ?_
    · skip
      exact ⟨rfl, rfl, rfl, fB⟩
    · rintro s1 x7 ρ5 w6 ⟨e0, e3, e4, fB⟩ h
      unfold rickyardref02_Sum.s0 at h
      refine cw_seq ?_
      refine cw_seq ?_
      refine cw_region ?_
      refine ol_val (v := .int .i64 s1.2) (by exact xr_move rfl e4) rfl rfl rfl ?_
      refine ol_val (v := V0_0) (by exact xr_move rfl e0) rfl rfl rfl ?_
      refine ol_val (v := .int .i64 (List.length a0 : Int)) (by exact xr_lenR rfl Try.underlying22 rfl (R0_0.gr fB)) rfl rfl rfl ?_
      refine ol_val (v := .bool (decide (s1.2 < (List.length a0 : Int)))) (by exact xr_lss rfl rfl rfl) rfl rfl rfl ?_
      refine ol_nil ?_
      rcases is h with ⟨c8, h⟩ | ⟨c8, h⟩
      · refine cw_condT rfl c8 ?_
        refine cw_skip ?_
        refine cw_seq ?_
        refine cw_block ?_
        refine cw_region ?_
        refine ol_val (v := .int .u32 s1.1) (by exact xr_move rfl e3) rfl rfl rfl ?_
        refine ol_val (v := V0_0) (by exact xr_move rfl e0) rfl rfl rfl ?_
        refine ol_val (v := .int .i64 s1.2) (by exact xr_move rfl e4) rfl rfl rfl ?_
        obtain ⟨g9, h⟩ := gs h
        refine ol_val (v := .pointer (some ⟨(sb V0_0), so V0_0 + Int.toNat s1.2 * 1, none⟩)) (by exact xr_indexR (K := (kI .u8)) (v := V0_0) rfl Try.underlying22 sz5 rfl (R0_0.gr fB) rfl g9.1 g9.2) rfl rfl rfl ?_
        refine ol_val (v := .int .u8 (ix a0 s1.2)) (by exact xr_load1 (v := .int .u8 (ix a0 s1.2)) rfl ag5 rfl ((R0_0.gr fB).elem g9.1 g9.2)) rfl rfl rfl ?_
        refine ol_val (v := .int .u32 (IntKind.u32.wrap (ix a0 s1.2))) (by exact xr_conv rfl Try.underlying5 Try.underlying36 rfl) rfl rfl rfl ?_
        refine ol_val (v := .int .u32 (bXor .u32 s1.1 (IntKind.u32.wrap (ix a0 s1.2)))) (by exact xr_xor rfl rfl rfl) rfl rfl rfl ?_
        obtain ⟨t10, k11, h⟩ := bs h
        refine ol_op (by exact opv_call rfl cal133 (ac rfl (ac rfl an)) (rickyardref02_Steps.ok fu _ (bXor .u32 s1.1 (IntKind.u32.wrap (ix a0 s1.2))) 8 _ k11)) rfl rfl rfl ?_
        rintro _ w13 ⟨rfl, q12⟩
        have fB := fB.gr q12
        refine ol_val (v := .int .u32 t10) (by exact xr_assign rfl rfl) rfl rfl rfl ?_
        refine ol_nil ?_
        refine blk_i ?_
        refine cw_region ?_
        refine ol_val (v := .int .i64 s1.2) (by exact xr_move rfl e4) rfl rfl rfl ?_
        refine ol_val (v := .int .i64 (IntKind.i64.wrap (s1.2 + 1))) (by exact xr_add rfl rfl rfl) rfl rfl rfl ?_
        refine ol_val (v := .int .i64 (IntKind.i64.wrap (s1.2 + 1))) (by exact xr_assign rfl rfl) rfl rfl rfl ?_
        refine ol_nil ?_
        obtain rfl := Option.some.inj h
        refine lp_in ?_
        exact ⟨e0, rfl, rfl, fB⟩
      · refine cw_condF rfl c8 ?_
        refine cw_exit ?_
        repeat (first | with_reducible refine thn_e ?_ | with_reducible refine blk_e rfl ?_)
        obtain rfl := Option.some.inj h
        refine lp_exit ?_
        rintro rfl
        refine thn_x ?_
        exact ⟨e3, fB⟩
  · rintro ρ14 w15 ⟨e3, fB⟩
    have h := h4
    refine cw_seq ?_
    refine cw_region ?_
    refine ol_val (v := .int .u32 e2) (by exact xr_move rfl e3) rfl rfl rfl ?_
    refine ol_val (v := .int .u32 (IntKind.u32.wrap (4294967295 - e2))) (by exact xr_sub rfl rfl rfl) rfl rfl rfl ?_
    refine ol_val (v := .int .u32 (IntKind.u32.wrap (4294967295 - e2))) (by exact xr_assign rfl rfl) rfl rfl rfl ?_
    refine ol_nil ?_
    refine cw_ret ?_
    repeat (first | with_reducible refine thn_r ?_ | with_reducible refine blk_r ?_)
    obtain rfl := Option.some.inj h
    refine fin_ret1 Try.results100 rfl ?_
    exact ⟨_, rfl, rfl, fB⟩
end Go.Proofs.Ytjhajfkfhdnciaa

/- rickyard/rickyardref07.Seal: its model, and that the Go function computes it: written by gen.py. -/
set_option linter.unusedVariables false
namespace Go.Proofs.Ytjhajfkfhdnciaa
open Go Go.Xw
def rickyardref07_Seal.f (fu : Nat) (a0 : Int) (a1 : Int) (a2 : List UInt8) : Option (List UInt8) := ((rickyardref07_Fill.f fu a2 56 : Option (List UInt8)).bind fun t6 => (if List.length (List.map toB [(IntKind.u8.wrap a0), (IntKind.u8.wrap a1), 0, 0]) + List.length t6 ≤ LIM then ((rickyardref02_Sum.f fu (List.map ofB ((List.map toB [(IntKind.u8.wrap a0), (IntKind.u8.wrap a1), 0, 0]) ++ t6)) : Option Int).bind fun t17 => ((rickyardref01_Lay.f fu (IntKind.u64.wrap t17) 4 : Option (List UInt8)).bind fun t21 => (if List.length t21 + List.length ((List.map toB [(IntKind.u8.wrap a0), (IntKind.u8.wrap a1), 0, 0]) ++ t6) ≤ LIM then some ((t21 ++ ((List.map toB [(IntKind.u8.wrap a0), (IntKind.u8.wrap a1), 0, 0]) ++ t6))) else none))) else none))
set_option maxRecDepth 100000 in
set_option maxHeartbeats 400000 in
theorem rickyardref07_Seal.ok (fu : Nat) (w : World) (a0 : Int) (a1 : Int) (a2 : List UInt8) (r : (List UInt8)) (h : rickyardref07_Seal.f fu a0 a1 a2 = some r) :
    Calls Try.prog 30 (([.int .i64 a0, .int .i64 a1, sv a2] : List Value).toArray) w (fun e w' => ∃ v, e = .returned v ∧ v = sv r ∧ Gr w w') := by
  unfold rickyardref07_Seal.f at h
  have fB : Gr w w := Fr.refl _ _
  refine calls_cw Try.func30 rfl Try.ntmps30 rfl ?_
  refine cw_seq ?_
  refine cw_region ?_
  refine ol_val (v := sv []) (by exact xr_assign rfl rfl) rfl rfl rfl ?_
  refine ol_nil ?_
  refine cw_seq ?_
  obtain ⟨t6, k7, h⟩ := bs h
  refine cw_drawL 8 [fun vz wz => vz = (.int .i64 a0 : Value), fun vz wz => vz = (.int .u8 (IntKind.u8.wrap a0) : Value), fun vz wz => vz = (.int .i64 a1 : Value), fun vz wz => vz = (.int .u8 (IntKind.u8.wrap a1) : Value), fun vz wz => ∃ v1 : Value, ∃ o3 : Own (kI .u8) 5 wz w.heap.size v1 [(IntKind.u8.wrap a0), (IntKind.u8.wrap a1), 0, 0], vz = (v1 : Value), fun vz wz => vz = (sv (List.map toB [(IntKind.u8.wrap a0), (IntKind.u8.wrap a1), 0, 0]) : Value), fun vz wz => vz = (sv a2 : Value), fun vz wz => vz = (sv t6 : Value)] mo rfl ⟨fun _ _ _ h _ => h, fun _ _ _ h _ => h, fun _ _ _ h _ => h, fun _ _ _ h _ => h, fun _ _ _ ⟨v1, o3, h⟩ q => ⟨v1, o3.gr q, h⟩, fun _ _ _ h _ => h, fun _ _ _ h _ => h, fun _ _ _ h _ => h, trivial⟩ ?_ ?_
  · refine ⟨?_, ?_, ?_, ?_, ?_, ?_, ?_, ?_, trivial⟩
    · intro ρz wz hz hk hd
      exact sk_val (v := .int .i64 a0) (by exact xr_move rfl ((hk 0 rfl).trans rfl)) rfl rfl
    · intro ρz wz hz hk hd
      have d8 := hd 0 rfl 8 rfl
      exact sk_val (v := .int .u8 (IntKind.u8.wrap a0)) (by exact xr_conv rfl Try.underlying3 Try.underlying5 d8) rfl rfl
    · intro ρz wz hz hk hd
      exact sk_val (v := .int .i64 a1) (by exact xr_move rfl ((hk 1 rfl).trans rfl)) rfl rfl
    · intro ρz wz hz hk hd
      have d10 := hd 2 rfl 10 rfl
      exact sk_val (v := .int .u8 (IntKind.u8.wrap a1)) (by exact xr_conv rfl Try.underlying3 Try.underlying5 d10) rfl rfl
    · intro ρz wz hz hk hd
      have d9 := hd 1 rfl 9 rfl
      have d11 := hd 3 rfl 11 rfl
      refine sk_op (by exact opv_buildSlice (K := (kI .u8)) (xs := [(IntKind.u8.wrap a0), (IntKind.u8.wrap a1), 0, 0]) (vals := [.int .u8 (IntKind.u8.wrap a0), .int .u8 (IntKind.u8.wrap a1), .int .u8 0, .int .u8 0]) rfl Try.underlying22 el5 rfl rfl ⟨rfl, d9, ⟨rfl, d11, ⟨rfl, rfl, ⟨rfl, rfl, trivial⟩⟩⟩⟩ rfl rfl rfl (Nat.le_trans fB.size hz.size)) rfl ?_
      rintro v1 wy ⟨o3, q2, z4⟩
      exact ⟨⟨v1, o3, rfl⟩, q2⟩
    · intro ρz wz hz hk hd
      obtain ⟨v1, o3, d12⟩ := hd 4 rfl 12 rfl
      exact sk_val (by exact xr_toStr rfl Try.underlying22 Try.underlying5 Try.underlying9 d12 o3.rd) rfl rfl
    · intro ρz wz hz hk hd
      exact sk_val (v := sv a2) (by exact xr_move rfl ((hk 2 rfl).trans rfl)) rfl rfl
    · intro ρz wz hz hk hd
      have d14 := hd 6 rfl 14 rfl
      refine sk_op (by exact opv_call rfl cal31 (ac d14 (ac rfl an)) (rickyardref07_Fill.ok fu _ a2 56 _ k7)) rfl ?_
      rintro _ wy ⟨rfl, q8⟩
      exact ⟨rfl, q8⟩
  · intro ρ9 w10 q11 hk hd
    have e13 := hd 5 rfl 13 rfl
    have e15 := hd 7 rfl 15 rfl
    have fB := fB.gr q11
    obtain ⟨g12, h⟩ := gs h
    refine ol_val (v := sv ((List.map toB [(IntKind.u8.wrap a0), (IntKind.u8.wrap a1), 0, 0]) ++ t6)) (by exact xr_addStr rfl e13 e15 g12) rfl rfl rfl ?_
    refine ol_val (v := sv ((List.map toB [(IntKind.u8.wrap a0), (IntKind.u8.wrap a1), 0, 0]) ++ t6)) (by exact xr_assign rfl rfl) rfl rfl rfl ?_
    refine ol_nil ?_
    refine cw_seq ?_
    refine cw_region ?_
    refine ol_val (v := sv ((List.map toB [(IntKind.u8.wrap a0), (IntKind.u8.wrap a1), 0, 0]) ++ t6)) (by exact xr_move rfl rfl) rfl rfl rfl ?_
    refine ol_op (by exact opv_toBytes rfl Try.underlying9 Try.underlying22 Try.underlying5 rfl) rfl rfl rfl ?_
    rintro v13 w16 ⟨r15, q14⟩
    have fB := fB.gr q14
    obtain ⟨t17, k18, h⟩ := bs h
    refine ol_op (by exact opv_call rfl cal100 (ac rfl an) (rickyardref02_Sum.ok fu _ (List.map ofB ((List.map toB [(IntKind.u8.wrap a0), (IntKind.u8.wrap a1), 0, 0]) ++ t6)) v13 (r15) _ k18)) rfl rfl rfl ?_
    rintro _ w20 ⟨rfl, q19⟩
    have fB := fB.gr q19
    refine ol_val (v := .int .u64 (IntKind.u64.wrap t17)) (by exact xr_conv rfl Try.underlying36 Try.underlying129 rfl) rfl rfl rfl ?_
    obtain ⟨t21, k22, h⟩ := bs h
    refine ol_op (by exact opv_call rfl cal99 (ac rfl (ac rfl an)) (rickyardref01_Lay.ok fu _ (IntKind.u64.wrap t17) 4 _ k22)) rfl rfl rfl ?_
    rintro _ w24 ⟨rfl, q23⟩
    have fB := fB.gr q23
    refine ol_val (v := sv ((List.map toB [(IntKind.u8.wrap a0), (IntKind.u8.wrap a1), 0, 0]) ++ t6)) (by exact xr_move rfl rfl) rfl rfl rfl ?_
    obtain ⟨g25, h⟩ := gs h
    refine ol_val (v := sv (t21 ++ ((List.map toB [(IntKind.u8.wrap a0), (IntKind.u8.wrap a1), 0, 0]) ++ t6))) (by exact xr_addStr rfl rfl rfl g25) rfl rfl rfl ?_
    refine ol_val (v := sv (t21 ++ ((List.map toB [(IntKind.u8.wrap a0), (IntKind.u8.wrap a1), 0, 0]) ++ t6))) (by exact xr_assign rfl rfl) rfl rfl rfl ?_
    refine ol_nil ?_
    refine cw_ret ?_
    repeat (first | with_reducible refine thn_r ?_ | with_reducible refine blk_r ?_)
    obtain rfl := Option.some.inj h
    refine fin_ret1 Try.results30 rfl ?_
    exact ⟨_, rfl, rfl, fB⟩
end Go.Proofs.Ytjhajfkfhdnciaa

/- rickyard/rickyardref07.Open: its model, and that the Go function computes it: written by gen.py. -/
set_option linter.unusedVariables false
namespace Go.Proofs.Ytjhajfkfhdnciaa
open Go Go.Xw
def rickyardref07_Open.f (fu : Nat) (a0 : List Int) : Option (Int × Int × (List UInt8) × Bool) := (((if (!decide ((List.length a0 : Int) = 64)) = true then some (true) else (if (4 : Int) < (List.length a0 : Int) then (if (decide ((ix a0 4) = 0)) = true then some (true) else (if (4 : Int) < (List.length a0 : Int) then (if (5 : Int) < (List.length a0 : Int) then (if (8 : Int) ≤ (List.length a0 : Int) then ((rickyardref07_Seal.f fu (IntKind.i64.wrap (ix a0 4)) (IntKind.i64.wrap (ix a0 5)) (List.map toB (cut a0 8 (List.length a0 : Int))) : Option (List UInt8)).bind fun t17 => some ((!decide (t17 = (List.map toB a0))))) else none) else none) else none)) else none)) : Option Bool).bind fun x1 => (if x1 = true then some (0, 0, [], false) else (if (4 : Int) < (List.length a0 : Int) then (if (5 : Int) < (List.length a0 : Int) then (if (8 : Int) ≤ (List.length a0 : Int) then some ((IntKind.i64.wrap (ix a0 4)), (IntKind.i64.wrap (ix a0 5)), (List.map toB (cut a0 8 (List.length a0 : Int))), true) else none) else none) else none)))
set_option maxRecDepth 100000 in
set_option maxHeartbeats 400000 in
theorem rickyardref07_Open.ok (fu : Nat) (w : World) (a0 : List Int) (V0_0 : Value) (R0_0 : Rd (kI .u8) w V0_0 a0) (r : Int × Int × (List UInt8) × Bool) (h : rickyardref07_Open.f fu a0 = some r) :
    Calls Try.prog 32 (([V0_0] : List Value).toArray) w (fun e w' => ∃ v, e = .returned v ∧ v = .tuple #[.int .i64 r.1, .int .i64 r.2.1, sv r.2.2.1, .bool r.2.2.2] ∧ Gr w w') := by
  unfold rickyardref07_Open.f at h
  have fB : Gr w w := Fr.refl _ _
  refine calls_cw Try.func32 rfl Try.ntmps32 rfl ?_
  refine cw_seq ?_
  refine cw_region ?_
  refine ol_val (v := .int .i64 0) (by exact xr_assign rfl rfl) rfl rfl rfl ?_
  refine ol_val (v := .int .i64 0) (by exact xr_assign rfl rfl) rfl rfl rfl ?_
  refine ol_val (v := sv []) (by exact xr_assign rfl rfl) rfl rfl rfl ?_
  refine ol_val (v := .bool false) (by exact xr_assign rfl rfl) rfl rfl rfl ?_
  refine ol_nil ?_
  refine cw_seq ?_
  refine cw_seq ?_
  obtain ⟨x1, j2, h⟩ := bs h
  refine cw_mid (fun ρ' w' => ρ' 0 = V0_0 ∧ ρ' 31 = .bool x1 ∧ Gr w w') ?_ ?_
  · skip
    rcases is j2 with ⟨c3, j2⟩ | ⟨c3, j2⟩
    · skip
      refine cw_drawL 25 [fun vz wz => vz = (V0_0 : Value), fun vz wz => vz = (.int .i64 (List.length a0 : Int) : Value), fun vz wz => vz = (.bool (!decide ((List.length a0 : Int) = 64)) : Value), fun vz wz => vz = (.bool (!decide ((List.length a0 : Int) = 64)) : Value), fun vz _ => vz = undef, fun vz _ => vz = undef, fun vz _ => vz = undef, fun vz _ => vz = undef, fun vz wz => vz = (.bool true : Value), fun vz wz => vz = (.bool true : Value), fun vz _ => vz = undef, fun vz _ => vz = undef, fun vz _ => vz = undef, fun vz _ => vz = undef, fun vz _ => vz = undef, fun vz _ => vz = undef, fun vz _ => vz = undef, fun vz _ => vz = undef, fun vz _ => vz = undef, fun vz _ => vz = undef, fun vz _ => vz = undef, fun vz _ => vz = undef, fun vz _ => vz = undef, fun vz _ => vz = undef, fun vz _ => vz = undef] mo rfl ⟨fun _ _ _ h _ => h, fun _ _ _ h _ => h, fun _ _ _ h _ => h, fun _ _ _ h _ => h, fun _ _ _ h _ => h, fun _ _ _ h _ => h, fun _ _ _ h _ => h, fun _ _ _ h _ => h, fun _ _ _ h _ => h, fun _ _ _ h _ => h, fun _ _ _ h _ => h, fun _ _ _ h _ => h, fun _ _ _ h _ => h, fun _ _ _ h _ => h, fun _ _ _ h _ => h, fun _ _ _ h _ => h, fun _ _ _ h _ => h, fun _ _ _ h _ => h, fun _ _ _ h _ => h, fun _ _ _ h _ => h, fun _ _ _ h _ => h, fun _ _ _ h _ => h, fun _ _ _ h _ => h, fun _ _ _ h _ => h, fun _ _ _ h _ => h, trivial⟩ ?_ ?_
      · refine ⟨?_, ?_, ?_, ?_, ?_, ?_, ?_, ?_, ?_, ?_, ?_, ?_, ?_, ?_, ?_, ?_, ?_, ?_, ?_, ?_, ?_, ?_, ?_, ?_, ?_, trivial⟩
        · intro ρz wz hz hk hd
          exact sk_val (v := V0_0) (by exact xr_move rfl ((hk 0 rfl).trans rfl)) rfl rfl
        · intro ρz wz hz hk hd
          have d6 := hd 0 rfl 6 rfl
          exact sk_val (v := .int .i64 (List.length a0 : Int)) (by exact xr_lenR rfl Try.underlying22 d6 (R0_0.gr (fB.gr hz))) rfl rfl
        · intro ρz wz hz hk hd
          have d7 := hd 1 rfl 7 rfl
          exact sk_val (v := .bool (!decide ((List.length a0 : Int) = 64))) (by exact xr_neI rfl Try.underlying3 rfl d7 rfl) rfl rfl
        · intro ρz wz hz hk hd
          have d8 := hd 2 rfl 8 rfl
          exact sk_val (v := .bool (!decide ((List.length a0 : Int) = 64))) (by exact xr_move rfl d8) rfl rfl
        · intro ρz wz hz hk hd
          have d9 := hd 3 rfl 9 rfl
          exact sk_skip rfl rfl d9 c3 rfl
        · intro ρz wz hz hk hd
          have d9 := hd 3 rfl 9 rfl
          exact sk_skip rfl rfl d9 c3 rfl
        · intro ρz wz hz hk hd
          have d9 := hd 3 rfl 9 rfl
          exact sk_skip rfl rfl d9 c3 rfl
        · intro ρz wz hz hk hd
          have d9 := hd 3 rfl 9 rfl
          exact sk_skip rfl rfl d9 c3 rfl
        · intro ρz wz hz hk hd
          have d9 := hd 3 rfl 9 rfl
          exact sk_val (v := .bool true) (by exact xr_pickT rfl d9 c3 rfl) rfl rfl
        · intro ρz wz hz hk hd
          have d14 := hd 8 rfl 14 rfl
          exact sk_val (v := .bool true) (by exact xr_move rfl d14) rfl rfl
        · intro ρz wz hz hk hd
          have d15 := hd 9 rfl 15 rfl
          exact sk_skip rfl rfl d15 rfl rfl
        · intro ρz wz hz hk hd
          have d15 := hd 9 rfl 15 rfl
          exact sk_skip rfl rfl d15 rfl rfl
        · intro ρz wz hz hk hd
          have d15 := hd 9 rfl 15 rfl
          exact sk_skip rfl rfl d15 rfl rfl
        · intro ρz wz hz hk hd
          have d15 := hd 9 rfl 15 rfl
          exact sk_skip rfl rfl d15 rfl rfl
        · intro ρz wz hz hk hd
          have d15 := hd 9 rfl 15 rfl
          exact sk_skip rfl rfl d15 rfl rfl
        · intro ρz wz hz hk hd
          have d15 := hd 9 rfl 15 rfl
          exact sk_skip rfl rfl d15 rfl rfl
        · intro ρz wz hz hk hd
          have d15 := hd 9 rfl 15 rfl
          exact sk_skip rfl rfl d15 rfl rfl
        · intro ρz wz hz hk hd
          have d15 := hd 9 rfl 15 rfl
          exact sk_skip rfl rfl d15 rfl rfl
        · intro ρz wz hz hk hd
          have d15 := hd 9 rfl 15 rfl
          exact sk_skip rfl rfl d15 rfl rfl
        · intro ρz wz hz hk hd
          have d15 := hd 9 rfl 15 rfl
          exact sk_skip rfl rfl d15 rfl rfl
        · intro ρz wz hz hk hd
          have d15 := hd 9 rfl 15 rfl
          exact sk_skip rfl rfl d15 rfl rfl
        · intro ρz wz hz hk hd
          have d15 := hd 9 rfl 15 rfl
          exact sk_skip rfl rfl d15 rfl rfl
        · intro ρz wz hz hk hd
          have d15 := hd 9 rfl 15 rfl
          exact sk_skip rfl rfl d15 rfl rfl
        · intro ρz wz hz hk hd
          have d15 := hd 9 rfl 15 rfl
          exact sk_skip rfl rfl d15 rfl rfl
        · intro ρz wz hz hk hd
          have d15 := hd 9 rfl 15 rfl
          exact sk_skip rfl rfl d15 rfl rfl
      · intro ρ4 w5 q6 hk hd
        have e0 := (hk 0 rfl).trans rfl
        have e15 := hd 9 rfl 15 rfl
        have fB := fB.gr q6
        refine ol_val (v := .bool true) (by exact xr_pickT rfl e15 rfl rfl) rfl rfl rfl ?_
        refine ol_nil ?_
        obtain rfl := Option.some.inj j2
        refine thn_i ?_
        exact ⟨e0, rfl, q6⟩
    · skip
      obtain ⟨g7, j2⟩ := gs j2
      rcases is j2 with ⟨c8, j2⟩ | ⟨c8, j2⟩
      · skip
        refine cw_drawL 25 [fun vz wz => vz = (V0_0 : Value), fun vz wz => vz = (.int .i64 (List.length a0 : Int) : Value), fun vz wz => vz = (.bool (!decide ((List.length a0 : Int) = 64)) : Value), fun vz wz => vz = (.bool (!decide ((List.length a0 : Int) = 64)) : Value), fun vz wz => vz = (V0_0 : Value), fun vz wz => vz = (.pointer (some ⟨(sb V0_0), so V0_0 + Int.toNat 4 * 1, none⟩) : Value), fun vz wz => vz = (.int .u8 (ix a0 4) : Value), fun vz wz => vz = (.bool (decide ((ix a0 4) = 0)) : Value), fun vz wz => vz = (.bool (decide ((ix a0 4) = 0)) : Value), fun vz wz => vz = (.bool (decide ((ix a0 4) = 0)) : Value), fun vz _ => vz = undef, fun vz _ => vz = undef, fun vz _ => vz = undef, fun vz _ => vz = undef, fun vz _ => vz = undef, fun vz _ => vz = undef, fun vz _ => vz = undef, fun vz _ => vz = undef, fun vz _ => vz = undef, fun vz _ => vz = undef, fun vz _ => vz = undef, fun vz _ => vz = undef, fun vz _ => vz = undef, fun vz _ => vz = undef, fun vz _ => vz = undef] mo rfl ⟨fun _ _ _ h _ => h, fun _ _ _ h _ => h, fun _ _ _ h _ => h, fun _ _ _ h _ => h, fun _ _ _ h _ => h, fun _ _ _ h _ => h, fun _ _ _ h _ => h, fun _ _ _ h _ => h, fun _ _ _ h _ => h, fun _ _ _ h _ => h, fun _ _ _ h _ => h, fun _ _ _ h _ => h, fun _ _ _ h _ => h, fun _ _ _ h _ => h, fun _ _ _ h _ => h, fun _ _ _ h _ => h, fun _ _ _ h _ => h, fun _ _ _ h _ => h, fun _ _ _ h _ => h, fun _ _ _ h _ => h, fun _ _ _ h _ => h, fun _ _ _ h _ => h, fun _ _ _ h _ => h, fun _ _ _ h _ => h, fun _ _ _ h _ => h, trivial⟩ ?_ ?_
        · refine ⟨?_, ?_, ?_, ?_, ?_, ?_, ?_, ?_, ?_, ?_, ?_, ?_, ?_, ?_, ?_, ?_, ?_, ?_, ?_, ?_, ?_, ?_, ?_, ?_, ?_, trivial⟩
          · intro ρz wz hz hk hd
            exact sk_val (v := V0_0) (by exact xr_move rfl ((hk 0 rfl).trans rfl)) rfl rfl
          · intro ρz wz hz hk hd
            have d6 := hd 0 rfl 6 rfl
            exact sk_val (v := .int .i64 (List.length a0 : Int)) (by exact xr_lenR rfl Try.underlying22 d6 (R0_0.gr (fB.gr hz))) rfl rfl
          · intro ρz wz hz hk hd
            have d7 := hd 1 rfl 7 rfl
            exact sk_val (v := .bool (!decide ((List.length a0 : Int) = 64))) (by exact xr_neI rfl Try.underlying3 rfl d7 rfl) rfl rfl
          · intro ρz wz hz hk hd
            have d8 := hd 2 rfl 8 rfl
            exact sk_val (v := .bool (!decide ((List.length a0 : Int) = 64))) (by exact xr_move rfl d8) rfl rfl
          · intro ρz wz hz hk hd
            have d9 := hd 3 rfl 9 rfl
            exact sk_gval (v := V0_0) (by exact xr_move rfl ((hk 0 rfl).trans rfl)) rfl rfl d9 c3 rfl
          · intro ρz wz hz hk hd
            have d10 := hd 4 rfl 10 rfl
            have d9 := hd 3 rfl 9 rfl
            exact sk_gval (by exact xr_indexR (K := (kI .u8)) (v := V0_0) rfl Try.underlying22 sz5 d10 (R0_0.gr (fB.gr hz)) rfl (by decide) g7) rfl rfl d9 c3 rfl
          · intro ρz wz hz hk hd
            have d11 := hd 5 rfl 11 rfl
            have d9 := hd 3 rfl 9 rfl
            exact sk_gval (v := .int .u8 (ix a0 4)) (by exact xr_load1 (v := .int .u8 (ix a0 4)) rfl ag5 d11 ((R0_0.gr (fB.gr hz)).elem (by decide) g7)) rfl rfl d9 c3 rfl
          · intro ρz wz hz hk hd
            have d12 := hd 6 rfl 12 rfl
            have d9 := hd 3 rfl 9 rfl
            exact sk_gval (v := .bool (decide ((ix a0 4) = 0))) (by exact xr_eqI rfl Try.underlying5 rfl d12 rfl) rfl rfl d9 c3 rfl
          · intro ρz wz hz hk hd
            have d9 := hd 3 rfl 9 rfl
            have d13 := hd 7 rfl 13 rfl
            exact sk_val (v := .bool (decide ((ix a0 4) = 0))) (by exact xr_pickF rfl d9 c3 d13) rfl rfl
          · intro ρz wz hz hk hd
            have d14 := hd 8 rfl 14 rfl
            exact sk_val (v := .bool (decide ((ix a0 4) = 0))) (by exact xr_move rfl d14) rfl rfl
          · intro ρz wz hz hk hd
            have d15 := hd 9 rfl 15 rfl
            exact sk_skip rfl rfl d15 c8 rfl
          · intro ρz wz hz hk hd
            have d15 := hd 9 rfl 15 rfl
            exact sk_skip rfl rfl d15 c8 rfl
          · intro ρz wz hz hk hd
            have d15 := hd 9 rfl 15 rfl
            exact sk_skip rfl rfl d15 c8 rfl
          · intro ρz wz hz hk hd
            have d15 := hd 9 rfl 15 rfl
            exact sk_skip rfl rfl d15 c8 rfl
          · intro ρz wz hz hk hd
            have d15 := hd 9 rfl 15 rfl
            exact sk_skip rfl rfl d15 c8 rfl
          · intro ρz wz hz hk hd
            have d15 := hd 9 rfl 15 rfl
            exact sk_skip rfl rfl d15 c8 rfl
          · intro ρz wz hz hk hd
            have d15 := hd 9 rfl 15 rfl
            exact sk_skip rfl rfl d15 c8 rfl
          · intro ρz wz hz hk hd
            have d15 := hd 9 rfl 15 rfl
            exact sk_skip rfl rfl d15 c8 rfl
          · intro ρz wz hz hk hd
            have d15 := hd 9 rfl 15 rfl
            exact sk_skip rfl rfl d15 c8 rfl
          · intro ρz wz hz hk hd
            have d15 := hd 9 rfl 15 rfl
            exact sk_skip rfl rfl d15 c8 rfl
          · intro ρz wz hz hk hd
            have d15 := hd 9 rfl 15 rfl
            exact sk_skip rfl rfl d15 c8 rfl
          · intro ρz wz hz hk hd
            have d15 := hd 9 rfl 15 rfl
            exact sk_skip rfl rfl d15 c8 rfl
          · intro ρz wz hz hk hd
            have d15 := hd 9 rfl 15 rfl
            exact sk_skip rfl rfl d15 c8 rfl
          · intro ρz wz hz hk hd
            have d15 := hd 9 rfl 15 rfl
            exact sk_skip rfl rfl d15 c8 rfl
          · intro ρz wz hz hk hd
            have d15 := hd 9 rfl 15 rfl
            exact sk_skip rfl rfl d15 c8 rfl
        · intro ρ9 w10 q11 hk hd
          have e0 := (hk 0 rfl).trans rfl
          have e15 := hd 9 rfl 15 rfl
          have fB := fB.gr q11
          refine ol_val (v := .bool true) (by exact xr_pickT rfl e15 c8 rfl) rfl rfl rfl ?_
          refine ol_nil ?_
          obtain rfl := Option.some.inj j2
          refine thn_i ?_
          exact ⟨e0, rfl, q11⟩
      · skip
        obtain ⟨g12, j2⟩ := gs j2
        obtain ⟨g13, j2⟩ := gs j2
        obtain ⟨g15, j2⟩ := gs j2
        obtain ⟨t17, k18, j2⟩ := bs j2
        refine cw_drawL 25 [fun vz wz => vz = (V0_0 : Value), fun vz wz => vz = (.int .i64 (List.length a0 : Int) : Value), fun vz wz => vz = (.bool (!decide ((List.length a0 : Int) = 64)) : Value), fun vz wz => vz = (.bool (!decide ((List.length a0 : Int) = 64)) : Value), fun vz wz => vz = (V0_0 : Value), fun vz wz => vz = (.pointer (some ⟨(sb V0_0), so V0_0 + Int.toNat 4 * 1, none⟩) : Value), fun vz wz => vz = (.int .u8 (ix a0 4) : Value), fun vz wz => vz = (.bool (decide ((ix a0 4) = 0)) : Value), fun vz wz => vz = (.bool (decide ((ix a0 4) = 0)) : Value), fun vz wz => vz = (.bool (decide ((ix a0 4) = 0)) : Value), fun vz wz => vz = (V0_0 : Value), fun vz wz => vz = (.pointer (some ⟨(sb V0_0), so V0_0 + Int.toNat 4 * 1, none⟩) : Value), fun vz wz => vz = (.int .u8 (ix a0 4) : Value), fun vz wz => vz = (.int .i64 (IntKind.i64.wrap (ix a0 4)) : Value), fun vz wz => vz = (V0_0 : Value), fun vz wz => vz = (.pointer (some ⟨(sb V0_0), so V0_0 + Int.toNat 5 * 1, none⟩) : Value), fun vz wz => vz = (.int .u8 (ix a0 5) : Value), fun vz wz => vz = (.int .i64 (IntKind.i64.wrap (ix a0 5)) : Value), fun vz wz => vz = (V0_0 : Value), fun vz wz => ∃ u16 : Value, ∃ r14 : Rd (kI .u8) wz u16 (cut a0 8 (List.length a0 : Int)), vz = (u16 : Value), fun vz wz => vz = (sv (List.map toB (cut a0 8 (List.length a0 : Int))) : Value), fun vz wz => vz = (sv t17 : Value), fun vz wz => vz = (V0_0 : Value), fun vz wz => vz = (sv (List.map toB a0) : Value), fun vz wz => vz = (.bool (!decide (t17 = (List.map toB a0))) : Value)] mo rfl ⟨fun _ _ _ h _ => h, fun _ _ _ h _ => h, fun _ _ _ h _ => h, fun _ _ _ h _ => h, fun _ _ _ h _ => h, fun _ _ _ h _ => h, fun _ _ _ h _ => h, fun _ _ _ h _ => h, fun _ _ _ h _ => h, fun _ _ _ h _ => h, fun _ _ _ h _ => h, fun _ _ _ h _ => h, fun _ _ _ h _ => h, fun _ _ _ h _ => h, fun _ _ _ h _ => h, fun _ _ _ h _ => h, fun _ _ _ h _ => h, fun _ _ _ h _ => h, fun _ _ _ h _ => h, fun _ _ _ ⟨u16, r14, h⟩ q => ⟨u16, r14.gr q, h⟩, fun _ _ _ h _ => h, fun _ _ _ h _ => h, fun _ _ _ h _ => h, fun _ _ _ h _ => h, fun _ _ _ h _ => h, trivial⟩ ?_ ?_
        · refine ⟨?_, ?_, ?_, ?_, ?_, ?_, ?_, ?_, ?_, ?_, ?_, ?_, ?_, ?_, ?_, ?_, ?_, ?_, ?_, ?_, ?_, ?_, ?_, ?_, ?_, trivial⟩
          · intro ρz wz hz hk hd
            exact sk_val (v := V0_0) (by exact xr_move rfl ((hk 0 rfl).trans rfl)) rfl rfl
          · intro ρz wz hz hk hd
            have d6 := hd 0 rfl 6 rfl
            exact sk_val (v := .int .i64 (List.length a0 : Int)) (by exact xr_lenR rfl Try.underlying22 d6 (R0_0.gr (fB.gr hz))) rfl rfl
          · intro ρz wz hz hk hd
            have d7 := hd 1 rfl 7 rfl
            exact sk_val (v := .bool (!decide ((List.length a0 : Int) = 64))) (by exact xr_neI rfl Try.underlying3 rfl d7 rfl) rfl rfl
          · intro ρz wz hz hk hd
            have d8 := hd 2 rfl 8 rfl
            exact sk_val (v := .bool (!decide ((List.length a0 : Int) = 64))) (by exact xr_move rfl d8) rfl rfl
          · intro ρz wz hz hk hd
            have d9 := hd 3 rfl 9 rfl
            exact sk_gval (v := V0_0) (by exact xr_move rfl ((hk 0 rfl).trans rfl)) rfl rfl d9 c3 rfl
          · intro ρz wz hz hk hd
            have d10 := hd 4 rfl 10 rfl
            have d9 := hd 3 rfl 9 rfl
            exact sk_gval (by exact xr_indexR (K := (kI .u8)) (v := V0_0) rfl Try.underlying22 sz5 d10 (R0_0.gr (fB.gr hz)) rfl (by decide) g7) rfl rfl d9 c3 rfl
          · intro ρz wz hz hk hd
            have d11 := hd 5 rfl 11 rfl
            have d9 := hd 3 rfl 9 rfl
            exact sk_gval (v := .int .u8 (ix a0 4)) (by exact xr_load1 (v := .int .u8 (ix a0 4)) rfl ag5 d11 ((R0_0.gr (fB.gr hz)).elem (by decide) g7)) rfl rfl d9 c3 rfl
          · intro ρz wz hz hk hd
            have d12 := hd 6 rfl 12 rfl
            have d9 := hd 3 rfl 9 rfl
            exact sk_gval (v := .bool (decide ((ix a0 4) = 0))) (by exact xr_eqI rfl Try.underlying5 rfl d12 rfl) rfl rfl d9 c3 rfl
          · intro ρz wz hz hk hd
            have d9 := hd 3 rfl 9 rfl
            have d13 := hd 7 rfl 13 rfl
            exact sk_val (v := .bool (decide ((ix a0 4) = 0))) (by exact xr_pickF rfl d9 c3 d13) rfl rfl
          · intro ρz wz hz hk hd
            have d14 := hd 8 rfl 14 rfl
            exact sk_val (v := .bool (decide ((ix a0 4) = 0))) (by exact xr_move rfl d14) rfl rfl
          · intro ρz wz hz hk hd
            have d15 := hd 9 rfl 15 rfl
            exact sk_gval (v := V0_0) (by exact xr_move rfl ((hk 0 rfl).trans rfl)) rfl rfl d15 c8 rfl
          · intro ρz wz hz hk hd
            have d16 := hd 10 rfl 16 rfl
            have d15 := hd 9 rfl 15 rfl
            exact sk_gval (by exact xr_indexR (K := (kI .u8)) (v := V0_0) rfl Try.underlying22 sz5 d16 (R0_0.gr (fB.gr hz)) rfl (by decide) g12) rfl rfl d15 c8 rfl
          · intro ρz wz hz hk hd
            have d17 := hd 11 rfl 17 rfl
            have d15 := hd 9 rfl 15 rfl
            exact sk_gval (v := .int .u8 (ix a0 4)) (by exact xr_load1 (v := .int .u8 (ix a0 4)) rfl ag5 d17 ((R0_0.gr (fB.gr hz)).elem (by decide) g12)) rfl rfl d15 c8 rfl
          · intro ρz wz hz hk hd
            have d18 := hd 12 rfl 18 rfl
            have d15 := hd 9 rfl 15 rfl
            exact sk_gval (v := .int .i64 (IntKind.i64.wrap (ix a0 4))) (by exact xr_conv rfl Try.underlying5 Try.underlying3 d18) rfl rfl d15 c8 rfl
          · intro ρz wz hz hk hd
            have d15 := hd 9 rfl 15 rfl
            exact sk_gval (v := V0_0) (by exact xr_move rfl ((hk 0 rfl).trans rfl)) rfl rfl d15 c8 rfl
          · intro ρz wz hz hk hd
            have d20 := hd 14 rfl 20 rfl
            have d15 := hd 9 rfl 15 rfl
            exact sk_gval (by exact xr_indexR (K := (kI .u8)) (v := V0_0) rfl Try.underlying22 sz5 d20 (R0_0.gr (fB.gr hz)) rfl (by decide) g13) rfl rfl d15 c8 rfl
          · intro ρz wz hz hk hd
            have d21 := hd 15 rfl 21 rfl
            have d15 := hd 9 rfl 15 rfl
            exact sk_gval (v := .int .u8 (ix a0 5)) (by exact xr_load1 (v := .int .u8 (ix a0 5)) rfl ag5 d21 ((R0_0.gr (fB.gr hz)).elem (by decide) g13)) rfl rfl d15 c8 rfl
          · intro ρz wz hz hk hd
            have d22 := hd 16 rfl 22 rfl
            have d15 := hd 9 rfl 15 rfl
            exact sk_gval (v := .int .i64 (IntKind.i64.wrap (ix a0 5))) (by exact xr_conv rfl Try.underlying5 Try.underlying3 d22) rfl rfl d15 c8 rfl
          · intro ρz wz hz hk hd
            have d15 := hd 9 rfl 15 rfl
            exact sk_gval (v := V0_0) (by exact xr_move rfl ((hk 0 rfl).trans rfl)) rfl rfl d15 c8 rfl
          · intro ρz wz hz hk hd
            have d24 := hd 18 rfl 24 rfl
            have d15 := hd 9 rfl 15 rfl
            exact sk_gval (by exact xr_slice_l (K := (kI .u8)) (v := V0_0) rfl Try.underlying22 sz5 d24 (R0_0.gr (fB.gr hz)) rfl (by decide) g15) rfl rfl d15 c8 ⟨_, (R0_0.gr (fB.gr hz)).cut (lo := 8) (hi := (List.length a0 : Int)) (by decide) g15 (Int.le_refl _), rfl⟩
          · intro ρz wz hz hk hd
            obtain ⟨u16, r14, d25⟩ := hd 19 rfl 25 rfl
            have d15 := hd 9 rfl 15 rfl
            exact sk_gval (v := sv (List.map toB (cut a0 8 (List.length a0 : Int)))) (by exact xr_toStr rfl Try.underlying22 Try.underlying5 Try.underlying9 d25 r14) rfl rfl d15 c8 rfl
          · intro ρz wz hz hk hd
            have d19 := hd 13 rfl 19 rfl
            have d23 := hd 17 rfl 23 rfl
            have d26 := hd 20 rfl 26 rfl
            have d15 := hd 9 rfl 15 rfl
            refine sk_gop (by exact opv_call rfl cal30 (ac d19 (ac d23 (ac d26 an))) (rickyardref07_Seal.ok fu _ (IntKind.i64.wrap (ix a0 4)) (IntKind.i64.wrap (ix a0 5)) (List.map toB (cut a0 8 (List.length a0 : Int))) _ k18)) rfl rfl d15 c8 ?_
            rintro _ wy ⟨rfl, q19⟩
            exact ⟨rfl, q19⟩
          · intro ρz wz hz hk hd
            have d15 := hd 9 rfl 15 rfl
            exact sk_gval (v := V0_0) (by exact xr_move rfl ((hk 0 rfl).trans rfl)) rfl rfl d15 c8 rfl
          · intro ρz wz hz hk hd
            have d28 := hd 22 rfl 28 rfl
            have d15 := hd 9 rfl 15 rfl
            exact sk_gval (v := sv (List.map toB a0)) (by exact xr_toStr rfl Try.underlying22 Try.underlying5 Try.underlying9 d28 (R0_0.gr (fB.gr hz))) rfl rfl d15 c8 rfl
          · intro ρz wz hz hk hd
            have d27 := hd 21 rfl 27 rfl
            have d29 := hd 23 rfl 29 rfl
            have d15 := hd 9 rfl 15 rfl
            exact sk_gval (v := .bool (!decide (t17 = (List.map toB a0)))) (by exact xr_neStr rfl Try.underlying9 d27 d29) rfl rfl d15 c8 rfl
        · intro ρ20 w21 q22 hk hd
          have e0 := (hk 0 rfl).trans rfl
          have e15 := hd 9 rfl 15 rfl
          have e30 := hd 24 rfl 30 rfl
          have fB := fB.gr q22
          refine ol_val (v := .bool (!decide (t17 = (List.map toB a0)))) (by exact xr_pickF rfl e15 c8 e30) rfl rfl rfl ?_
          refine ol_nil ?_
          obtain rfl := Option.some.inj j2
          refine thn_i ?_
          exact ⟨e0, rfl, q22⟩
  · skip
    rintro ρ23 w24 ⟨e0, e31, q25⟩
    have fB := fB.gr q25
    rcases is h with ⟨c26, h⟩ | ⟨c26, h⟩
    · refine cw_condT e31 c26 ?_
      refine cw_seq ?_
      refine cw_region ?_
      refine ol_val (v := .int .i64 0) (by exact xr_assign rfl rfl) rfl rfl rfl ?_
      refine ol_val (v := .int .i64 0) (by exact xr_assign rfl rfl) rfl rfl rfl ?_
      refine ol_val (v := sv []) (by exact xr_assign rfl rfl) rfl rfl rfl ?_
      refine ol_val (v := .bool false) (by exact xr_assign rfl rfl) rfl rfl rfl ?_
      refine ol_nil ?_
      refine cw_ret ?_
      repeat (first | with_reducible refine thn_r ?_ | with_reducible refine blk_r ?_)
      obtain rfl := Option.some.inj h
      refine fin_ret4 Try.results32 rfl rfl rfl rfl ?_
      exact ⟨_, rfl, rfl, fB⟩
    · refine cw_condF e31 c26 ?_
      refine cw_skip ?_
      refine cw_seq ?_
      obtain ⟨g27, h⟩ := gs h
      obtain ⟨g28, h⟩ := gs h
      obtain ⟨g30, h⟩ := gs h
      refine cw_drawL 13 [fun vz wz => vz = (V0_0 : Value), fun vz wz => vz = (.pointer (some ⟨(sb V0_0), so V0_0 + Int.toNat 4 * 1, none⟩) : Value), fun vz wz => vz = (.int .u8 (ix a0 4) : Value), fun vz wz => vz = (.int .i64 (IntKind.i64.wrap (ix a0 4)) : Value), fun vz wz => vz = (V0_0 : Value), fun vz wz => vz = (.pointer (some ⟨(sb V0_0), so V0_0 + Int.toNat 5 * 1, none⟩) : Value), fun vz wz => vz = (.int .u8 (ix a0 5) : Value), fun vz wz => vz = (.int .i64 (IntKind.i64.wrap (ix a0 5)) : Value), fun vz wz => vz = (V0_0 : Value), fun vz wz => ∃ u31 : Value, ∃ r29 : Rd (kI .u8) wz u31 (cut a0 8 (List.length a0 : Int)), vz = (u31 : Value), fun vz wz => vz = (sv (List.map toB (cut a0 8 (List.length a0 : Int))) : Value), fun vz wz => vz = (.int .i64 (IntKind.i64.wrap (ix a0 4)) : Value), fun vz wz => vz = (.int .i64 (IntKind.i64.wrap (ix a0 5)) : Value)] mo rfl ⟨fun _ _ _ h _ => h, fun _ _ _ h _ => h, fun _ _ _ h _ => h, fun _ _ _ h _ => h, fun _ _ _ h _ => h, fun _ _ _ h _ => h, fun _ _ _ h _ => h, fun _ _ _ h _ => h, fun _ _ _ h _ => h, fun _ _ _ ⟨u31, r29, h⟩ q => ⟨u31, r29.gr q, h⟩, fun _ _ _ h _ => h, fun _ _ _ h _ => h, fun _ _ _ h _ => h, trivial⟩ ?_ ?_
      · refine ⟨?_, ?_, ?_, ?_, ?_, ?_, ?_, ?_, ?_, ?_, ?_, ?_, ?_, trivial⟩
        · intro ρz wz hz hk hd
          exact sk_val (v := V0_0) (by exact xr_move rfl ((hk 0 rfl).trans e0)) rfl rfl
        · intro ρz wz hz hk hd
          have d32 := hd 0 rfl 32 rfl
          exact sk_val (by exact xr_indexR (K := (kI .u8)) (v := V0_0) rfl Try.underlying22 sz5 d32 (R0_0.gr (fB.gr hz)) rfl (by decide) g27) rfl rfl
        · intro ρz wz hz hk hd
          have d33 := hd 1 rfl 33 rfl
          exact sk_val (v := .int .u8 (ix a0 4)) (by exact xr_load1 (v := .int .u8 (ix a0 4)) rfl ag5 d33 ((R0_0.gr (fB.gr hz)).elem (by decide) g27)) rfl rfl
        · intro ρz wz hz hk hd
          have d34 := hd 2 rfl 34 rfl
          exact sk_val (v := .int .i64 (IntKind.i64.wrap (ix a0 4))) (by exact xr_conv rfl Try.underlying5 Try.underlying3 d34) rfl rfl
        · intro ρz wz hz hk hd
          exact sk_val (v := V0_0) (by exact xr_move rfl ((hk 0 rfl).trans e0)) rfl rfl
        · intro ρz wz hz hk hd
          have d36 := hd 4 rfl 36 rfl
          exact sk_val (by exact xr_indexR (K := (kI .u8)) (v := V0_0) rfl Try.underlying22 sz5 d36 (R0_0.gr (fB.gr hz)) rfl (by decide) g28) rfl rfl
        · intro ρz wz hz hk hd
          have d37 := hd 5 rfl 37 rfl
          exact sk_val (v := .int .u8 (ix a0 5)) (by exact xr_load1 (v := .int .u8 (ix a0 5)) rfl ag5 d37 ((R0_0.gr (fB.gr hz)).elem (by decide) g28)) rfl rfl
        · intro ρz wz hz hk hd
          have d38 := hd 6 rfl 38 rfl
          exact sk_val (v := .int .i64 (IntKind.i64.wrap (ix a0 5))) (by exact xr_conv rfl Try.underlying5 Try.underlying3 d38) rfl rfl
        · intro ρz wz hz hk hd
          exact sk_val (v := V0_0) (by exact xr_move rfl ((hk 0 rfl).trans e0)) rfl rfl
        · intro ρz wz hz hk hd
          have d40 := hd 8 rfl 40 rfl
          exact sk_val (by exact xr_slice_l (K := (kI .u8)) (v := V0_0) rfl Try.underlying22 sz5 d40 (R0_0.gr (fB.gr hz)) rfl (by decide) g30) rfl ⟨_, (R0_0.gr (fB.gr hz)).cut (lo := 8) (hi := (List.length a0 : Int)) (by decide) g30 (Int.le_refl _), rfl⟩
        · intro ρz wz hz hk hd
          obtain ⟨u31, r29, d41⟩ := hd 9 rfl 41 rfl
          exact sk_val (v := sv (List.map toB (cut a0 8 (List.length a0 : Int)))) (by exact xr_toStr rfl Try.underlying22 Try.underlying5 Try.underlying9 d41 r29) rfl rfl
        · intro ρz wz hz hk hd
          have d35 := hd 3 rfl 35 rfl
          exact sk_val (v := .int .i64 (IntKind.i64.wrap (ix a0 4))) (by exact xr_assign rfl d35) rfl rfl
        · intro ρz wz hz hk hd
          have d39 := hd 7 rfl 39 rfl
          exact sk_val (v := .int .i64 (IntKind.i64.wrap (ix a0 5))) (by exact xr_assign rfl d39) rfl rfl
      · intro ρ32 w33 q34 hk hd
        have e2 := hd 11 rfl 2 rfl
        have e3 := hd 12 rfl 3 rfl
        have e42 := hd 10 rfl 42 rfl
        have fB := fB.gr q34
        refine ol_val (v := sv (List.map toB (cut a0 8 (List.length a0 : Int)))) (by exact xr_assign rfl e42) rfl rfl rfl ?_
        refine ol_val (v := .bool true) (by exact xr_assign rfl rfl) rfl rfl rfl ?_
        refine ol_nil ?_
        refine cw_ret ?_
        repeat (first | with_reducible refine thn_r ?_ | with_reducible refine blk_r ?_)
        obtain rfl := Option.some.inj h
        refine fin_ret4 Try.results32 e2 e3 rfl rfl ?_
        exact ⟨_, rfl, rfl, fB⟩
end Go.Proofs.Ytjhajfkfhdnciaa

/- rickyard/rickyardref08.Block: its model, and that the Go function computes it: written by gen.py. -/
set_option linter.unusedVariables false
namespace Go.Proofs.Ytjhajfkfhdnciaa
open Go Go.Xw
def rickyardref08_Block.f (fu : Nat) (a0 : Int) : Option Bool := some ((if (decide (a0 ≥ 2)) = true then (decide (a0 ≤ 3071)) else false))
set_option maxRecDepth 100000 in
set_option maxHeartbeats 400000 in
theorem rickyardref08_Block.ok (fu : Nat) (w : World) (a0 : Int) (r : Bool) (h : rickyardref08_Block.f fu a0 = some r) :
    Calls Try.prog 107 (([.int .i64 a0] : List Value).toArray) w (fun e w' => ∃ v, e = .returned v ∧ v = .bool r ∧ Gr w w') := by
  unfold rickyardref08_Block.f at h
  have fB : Gr w w := Fr.refl _ _
  refine calls_cw Try.func107 rfl Try.ntmps107 rfl ?_
  refine cw_seq ?_
  refine cw_region ?_
  refine ol_val (v := .bool false) (by exact xr_assign rfl rfl) rfl rfl rfl ?_
  refine ol_nil ?_
  refine cw_seq ?_
  refine cw_mid (fun ρ' w' => ρ' 2 = .bool (if (decide (a0 ≥ 2)) = true then (decide (a0 ≤ 3071)) else false) ∧ w = w') ?_ ?_
  · skip
    refine cw_region ?_
    refine ol_val (v := .int .i64 a0) (by exact xr_move rfl rfl) rfl rfl rfl ?_
    refine ol_val (v := .bool (decide (a0 ≥ 2))) (by exact xr_geq rfl rfl rfl) rfl rfl rfl ?_
    refine ol_val (v := .bool (decide (a0 ≥ 2))) (by exact xr_move rfl rfl) rfl rfl rfl ?_
    rcases bt (decide (a0 ≥ 2)) with c1 | c1
    · skip
      refine ol_gval (v := .int .i64 a0) (by exact xr_move rfl rfl) rfl rfl rfl rfl rfl c1 ?_
      refine ol_gval (v := .bool (decide (a0 ≤ 3071))) (by exact xr_leq rfl rfl rfl) rfl rfl rfl rfl rfl c1 ?_
      refine ol_val (v := .bool (decide (a0 ≤ 3071))) (by exact xr_pickT rfl rfl c1 rfl) rfl rfl rfl ?_
      refine ol_val (v := .bool (decide (a0 ≤ 3071))) (by exact xr_assign rfl rfl) rfl rfl rfl ?_
      refine ol_nil ?_
      refine thn_i ?_
      exact ⟨(rfl).trans (congrArg (fun z => (.bool z : Value)) (show (decide (a0 ≤ 3071)) = (if (decide (a0 ≥ 2)) = true then (decide (a0 ≤ 3071)) else false) from by rw [ite_t c1])), rfl⟩
    · skip
      refine ol_gskip rfl rfl rfl rfl rfl c1 ?_
      refine ol_gskip rfl rfl rfl rfl rfl c1 ?_
      refine ol_val (v := .bool false) (by exact xr_pickF rfl rfl c1 rfl) rfl rfl rfl ?_
      refine ol_val (v := .bool false) (by exact xr_assign rfl rfl) rfl rfl rfl ?_
      refine ol_nil ?_
      refine thn_i ?_
      exact ⟨(rfl).trans (congrArg (fun z => (.bool z : Value)) (show false = (if (decide (a0 ≥ 2)) = true then (decide (a0 ≤ 3071)) else false) from by rw [ite_f c1])), rfl⟩
  · skip
    rintro ρ2 _ ⟨e2, rfl⟩
    refine cw_ret ?_
    repeat (first | with_reducible refine thn_r ?_ | with_reducible refine blk_r ?_)
    obtain rfl := Option.some.inj h
    refine fin_ret1 Try.results107 e2 ?_
    exact ⟨_, rfl, rfl, fB⟩
end Go.Proofs.Ytjhajfkfhdnciaa

/- rickyard/rickyardref08.Right: its model, and that the Go function computes it: written by gen.py. -/
set_option linter.unusedVariables false
namespace Go.Proofs.Ytjhajfkfhdnciaa
open Go Go.Xw
def rickyardref08_Right.s0 (fu : Nat) (a0 : S_api_Node) : (Bool × Int) → Option (Sum Bool (Bool × Int)) := fun s21 => (if (if (decide (s21.2 < (List.length a0.Kids : Int))) = true then s21.1 else false) = true then (if 0 ≤ s21.2 ∧ s21.2 < (List.length a0.Kids : Int) then ((rickyardref08_Block.f fu (ix a0.Kids s21.2) : Option Bool).bind fun t32 => some (Sum.inr (t32, (IntKind.i64.wrap (s21.2 + 1))))) else none) else some (Sum.inl (s21.1)))
def rickyardref08_Right.f (fu : Nat) (a0 : S_api_Node) : Option Bool := ((loopM (rickyardref08_Right.s0 fu a0) fu ((if (decide (a0.Entry.Handle.Slot ≥ 0)) = true then (if (decide (a0.Entry.Handle.Slot ≤ 1791)) = true then (if (decide (a0.Entry.Handle.Gen ≥ 1)) = true then (if (decide (a0.Entry.Handle.Gen ≤ 4294967295)) = true then (decide ((List.length a0.Kids : Int) ≤ 12)) else false) else false) else false) else false), 0)).bind fun e22 => some (e22))
set_option maxRecDepth 100000 in
set_option maxHeartbeats 400000 in
theorem rickyardref08_Right.ok (fu : Nat) (w : World) (a0 : S_api_Node) (V0_0 : Value) (R0_0 : Rd (kI .i64) w V0_0 a0.Kids) (r : Bool) (h : rickyardref08_Right.f fu a0 = some r) :
    Calls Try.prog 42 (([aggV [Seg.cell (.int .i64 a0.Entry.Handle.Slot), Seg.cell (.int .i64 a0.Entry.Handle.Gen), Seg.cell (.int .i64 a0.Entry.Key), Seg.cell (.int .i64 a0.Entry.Value), Seg.cell V0_0 R0_0.one]] : List Value).toArray) w (fun e w' => ∃ v, e = .returned v ∧ v = .bool r ∧ Gr w w') := by
  unfold rickyardref08_Right.f at h
  have fB : Gr w w := Fr.refl _ _
  refine calls_cw Try.func42 rfl Try.ntmps42 rfl ?_
  refine cw_seq ?_
  refine cw_region ?_
  refine ol_op (by exact opv_box (ss := [Seg.cell (.int .i64 a0.Entry.Handle.Slot), Seg.cell (.int .i64 a0.Entry.Handle.Gen), Seg.cell (.int .i64 a0.Entry.Key), Seg.cell (.int .i64 a0.Entry.Value), Seg.cell V0_0 R0_0.one]) rfl rfl rfl) rfl rfl rfl ?_
  rintro _ w6 ⟨G1, rfl, b2, q3, z4⟩
  have z4 := Nat.le_trans fB.size z4
  have fB := fB.gr q3
  refine ol_val (v := .bool false) (by exact xr_assign rfl rfl) rfl rfl rfl ?_
  refine ol_nil ?_
  refine cw_seq ?_
  refine cw_region ?_
  refine ol_val (v := .pointer (some ⟨G1, 0, none⟩)) (by exact xr_fieldAddr (p := 0) (q := 0) rfl fl47_0 rfl) rfl rfl rfl ?_
  refine ol_val (v := .pointer (some ⟨G1, 0, none⟩)) (by exact xr_fieldAddr (p := 0) (q := 0) rfl fl44_0 rfl) rfl rfl rfl ?_
  refine ol_val (v := aggV [Seg.cell (.int .i64 a0.Entry.Handle.Slot), Seg.cell (.int .i64 a0.Entry.Handle.Gen)]) (by exact xr_loadS (ss := [Seg.cell (.int .i64 a0.Entry.Handle.Slot), Seg.cell (.int .i64 a0.Entry.Handle.Gen)]) rfl ag42 sz42 rfl rfl (b2.segs 0 2 rfl)) rfl rfl rfl ?_
  refine ol_op (by exact opv_alloc (ss := [Seg.cell (.int .i64 (0 : Int)), Seg.cell (.int .i64 (0 : Int))]) rfl ze42 rfl) rfl rfl rfl ?_
  rintro _ w12 ⟨G7, rfl, b8, q9, z10⟩
  have n13 := Blk.ne b2 z10
  have z10 := Nat.le_trans fB.size z10
  have b2 := b2.gr q9
  have fB := fB.gr q9
  refine ol_op0 (by exact opv_store (ss' := [Seg.cell (.int .i64 a0.Entry.Handle.Slot), Seg.cell (.int .i64 a0.Entry.Handle.Gen)]) (xs := cellsOf [Seg.cell (.int .i64 a0.Entry.Handle.Slot), Seg.cell (.int .i64 a0.Entry.Handle.Gen)]) rfl sz42 rfl rfl rfl (len_cellsOf _) (one_cellsOf _) b8 (Spl.segs _ 0 2 [Seg.cell (.int .i64 a0.Entry.Handle.Slot), Seg.cell (.int .i64 a0.Entry.Handle.Gen)] rfl rfl)) rfl rfl ?_
  rintro _ w15 ⟨b8, q14⟩
  have b2 := b2.wr q14 n13
  have fB := fB.wr q14 z10
  refine ol_nil ?_
  refine cw_seq ?_
  refine cw_mid (fun ρ' w' => ρ' 1 = .pointer (some ⟨G1, 0, none⟩) ∧ ρ' 4 = .bool (if (decide (a0.Entry.Handle.Slot ≥ 0)) = true then (if (decide (a0.Entry.Handle.Slot ≤ 1791)) = true then (if (decide (a0.Entry.Handle.Gen ≥ 1)) = true then (if (decide (a0.Entry.Handle.Gen ≤ 4294967295)) = true then (decide ((List.length a0.Kids : Int) ≤ 12)) else false) else false) else false) else false) ∧ w15 = w') ?_ ?_
  · skip
    refine cw_region ?_
    refine ol_val (v := .pointer (some ⟨G7, 0, none⟩)) (by exact xr_fieldAddr (p := 0) (q := 0) rfl fl42_0 rfl) rfl rfl rfl ?_
    refine ol_val (v := .int .i64 a0.Entry.Handle.Slot) (by exact xr_load1 (v := .int .i64 a0.Entry.Handle.Slot) rfl ag3 rfl (b8.seg 0 rfl rfl)) rfl rfl rfl ?_
    refine ol_val (v := .bool (decide (a0.Entry.Handle.Slot ≥ 0))) (by exact xr_geq rfl rfl rfl) rfl rfl rfl ?_
    refine ol_val (v := .bool (decide (a0.Entry.Handle.Slot ≥ 0))) (by exact xr_move rfl rfl) rfl rfl rfl ?_
    rcases bt (decide (a0.Entry.Handle.Slot ≥ 0)) with c16 | c16
    · skip
      refine ol_gval (v := .pointer (some ⟨G7, 0, none⟩)) (by exact xr_fieldAddr (p := 0) (q := 0) rfl fl42_0 rfl) rfl rfl rfl rfl rfl c16 ?_
      refine ol_gval (v := .int .i64 a0.Entry.Handle.Slot) (by exact xr_load1 (v := .int .i64 a0.Entry.Handle.Slot) rfl ag3 rfl (b8.seg 0 rfl rfl)) rfl rfl rfl rfl rfl c16 ?_
      refine ol_gval (v := .bool (decide (a0.Entry.Handle.Slot ≤ 1791))) (by exact xr_leq rfl rfl rfl) rfl rfl rfl rfl rfl c16 ?_
      refine ol_val (v := .bool (decide (a0.Entry.Handle.Slot ≤ 1791))) (by exact xr_pickT rfl rfl c16 rfl) rfl rfl rfl ?_
      refine ol_val (v := .bool (decide (a0.Entry.Handle.Slot ≤ 1791))) (by exact xr_move rfl rfl) rfl rfl rfl ?_
      rcases bt (decide (a0.Entry.Handle.Slot ≤ 1791)) with c17 | c17
      · skip
        refine ol_gval (v := .pointer (some ⟨G7, 1, none⟩)) (by exact xr_fieldAddr (p := 0) (q := 1) rfl fl42_1 rfl) rfl rfl rfl rfl rfl c17 ?_
        refine ol_gval (v := .int .i64 a0.Entry.Handle.Gen) (by exact xr_load1 (v := .int .i64 a0.Entry.Handle.Gen) rfl ag3 rfl (b8.seg 1 rfl rfl)) rfl rfl rfl rfl rfl c17 ?_
        refine ol_gval (v := .bool (decide (a0.Entry.Handle.Gen ≥ 1))) (by exact xr_geq rfl rfl rfl) rfl rfl rfl rfl rfl c17 ?_
        refine ol_val (v := .bool (decide (a0.Entry.Handle.Gen ≥ 1))) (by exact xr_pickT rfl rfl c17 rfl) rfl rfl rfl ?_
        refine ol_val (v := .bool (decide (a0.Entry.Handle.Gen ≥ 1))) (by exact xr_move rfl rfl) rfl rfl rfl ?_
        rcases bt (decide (a0.Entry.Handle.Gen ≥ 1)) with c18 | c18
        · skip
          refine ol_gval (v := .pointer (some ⟨G7, 1, none⟩)) (by exact xr_fieldAddr (p := 0) (q := 1) rfl fl42_1 rfl) rfl rfl rfl rfl rfl c18 ?_
          refine ol_gval (v := .int .i64 a0.Entry.Handle.Gen) (by exact xr_load1 (v := .int .i64 a0.Entry.Handle.Gen) rfl ag3 rfl (b8.seg 1 rfl rfl)) rfl rfl rfl rfl rfl c18 ?_
          refine ol_gval (v := .bool (decide (a0.Entry.Handle.Gen ≤ 4294967295))) (by exact xr_leq rfl rfl rfl) rfl rfl rfl rfl rfl c18 ?_
          refine ol_val (v := .bool (decide (a0.Entry.Handle.Gen ≤ 4294967295))) (by exact xr_pickT rfl rfl c18 rfl) rfl rfl rfl ?_
          refine ol_val (v := .bool (decide (a0.Entry.Handle.Gen ≤ 4294967295))) (by exact xr_move rfl rfl) rfl rfl rfl ?_
          rcases bt (decide (a0.Entry.Handle.Gen ≤ 4294967295)) with c19 | c19
          · skip
            refine ol_gval (v := .pointer (some ⟨G1, 4, none⟩)) (by exact xr_fieldAddr (p := 0) (q := 4) rfl fl47_1 rfl) rfl rfl rfl rfl rfl c19 ?_
            refine ol_gval (v := V0_0) (by exact xr_load1 (v := V0_0) rfl ag45 rfl (b2.seg 4 rfl rfl)) rfl rfl rfl rfl rfl c19 ?_
            refine ol_gval (v := .int .i64 (List.length a0.Kids : Int)) (by exact xr_lenR rfl Try.underlying45 rfl (R0_0.gr fB)) rfl rfl rfl rfl rfl c19 ?_
            refine ol_gval (v := .bool (decide ((List.length a0.Kids : Int) ≤ 12))) (by exact xr_leq rfl rfl rfl) rfl rfl rfl rfl rfl c19 ?_
            refine ol_val (v := .bool (decide ((List.length a0.Kids : Int) ≤ 12))) (by exact xr_pickT rfl rfl c19 rfl) rfl rfl rfl ?_
            refine ol_val (v := .bool (decide ((List.length a0.Kids : Int) ≤ 12))) (by exact xr_assign rfl rfl) rfl rfl rfl ?_
            refine ol_nil ?_
            refine thn_i ?_
            exact ⟨rfl, (rfl).trans (congrArg (fun z => (.bool z : Value)) (show (decide ((List.length a0.Kids : Int) ≤ 12)) = (if (decide (a0.Entry.Handle.Slot ≥ 0)) = true then (if (decide (a0.Entry.Handle.Slot ≤ 1791)) = true then (if (decide (a0.Entry.Handle.Gen ≥ 1)) = true then (if (decide (a0.Entry.Handle.Gen ≤ 4294967295)) = true then (decide ((List.length a0.Kids : Int) ≤ 12)) else false) else false) else false) else false) from by rw [ite_t c16, ite_t c17, ite_t c18, ite_t c19])), rfl⟩
          · skip
            refine ol_gskip rfl rfl rfl rfl rfl c19 ?_
            refine ol_gskip rfl rfl rfl rfl rfl c19 ?_
            refine ol_gskip rfl rfl rfl rfl rfl c19 ?_
            refine ol_gskip rfl rfl rfl rfl rfl c19 ?_
            refine ol_val (v := .bool false) (by exact xr_pickF rfl rfl c19 rfl) rfl rfl rfl ?_
            refine ol_val (v := .bool false) (by exact xr_assign rfl rfl) rfl rfl rfl ?_
            refine ol_nil ?_
            refine thn_i ?_
            exact ⟨rfl, (rfl).trans (congrArg (fun z => (.bool z : Value)) (show false = (if (decide (a0.Entry.Handle.Slot ≥ 0)) = true then (if (decide (a0.Entry.Handle.Slot ≤ 1791)) = true then (if (decide (a0.Entry.Handle.Gen ≥ 1)) = true then (if (decide (a0.Entry.Handle.Gen ≤ 4294967295)) = true then (decide ((List.length a0.Kids : Int) ≤ 12)) else false) else false) else false) else false) from by rw [ite_t c16, ite_t c17, ite_t c18, ite_f c19])), rfl⟩
        · skip
          refine ol_gskip rfl rfl rfl rfl rfl c18 ?_
          refine ol_gskip rfl rfl rfl rfl rfl c18 ?_
          refine ol_gskip rfl rfl rfl rfl rfl c18 ?_
          refine ol_val (v := .bool false) (by exact xr_pickF rfl rfl c18 rfl) rfl rfl rfl ?_
          refine ol_val (v := .bool false) (by exact xr_move rfl rfl) rfl rfl rfl ?_
          refine ol_gskip rfl rfl rfl rfl rfl rfl ?_
          refine ol_gskip rfl rfl rfl rfl rfl rfl ?_
          refine ol_gskip rfl rfl rfl rfl rfl rfl ?_
          refine ol_gskip rfl rfl rfl rfl rfl rfl ?_
          refine ol_val (v := .bool false) (by exact xr_pickF rfl rfl rfl rfl) rfl rfl rfl ?_
          refine ol_val (v := .bool false) (by exact xr_assign rfl rfl) rfl rfl rfl ?_
          refine ol_nil ?_
          refine thn_i ?_
          exact ⟨rfl, (rfl).trans (congrArg (fun z => (.bool z : Value)) (show false = (if (decide (a0.Entry.Handle.Slot ≥ 0)) = true then (if (decide (a0.Entry.Handle.Slot ≤ 1791)) = true then (if (decide (a0.Entry.Handle.Gen ≥ 1)) = true then (if (decide (a0.Entry.Handle.Gen ≤ 4294967295)) = true then (decide ((List.length a0.Kids : Int) ≤ 12)) else false) else false) else false) else false) from by rw [ite_t c16, ite_t c17, ite_f c18])), rfl⟩
      · skip
        refine ol_gskip rfl rfl rfl rfl rfl c17 ?_
        refine ol_gskip rfl rfl rfl rfl rfl c17 ?_
        refine ol_gskip rfl rfl rfl rfl rfl c17 ?_
        refine ol_val (v := .bool false) (by exact xr_pickF rfl rfl c17 rfl) rfl rfl rfl ?_
        refine ol_val (v := .bool false) (by exact xr_move rfl rfl) rfl rfl rfl ?_
        refine ol_gskip rfl rfl rfl rfl rfl rfl ?_
        refine ol_gskip rfl rfl rfl rfl rfl rfl ?_
        refine ol_gskip rfl rfl rfl rfl rfl rfl ?_
        refine ol_val (v := .bool false) (by exact xr_pickF rfl rfl rfl rfl) rfl rfl rfl ?_
        refine ol_val (v := .bool false) (by exact xr_move rfl rfl) rfl rfl rfl ?_
        refine ol_gskip rfl rfl rfl rfl rfl rfl ?_
        refine ol_gskip rfl rfl rfl rfl rfl rfl ?_
        refine ol_gskip rfl rfl rfl rfl rfl rfl ?_
        refine ol_gskip rfl rfl rfl rfl rfl rfl ?_
        refine ol_val (v := .bool false) (by exact xr_pickF rfl rfl rfl rfl) rfl rfl rfl ?_
        refine ol_val (v := .bool false) (by exact xr_assign rfl rfl) rfl rfl rfl ?_
        refine ol_nil ?_
        refine thn_i ?_
        exact ⟨rfl, (rfl).trans (congrArg (fun z => (.bool z : Value)) (show false = (if (decide (a0.Entry.Handle.Slot ≥ 0)) = true then (if (decide (a0.Entry.Handle.Slot ≤ 1791)) = true then (if (decide (a0.Entry.Handle.Gen ≥ 1)) = true then (if (decide (a0.Entry.Handle.Gen ≤ 4294967295)) = true then (decide ((List.length a0.Kids : Int) ≤ 12)) else false) else false) else false) else false) from by rw [ite_t c16, ite_f c17])), rfl⟩
    · skip
      refine ol_gskip rfl rfl rfl rfl rfl c16 ?_
      refine ol_gskip rfl rfl rfl rfl rfl c16 ?_
      refine ol_gskip rfl rfl rfl rfl rfl c16 ?_
      refine ol_val (v := .bool false) (by exact xr_pickF rfl rfl c16 rfl) rfl rfl rfl ?_
      refine ol_val (v := .bool false) (by exact xr_move rfl rfl) rfl rfl rfl ?_
      refine ol_gskip rfl rfl rfl rfl rfl rfl ?_
      refine ol_gskip rfl rfl rfl rfl rfl rfl ?_
      refine ol_gskip rfl rfl rfl rfl rfl rfl ?_
      refine ol_val (v := .bool false) (by exact xr_pickF rfl rfl rfl rfl) rfl rfl rfl ?_
      refine ol_val (v := .bool false) (by exact xr_move rfl rfl) rfl rfl rfl ?_
      refine ol_gskip rfl rfl rfl rfl rfl rfl ?_
      refine ol_gskip rfl rfl rfl rfl rfl rfl ?_
      refine ol_gskip rfl rfl rfl rfl rfl rfl ?_
      refine ol_val (v := .bool false) (by exact xr_pickF rfl rfl rfl rfl) rfl rfl rfl ?_
      refine ol_val (v := .bool false) (by exact xr_move rfl rfl) rfl rfl rfl ?_
      refine ol_gskip rfl rfl rfl rfl rfl rfl ?_
      refine ol_gskip rfl rfl rfl rfl rfl rfl ?_
      refine ol_gskip rfl rfl rfl rfl rfl rfl ?_
      refine ol_gskip rfl rfl rfl rfl rfl rfl ?_
      refine ol_val (v := .bool false) (by exact xr_pickF rfl rfl rfl rfl) rfl rfl rfl ?_
      refine ol_val (v := .bool false) (by exact xr_assign rfl rfl) rfl rfl rfl ?_
      refine ol_nil ?_
      refine thn_i ?_
      exact ⟨rfl, (rfl).trans (congrArg (fun z => (.bool z : Value)) (show false = (if (decide (a0.Entry.Handle.Slot ≥ 0)) = true then (if (decide (a0.Entry.Handle.Slot ≤ 1791)) = true then (if (decide (a0.Entry.Handle.Gen ≥ 1)) = true then (if (decide (a0.Entry.Handle.Gen ≤ 4294967295)) = true then (decide ((List.length a0.Kids : Int) ≤ 12)) else false) else false) else false) else false) from by rw [ite_f c16])), rfl⟩
  · skip
    rintro ρ20 _ ⟨e1, e4, rfl⟩
    refine cw_seq ?_
    refine cw_seq ?_
    refine cw_region ?_
    refine ol_val (v := .int .i64 0) (by exact xr_assign rfl rfl) rfl rfl rfl ?_
    refine ol_nil ?_
    obtain ⟨e22, l23, h24⟩ := bs h
    refine cw_mid (fun ρ' w' => ρ' 4 = .bool e22 ∧ Gr w w') ?_ ?_
    · refine cw_block ?_
      refine cw_round (fun (s21 : Bool × Int) ρ' w' => ρ' 1 = .pointer (some ⟨G1, 0, none⟩) ∧ ρ' 4 = .bool s21.1 ∧ ρ' 5 = .int .i64 s21.2 ∧ Blk w' G1 47 [Seg.cell (.int .i64 a0.Entry.Handle.Slot), Seg.cell (.int .i64 a0.Entry.Handle.Gen), Seg.cell (.int .i64 a0.Entry.Key), Seg.cell (.int .i64 a0.Entry.Value), Seg.cell V0_0 R0_0.one] ∧ Gr w w') l23 ?_ ?_
      · skip
        exact ⟨e1, e4, rfl, b2, fB⟩
      · rintro s21 x27 ρ25 w26 ⟨e1, e4, e5, b2, fB⟩ h
        unfold rickyardref08_Right.s0 at h
        refine cw_seq ?_
        refine cw_seq ?_
        refine cw_mid (fun ρ' w' => ρ' 1 = .pointer (some ⟨G1, 0, none⟩) ∧ ρ' 4 = .bool s21.1 ∧ ρ' 5 = .int .i64 s21.2 ∧ ρ' 40 = .bool (if (decide (s21.2 < (List.length a0.Kids : Int))) = true then s21.1 else false) ∧ w26 = w') ?_ ?_
        · skip
          refine cw_region ?_
          refine ol_val (v := .int .i64 s21.2) (by exact xr_move rfl e5) rfl rfl rfl ?_
          refine ol_val (v := .pointer (some ⟨G1, 4, none⟩)) (by exact xr_fieldAddr (p := 0) (q := 4) rfl fl47_1 e1) rfl rfl rfl ?_
          refine ol_val (v := V0_0) (by exact xr_load1 (v := V0_0) rfl ag45 rfl (b2.seg 4 rfl rfl)) rfl rfl rfl ?_
          refine ol_val (v := .int .i64 (List.length a0.Kids : Int)) (by exact xr_lenR rfl Try.underlying45 rfl (R0_0.gr fB)) rfl rfl rfl ?_
          refine ol_val (v := .bool (decide (s21.2 < (List.length a0.Kids : Int)))) (by exact xr_lss rfl rfl rfl) rfl rfl rfl ?_
          refine ol_val (v := .bool (decide (s21.2 < (List.length a0.Kids : Int)))) (by exact xr_move rfl rfl) rfl rfl rfl ?_
          rcases bt (decide (s21.2 < (List.length a0.Kids : Int))) with c28 | c28
          · skip
            refine ol_gval (v := .bool s21.1) (by exact xr_move rfl e4) rfl rfl rfl rfl rfl c28 ?_
            refine ol_val (v := .bool s21.1) (by exact xr_pickT rfl rfl c28 rfl) rfl rfl rfl ?_
            refine ol_nil ?_
            refine thn_i ?_
            exact ⟨e1, e4, e5, (rfl).trans (congrArg (fun z => (.bool z : Value)) (show s21.1 = (if (decide (s21.2 < (List.length a0.Kids : Int))) = true then s21.1 else false) from by rw [ite_t c28])), rfl⟩
          · skip
            refine ol_gskip rfl rfl rfl rfl rfl c28 ?_
            refine ol_val (v := .bool false) (by exact xr_pickF rfl rfl c28 rfl) rfl rfl rfl ?_
            refine ol_nil ?_
            refine thn_i ?_
            exact ⟨e1, e4, e5, (rfl).trans (congrArg (fun z => (.bool z : Value)) (show false = (if (decide (s21.2 < (List.length a0.Kids : Int))) = true then s21.1 else false) from by rw [ite_f c28])), rfl⟩
        · skip
          rintro ρ29 _ ⟨e1, e4, e5, e40, rfl⟩
          rcases is h with ⟨c30, h⟩ | ⟨c30, h⟩
          · refine cw_condT e40 c30 ?_
            refine cw_skip ?_
            refine cw_seq ?_
            refine cw_block ?_
            refine cw_region ?_
            refine ol_val (v := .pointer (some ⟨G1, 4, none⟩)) (by exact xr_fieldAddr (p := 0) (q := 4) rfl fl47_1 e1) rfl rfl rfl ?_
            refine ol_val (v := V0_0) (by exact xr_load1 (v := V0_0) rfl ag45 rfl (b2.seg 4 rfl rfl)) rfl rfl rfl ?_
            refine ol_val (v := .int .i64 s21.2) (by exact xr_move rfl e5) rfl rfl rfl ?_
            obtain ⟨g31, h⟩ := gs h
            refine ol_val (v := .pointer (some ⟨(sb V0_0), so V0_0 + Int.toNat s21.2 * 1, none⟩)) (by exact xr_indexR (K := (kI .i64)) (v := V0_0) rfl Try.underlying45 sz3 rfl (R0_0.gr fB) rfl g31.1 g31.2) rfl rfl rfl ?_
            refine ol_val (v := .int .i64 (ix a0.Kids s21.2)) (by exact xr_load1 (v := .int .i64 (ix a0.Kids s21.2)) rfl ag3 rfl ((R0_0.gr fB).elem g31.1 g31.2)) rfl rfl rfl ?_
            obtain ⟨t32, k33, h⟩ := bs h
            refine ol_op (by exact opv_call rfl cal107 (ac rfl an) (rickyardref08_Block.ok fu _ (ix a0.Kids s21.2) _ k33)) rfl rfl rfl ?_
            rintro _ w35 ⟨rfl, q34⟩
            have b2 := b2.gr q34
            have fB := fB.gr q34
            refine ol_val (v := .bool t32) (by exact xr_assign rfl rfl) rfl rfl rfl ?_
            refine ol_nil ?_
            refine blk_i ?_
            refine cw_region ?_
            refine ol_val (v := .int .i64 s21.2) (by exact xr_move rfl e5) rfl rfl rfl ?_
            refine ol_val (v := .int .i64 (IntKind.i64.wrap (s21.2 + 1))) (by exact xr_add rfl rfl rfl) rfl rfl rfl ?_
            refine ol_val (v := .int .i64 (IntKind.i64.wrap (s21.2 + 1))) (by exact xr_assign rfl rfl) rfl rfl rfl ?_
            refine ol_nil ?_
            obtain rfl := Option.some.inj h
            refine lp_in ?_
            exact ⟨e1, rfl, rfl, b2, fB⟩
          · refine cw_condF e40 c30 ?_
            refine cw_exit ?_
            repeat (first | with_reducible refine thn_e ?_ | with_reducible refine blk_e rfl ?_)
            obtain rfl := Option.some.inj h
            refine lp_exit ?_
            rintro rfl
            refine thn_x ?_
            exact ⟨e4, fB⟩
    · rintro ρ36 w37 ⟨e4, fB⟩
      have h := h24
      refine cw_seq ?_
      refine cw_region ?_
      refine ol_val (v := .bool e22) (by exact xr_move rfl e4) rfl rfl rfl ?_
      refine ol_val (v := .bool e22) (by exact xr_assign rfl rfl) rfl rfl rfl ?_
      refine ol_nil ?_
      refine cw_ret ?_
      repeat (first | with_reducible refine thn_r ?_ | with_reducible refine blk_r ?_)
      obtain rfl := Option.some.inj h
      refine fin_ret1 Try.results42 rfl ?_
      exact ⟨_, rfl, rfl, fB⟩
end Go.Proofs.Ytjhajfkfhdnciaa

/- rickyard/rickyardref08.Put: its model, and that the Go function computes it: written by gen.py. -/
set_option linter.unusedVariables false
namespace Go.Proofs.Ytjhajfkfhdnciaa
open Go Go.Xw
def rickyardref08_Put.s0 (fu : Nat) (a0 : S_api_Node) : ((List UInt8) × Int) → Option (Sum (List UInt8) ((List UInt8) × Int)) := fun s34 => (if (decide (s34.2 < (List.length a0.Kids : Int))) = true then (if 0 ≤ s34.2 ∧ s34.2 < (List.length a0.Kids : Int) then ((rickyardref01_Lay.f fu (IntKind.u64.wrap (ix a0.Kids s34.2)) 2 : Option (List UInt8)).bind fun t43 => (if List.length s34.1 + List.length t43 ≤ LIM then some (Sum.inr ((s34.1 ++ t43), (IntKind.i64.wrap (s34.2 + 1)))) else none)) else none) else some (Sum.inl (s34.1)))
def rickyardref08_Put.f (fu : Nat) (a0 : S_api_Node) : Option (List UInt8) := ((rickyardref01_Lay.f fu (IntKind.u64.wrap a0.Entry.Key) 8 : Option (List UInt8)).bind fun t16 => ((rickyardref01_Lay.f fu (IntKind.u64.wrap a0.Entry.Value) 8 : Option (List UInt8)).bind fun t19 => (if List.length t16 + List.length t19 ≤ LIM then ((rickyardref01_Lay.f fu (IntKind.u64.wrap a0.Entry.Handle.Slot) 4 : Option (List UInt8)).bind fun t23 => (if List.length (t16 ++ t19) + List.length t23 ≤ LIM then ((rickyardref01_Lay.f fu (IntKind.u64.wrap a0.Entry.Handle.Gen) 4 : Option (List UInt8)).bind fun t27 => (if List.length ((t16 ++ t19) ++ t23) + List.length t27 ≤ LIM then ((loopM (rickyardref08_Put.s0 fu a0) fu ((((t16 ++ t19) ++ t23) ++ t27), 0)).bind fun e35 => ((rickyardref07_Seal.f fu 1 (List.length a0.Kids : Int) e35 : Option (List UInt8)).bind fun t50 => some (t50))) else none)) else none)) else none)))
set_option maxRecDepth 100000 in
set_option maxHeartbeats 400000 in
theorem rickyardref08_Put.ok (fu : Nat) (w : World) (a0 : S_api_Node) (V0_0 : Value) (R0_0 : Rd (kI .i64) w V0_0 a0.Kids) (r : (List UInt8)) (h : rickyardref08_Put.f fu a0 = some r) :
    Calls Try.prog 44 (([aggV [Seg.cell (.int .i64 a0.Entry.Handle.Slot), Seg.cell (.int .i64 a0.Entry.Handle.Gen), Seg.cell (.int .i64 a0.Entry.Key), Seg.cell (.int .i64 a0.Entry.Value), Seg.cell V0_0 R0_0.one]] : List Value).toArray) w (fun e w' => ∃ v, e = .returned v ∧ v = sv r ∧ Gr w w') := by
  unfold rickyardref08_Put.f at h
  have fB : Gr w w := Fr.refl _ _
  refine calls_cw Try.func44 rfl Try.ntmps44 rfl ?_
  refine cw_seq ?_
  refine cw_region ?_
  refine ol_op (by exact opv_box (ss := [Seg.cell (.int .i64 a0.Entry.Handle.Slot), Seg.cell (.int .i64 a0.Entry.Handle.Gen), Seg.cell (.int .i64 a0.Entry.Key), Seg.cell (.int .i64 a0.Entry.Value), Seg.cell V0_0 R0_0.one]) rfl rfl rfl) rfl rfl rfl ?_
  rintro _ w6 ⟨G1, rfl, b2, q3, z4⟩
  have z4 := Nat.le_trans fB.size z4
  have fB := fB.gr q3
  refine ol_val (v := sv []) (by exact xr_assign rfl rfl) rfl rfl rfl ?_
  refine ol_nil ?_
  refine cw_seq ?_
  refine cw_region ?_
  refine ol_val (v := .pointer (some ⟨G1, 0, none⟩)) (by exact xr_fieldAddr (p := 0) (q := 0) rfl fl47_0 rfl) rfl rfl rfl ?_
  refine ol_val (v := aggV [Seg.cell (.int .i64 a0.Entry.Handle.Slot), Seg.cell (.int .i64 a0.Entry.Handle.Gen), Seg.cell (.int .i64 a0.Entry.Key), Seg.cell (.int .i64 a0.Entry.Value)]) (by exact xr_loadS (ss := [Seg.cell (.int .i64 a0.Entry.Handle.Slot), Seg.cell (.int .i64 a0.Entry.Handle.Gen), Seg.cell (.int .i64 a0.Entry.Key), Seg.cell (.int .i64 a0.Entry.Value)]) rfl ag44 sz44 rfl rfl (b2.segs 0 4 rfl)) rfl rfl rfl ?_
  refine ol_op (by exact opv_alloc (ss := [Seg.cell (.int .i64 (0 : Int)), Seg.cell (.int .i64 (0 : Int)), Seg.cell (.int .i64 (0 : Int)), Seg.cell (.int .i64 (0 : Int))]) rfl ze44 rfl) rfl rfl rfl ?_
  rintro _ w12 ⟨G7, rfl, b8, q9, z10⟩
  have n13 := Blk.ne b2 z10
  have z10 := Nat.le_trans fB.size z10
  have b2 := b2.gr q9
  have fB := fB.gr q9
  refine ol_op0 (by exact opv_store (ss' := [Seg.cell (.int .i64 a0.Entry.Handle.Slot), Seg.cell (.int .i64 a0.Entry.Handle.Gen), Seg.cell (.int .i64 a0.Entry.Key), Seg.cell (.int .i64 a0.Entry.Value)]) (xs := cellsOf [Seg.cell (.int .i64 a0.Entry.Handle.Slot), Seg.cell (.int .i64 a0.Entry.Handle.Gen), Seg.cell (.int .i64 a0.Entry.Key), Seg.cell (.int .i64 a0.Entry.Value)]) rfl sz44 rfl rfl rfl (len_cellsOf _) (one_cellsOf _) b8 (Spl.segs _ 0 4 [Seg.cell (.int .i64 a0.Entry.Handle.Slot), Seg.cell (.int .i64 a0.Entry.Handle.Gen), Seg.cell (.int .i64 a0.Entry.Key), Seg.cell (.int .i64 a0.Entry.Value)] rfl rfl)) rfl rfl ?_
  rintro _ w15 ⟨b8, q14⟩
  have b2 := b2.wr q14 n13
  have fB := fB.wr q14 z10
  refine ol_nil ?_
  refine cw_seq ?_
  obtain ⟨t16, k17, h⟩ := bs h
  obtain ⟨t19, k20, h⟩ := bs h
  obtain ⟨g22, h⟩ := gs h
  obtain ⟨t23, k24, h⟩ := bs h
  obtain ⟨g26, h⟩ := gs h
  obtain ⟨t27, k28, h⟩ := bs h
  refine cw_drawL 20 [fun vz wz => vz = (.pointer (some ⟨G7, 2, none⟩) : Value), fun vz wz => vz = (.int .i64 a0.Entry.Key : Value), fun vz wz => vz = (.int .u64 (IntKind.u64.wrap a0.Entry.Key) : Value), fun vz wz => vz = (sv t16 : Value), fun vz wz => vz = (.pointer (some ⟨G7, 3, none⟩) : Value), fun vz wz => vz = (.int .i64 a0.Entry.Value : Value), fun vz wz => vz = (.int .u64 (IntKind.u64.wrap a0.Entry.Value) : Value), fun vz wz => vz = (sv t19 : Value), fun vz wz => vz = (sv (t16 ++ t19) : Value), fun vz wz => vz = (.pointer (some ⟨G7, 0, none⟩) : Value), fun vz wz => vz = (.pointer (some ⟨G7, 0, none⟩) : Value), fun vz wz => vz = (.int .i64 a0.Entry.Handle.Slot : Value), fun vz wz => vz = (.int .u64 (IntKind.u64.wrap a0.Entry.Handle.Slot) : Value), fun vz wz => vz = (sv t23 : Value), fun vz wz => vz = (sv ((t16 ++ t19) ++ t23) : Value), fun vz wz => vz = (.pointer (some ⟨G7, 0, none⟩) : Value), fun vz wz => vz = (.pointer (some ⟨G7, 1, none⟩) : Value), fun vz wz => vz = (.int .i64 a0.Entry.Handle.Gen : Value), fun vz wz => vz = (.int .u64 (IntKind.u64.wrap a0.Entry.Handle.Gen) : Value), fun vz wz => vz = (sv t27 : Value)] mo rfl ⟨fun _ _ _ h _ => h, fun _ _ _ h _ => h, fun _ _ _ h _ => h, fun _ _ _ h _ => h, fun _ _ _ h _ => h, fun _ _ _ h _ => h, fun _ _ _ h _ => h, fun _ _ _ h _ => h, fun _ _ _ h _ => h, fun _ _ _ h _ => h, fun _ _ _ h _ => h, fun _ _ _ h _ => h, fun _ _ _ h _ => h, fun _ _ _ h _ => h, fun _ _ _ h _ => h, fun _ _ _ h _ => h, fun _ _ _ h _ => h, fun _ _ _ h _ => h, fun _ _ _ h _ => h, fun _ _ _ h _ => h, trivial⟩ ?_ ?_
  · refine ⟨?_, ?_, ?_, ?_, ?_, ?_, ?_, ?_, ?_, ?_, ?_, ?_, ?_, ?_, ?_, ?_, ?_, ?_, ?_, ?_, trivial⟩
    · intro ρz wz hz hk hd
      exact sk_val (v := .pointer (some ⟨G7, 2, none⟩)) (by exact xr_fieldAddr (p := 0) (q := 2) rfl fl44_1 ((hk 3 rfl).trans rfl)) rfl rfl
    · intro ρz wz hz hk hd
      have d8 := hd 0 rfl 8 rfl
      exact sk_val (v := .int .i64 a0.Entry.Key) (by exact xr_load1 (v := .int .i64 a0.Entry.Key) rfl ag3 d8 ((b8.gr hz).seg 2 rfl rfl)) rfl rfl
    · intro ρz wz hz hk hd
      have d9 := hd 1 rfl 9 rfl
      exact sk_val (v := .int .u64 (IntKind.u64.wrap a0.Entry.Key)) (by exact xr_conv rfl Try.underlying3 Try.underlying129 d9) rfl rfl
    · intro ρz wz hz hk hd
      have d10 := hd 2 rfl 10 rfl
      refine sk_op (by exact opv_call rfl cal99 (ac d10 (ac rfl an)) (rickyardref01_Lay.ok fu _ (IntKind.u64.wrap a0.Entry.Key) 8 _ k17)) rfl ?_
      rintro _ wy ⟨rfl, q18⟩
      exact ⟨rfl, q18⟩
    · intro ρz wz hz hk hd
      exact sk_val (v := .pointer (some ⟨G7, 3, none⟩)) (by exact xr_fieldAddr (p := 0) (q := 3) rfl fl44_2 ((hk 3 rfl).trans rfl)) rfl rfl
    · intro ρz wz hz hk hd
      have d12 := hd 4 rfl 12 rfl
      exact sk_val (v := .int .i64 a0.Entry.Value) (by exact xr_load1 (v := .int .i64 a0.Entry.Value) rfl ag3 d12 ((b8.gr hz).seg 3 rfl rfl)) rfl rfl
    · intro ρz wz hz hk hd
      have d13 := hd 5 rfl 13 rfl
      exact sk_val (v := .int .u64 (IntKind.u64.wrap a0.Entry.Value)) (by exact xr_conv rfl Try.underlying3 Try.underlying129 d13) rfl rfl
    · intro ρz wz hz hk hd
      have d14 := hd 6 rfl 14 rfl
      refine sk_op (by exact opv_call rfl cal99 (ac d14 (ac rfl an)) (rickyardref01_Lay.ok fu _ (IntKind.u64.wrap a0.Entry.Value) 8 _ k20)) rfl ?_
      rintro _ wy ⟨rfl, q21⟩
      exact ⟨rfl, q21⟩
    · intro ρz wz hz hk hd
      have d11 := hd 3 rfl 11 rfl
      have d15 := hd 7 rfl 15 rfl
      exact sk_val (v := sv (t16 ++ t19)) (by exact xr_addStr rfl d11 d15 g22) rfl rfl
    · intro ρz wz hz hk hd
      exact sk_val (v := .pointer (some ⟨G7, 0, none⟩)) (by exact xr_fieldAddr (p := 0) (q := 0) rfl fl44_0 ((hk 3 rfl).trans rfl)) rfl rfl
    · intro ρz wz hz hk hd
      have d17 := hd 9 rfl 17 rfl
      exact sk_val (v := .pointer (some ⟨G7, 0, none⟩)) (by exact xr_fieldAddr (p := 0) (q := 0) rfl fl42_0 d17) rfl rfl
    · intro ρz wz hz hk hd
      have d18 := hd 10 rfl 18 rfl
      exact sk_val (v := .int .i64 a0.Entry.Handle.Slot) (by exact xr_load1 (v := .int .i64 a0.Entry.Handle.Slot) rfl ag3 d18 ((b8.gr hz).seg 0 rfl rfl)) rfl rfl
    · intro ρz wz hz hk hd
      have d19 := hd 11 rfl 19 rfl
      exact sk_val (v := .int .u64 (IntKind.u64.wrap a0.Entry.Handle.Slot)) (by exact xr_conv rfl Try.underlying3 Try.underlying129 d19) rfl rfl
    · intro ρz wz hz hk hd
      have d20 := hd 12 rfl 20 rfl
      refine sk_op (by exact opv_call rfl cal99 (ac d20 (ac rfl an)) (rickyardref01_Lay.ok fu _ (IntKind.u64.wrap a0.Entry.Handle.Slot) 4 _ k24)) rfl ?_
      rintro _ wy ⟨rfl, q25⟩
      exact ⟨rfl, q25⟩
    · intro ρz wz hz hk hd
      have d16 := hd 8 rfl 16 rfl
      have d21 := hd 13 rfl 21 rfl
      exact sk_val (v := sv ((t16 ++ t19) ++ t23)) (by exact xr_addStr rfl d16 d21 g26) rfl rfl
    · intro ρz wz hz hk hd
      exact sk_val (v := .pointer (some ⟨G7, 0, none⟩)) (by exact xr_fieldAddr (p := 0) (q := 0) rfl fl44_0 ((hk 3 rfl).trans rfl)) rfl rfl
    · intro ρz wz hz hk hd
      have d23 := hd 15 rfl 23 rfl
      exact sk_val (v := .pointer (some ⟨G7, 1, none⟩)) (by exact xr_fieldAddr (p := 0) (q := 1) rfl fl42_1 d23) rfl rfl
    · intro ρz wz hz hk hd
      have d24 := hd 16 rfl 24 rfl
      exact sk_val (v := .int .i64 a0.Entry.Handle.Gen) (by exact xr_load1 (v := .int .i64 a0.Entry.Handle.Gen) rfl ag3 d24 ((b8.gr hz).seg 1 rfl rfl)) rfl rfl
    · intro ρz wz hz hk hd
      have d25 := hd 17 rfl 25 rfl
      exact sk_val (v := .int .u64 (IntKind.u64.wrap a0.Entry.Handle.Gen)) (by exact xr_conv rfl Try.underlying3 Try.underlying129 d25) rfl rfl
    · intro ρz wz hz hk hd
      have d26 := hd 18 rfl 26 rfl
      refine sk_op (by exact opv_call rfl cal99 (ac d26 (ac rfl an)) (rickyardref01_Lay.ok fu _ (IntKind.u64.wrap a0.Entry.Handle.Gen) 4 _ k28)) rfl ?_
      rintro _ wy ⟨rfl, q29⟩
      exact ⟨rfl, q29⟩
  · intro ρ30 w31 q32 hk hd
    have e1 := (hk 1 rfl).trans rfl
    have e22 := hd 14 rfl 22 rfl
    have e27 := hd 19 rfl 27 rfl
    have b2 := b2.gr q32
    have fB := fB.gr q32
    obtain ⟨g33, h⟩ := gs h
    refine ol_val (v := sv (((t16 ++ t19) ++ t23) ++ t27)) (by exact xr_addStr rfl e22 e27 g33) rfl rfl rfl ?_
    refine ol_val (v := sv (((t16 ++ t19) ++ t23) ++ t27)) (by exact xr_assign rfl rfl) rfl rfl rfl ?_
    refine ol_nil ?_
    refine cw_seq ?_
    refine cw_seq ?_
    refine cw_region ?_
    refine ol_val (v := .int .i64 0) (by exact xr_assign rfl rfl) rfl rfl rfl ?_
    refine ol_nil ?_
    obtain ⟨e35, l36, h37⟩ := bs h
    refine cw_mid (fun ρ' w' => ρ' 1 = .pointer (some ⟨G1, 0, none⟩) ∧ ρ' 4 = sv e35 ∧ Blk w' G1 47 [Seg.cell (.int .i64 a0.Entry.Handle.Slot), Seg.cell (.int .i64 a0.Entry.Handle.Gen), Seg.cell (.int .i64 a0.Entry.Key), Seg.cell (.int .i64 a0.Entry.Value), Seg.cell V0_0 R0_0.one] ∧ Gr w w') ?_ ?_
    · refine cw_block ?_
      refine cw_round (fun (s34 : (List UInt8) × Int) ρ' w' => ρ' 1 = .pointer (some ⟨G1, 0, none⟩) ∧ ρ' 4 = sv s34.1 ∧ ρ' 5 = .int .i64 s34.2 ∧ Blk w' G1 47 [Seg.cell (.int .i64 a0.Entry.Handle.Slot), Seg.cell (.int .i64 a0.Entry.Handle.Gen), Seg.cell (.int .i64 a0.Entry.Key), Seg.cell (.int .i64 a0.Entry.Value), Seg.cell V0_0 R0_0.one] ∧ Gr w w') l36 ?_ ?_
      · skip
        exact ⟨e1, rfl, rfl, b2, fB⟩
      · rintro s34 x40 ρ38 w39 ⟨e1, e4, e5, b2, fB⟩ h
        unfold rickyardref08_Put.s0 at h
        refine cw_seq ?_
        refine cw_seq ?_
        refine cw_region ?_
        refine ol_val (v := .int .i64 s34.2) (by exact xr_move rfl e5) rfl rfl rfl ?_
        refine ol_val (v := .pointer (some ⟨G1, 4, none⟩)) (by exact xr_fieldAddr (p := 0) (q := 4) rfl fl47_1 e1) rfl rfl rfl ?_
        refine ol_val (v := V0_0) (by exact xr_load1 (v := V0_0) rfl ag45 rfl (b2.seg 4 rfl rfl)) rfl rfl rfl ?_
        refine ol_val (v := .int .i64 (List.length a0.Kids : Int)) (by exact xr_lenR rfl Try.underlying45 rfl (R0_0.gr fB)) rfl rfl rfl ?_
        refine ol_val (v := .bool (decide (s34.2 < (List.length a0.Kids : Int)))) (by exact xr_lss rfl rfl rfl) rfl rfl rfl ?_
        refine ol_nil ?_
        rcases is h with ⟨c41, h⟩ | ⟨c41, h⟩
        · refine cw_condT rfl c41 ?_
          refine cw_skip ?_
          refine cw_seq ?_
          refine cw_block ?_
          refine cw_region ?_
          refine ol_val (v := sv s34.1) (by exact xr_move rfl e4) rfl rfl rfl ?_
          refine ol_val (v := .pointer (some ⟨G1, 4, none⟩)) (by exact xr_fieldAddr (p := 0) (q := 4) rfl fl47_1 e1) rfl rfl rfl ?_
          refine ol_val (v := V0_0) (by exact xr_load1 (v := V0_0) rfl ag45 rfl (b2.seg 4 rfl rfl)) rfl rfl rfl ?_
          refine ol_val (v := .int .i64 s34.2) (by exact xr_move rfl e5) rfl rfl rfl ?_
          obtain ⟨g42, h⟩ := gs h
          refine ol_val (v := .pointer (some ⟨(sb V0_0), so V0_0 + Int.toNat s34.2 * 1, none⟩)) (by exact xr_indexR (K := (kI .i64)) (v := V0_0) rfl Try.underlying45 sz3 rfl (R0_0.gr fB) rfl g42.1 g42.2) rfl rfl rfl ?_
          refine ol_val (v := .int .i64 (ix a0.Kids s34.2)) (by exact xr_load1 (v := .int .i64 (ix a0.Kids s34.2)) rfl ag3 rfl ((R0_0.gr fB).elem g42.1 g42.2)) rfl rfl rfl ?_
          refine ol_val (v := .int .u64 (IntKind.u64.wrap (ix a0.Kids s34.2))) (by exact xr_conv rfl Try.underlying3 Try.underlying129 rfl) rfl rfl rfl ?_
          obtain ⟨t43, k44, h⟩ := bs h
          refine ol_op (by exact opv_call rfl cal99 (ac rfl (ac rfl an)) (rickyardref01_Lay.ok fu _ (IntKind.u64.wrap (ix a0.Kids s34.2)) 2 _ k44)) rfl rfl rfl ?_
          rintro _ w46 ⟨rfl, q45⟩
          have b2 := b2.gr q45
          have fB := fB.gr q45
          obtain ⟨g47, h⟩ := gs h
          refine ol_val (v := sv (s34.1 ++ t43)) (by exact xr_addStr rfl rfl rfl g47) rfl rfl rfl ?_
          refine ol_val (v := sv (s34.1 ++ t43)) (by exact xr_assign rfl rfl) rfl rfl rfl ?_
          refine ol_nil ?_
          refine blk_i ?_
          refine cw_region ?_
          refine ol_val (v := .int .i64 s34.2) (by exact xr_move rfl e5) rfl rfl rfl ?_
          refine ol_val (v := .int .i64 (IntKind.i64.wrap (s34.2 + 1))) (by exact xr_add rfl rfl rfl) rfl rfl rfl ?_
          refine ol_val (v := .int .i64 (IntKind.i64.wrap (s34.2 + 1))) (by exact xr_assign rfl rfl) rfl rfl rfl ?_
          refine ol_nil ?_
          obtain rfl := Option.some.inj h
          refine lp_in ?_
          exact ⟨e1, rfl, rfl, b2, fB⟩
        · refine cw_condF rfl c41 ?_
          refine cw_exit ?_
          repeat (first | with_reducible refine thn_e ?_ | with_reducible refine blk_e rfl ?_)
          obtain rfl := Option.some.inj h
          refine lp_exit ?_
          rintro rfl
          refine thn_x ?_
          exact ⟨e1, e4, b2, fB⟩
    · rintro ρ48 w49 ⟨e1, e4, b2, fB⟩
      have h := h37
      refine cw_seq ?_
      refine cw_region ?_
      refine ol_val (v := .pointer (some ⟨G1, 4, none⟩)) (by exact xr_fieldAddr (p := 0) (q := 4) rfl fl47_1 e1) rfl rfl rfl ?_
      refine ol_val (v := V0_0) (by exact xr_load1 (v := V0_0) rfl ag45 rfl (b2.seg 4 rfl rfl)) rfl rfl rfl ?_
      refine ol_val (v := .int .i64 (List.length a0.Kids : Int)) (by exact xr_lenR rfl Try.underlying45 rfl (R0_0.gr fB)) rfl rfl rfl ?_
      refine ol_val (v := sv e35) (by exact xr_move rfl e4) rfl rfl rfl ?_
      obtain ⟨t50, k51, h⟩ := bs h
      refine ol_op (by exact opv_call rfl cal30 (ac rfl (ac rfl (ac rfl an))) (rickyardref07_Seal.ok fu _ 1 (List.length a0.Kids : Int) e35 _ k51)) rfl rfl rfl ?_
      rintro _ w53 ⟨rfl, q52⟩
      have fB := fB.gr q52
      refine ol_val (v := sv t50) (by exact xr_assign rfl rfl) rfl rfl rfl ?_
      refine ol_nil ?_
      refine cw_ret ?_
      repeat (first | with_reducible refine thn_r ?_ | with_reducible refine blk_r ?_)
      obtain rfl := Option.some.inj h
      refine fin_ret1 Try.results44 rfl ?_
      exact ⟨_, rfl, rfl, fB⟩
end Go.Proofs.Ytjhajfkfhdnciaa
