/- NodeOrders: texts merged, part 3 of 5. The last part proves that the law NodeOrders holds for every input. -/
import Derived.Test.YtjhajfkfhdnciaaPkNodeOrders2
import Derived.ProofKit
import Derived.OpenShut
import Derived.ChangeOld
import Derived.Below
import Derived.SizedLaws
import Derived.WalkKit
/- rickyard/octet.Lay: its model, and that the Go function computes it: written by gen.py. -/
set_option linter.unusedVariables false
namespace Go.Proofs.Ytjhajfkfhdnciaa
open Go Go.Xw
def octet_Lay.s0 (fu : Nat) (a1 : Int) : (Int × Int × (List Int)) → Option (Sum (List Int) (Int × Int × (List Int))) := fun s14 => (if (decide (s14.2.1 < (List.length (List.replicate (Int.toNat a1) (0 : Int)) : Int))) = true then (if 0 ≤ s14.2.1 ∧ s14.2.1 < (List.length s14.2.2 : Int) then some (Sum.inr ((shR .u64 s14.1 8), (IntKind.i64.wrap (s14.2.1 + 1)), (List.set s14.2.2 (Int.toNat s14.2.1) (IntKind.u8.wrap s14.1)))) else none) else some (Sum.inl (s14.2.2)))
def octet_Lay.f (fu : Nat) (a0 : Int) (a1 : Int) : Option (List Int) := (if (if (decide (a1 < 0)) = true then true else (decide (a1 > 8))) = true then some ([]) else (if 0 ≤ a1 ∧ Int.toNat a1 ≤ LIM then ((loopM (octet_Lay.s0 fu a1) fu (a0, 0, (List.replicate (Int.toNat a1) (0 : Int)))).bind fun e15 => some (e15)) else none))
set_option maxRecDepth 100000 in
set_option maxHeartbeats 400000 in
theorem octet_Lay.ok (fu : Nat) (w : World) (a0 : Int) (a1 : Int) (r : (List Int)) (h : octet_Lay.f fu a0 a1 = some r) :
    Calls Try.prog 95 (([.int .u64 a0, .int .i64 a1] : List Value).toArray) w (fun e w' => ∃ v, e = .returned v ∧ ∃ u1 : Value, ∃ o2 : Own (kI .u8) 5 w' w.heap.size u1 r, v = u1 ∧ Gr w w') := by
  unfold octet_Lay.f at h
  have fB : Gr w w := Fr.refl _ _
  refine calls_cw Try.func95 rfl Try.ntmps95 rfl ?_
  refine cw_seq ?_
  refine cw_region ?_
  refine ol_val (v := .slice none 0 0) (by exact xr_assign rfl rfl) rfl rfl rfl ?_
  refine ol_nil ?_
  refine cw_seq ?_
  refine cw_seq ?_
  refine cw_mid (fun ρ' w' => ρ' 0 = .int .u64 a0 ∧ ρ' 1 = .int .i64 a1 ∧ ρ' 12 = .bool (if (decide (a1 < 0)) = true then true else (decide (a1 > 8))) ∧ w = w') ?_ ?_
  · skip
    refine cw_region ?_
    refine ol_val (v := .int .i64 a1) (by exact xr_move rfl rfl) rfl rfl rfl ?_
    refine ol_val (v := .bool (decide (a1 < 0))) (by exact xr_lss rfl rfl rfl) rfl rfl rfl ?_
    refine ol_val (v := .bool (decide (a1 < 0))) (by exact xr_move rfl rfl) rfl rfl rfl ?_
    rcases bt (decide (a1 < 0)) with c4 | c4
    · skip
      refine ol_gskip rfl rfl rfl rfl rfl c4 ?_
      refine ol_gskip rfl rfl rfl rfl rfl c4 ?_
      refine ol_val (v := .bool true) (by exact xr_pickT rfl rfl c4 rfl) rfl rfl rfl ?_
      refine ol_nil ?_
      refine thn_i ?_
      exact ⟨rfl, rfl, (rfl).trans (congrArg (fun z => (.bool z : Value)) (show true = (if (decide (a1 < 0)) = true then true else (decide (a1 > 8))) from by rw [ite_t c4])), rfl⟩
    · skip
      refine ol_gval (v := .int .i64 a1) (by exact xr_move rfl rfl) rfl rfl rfl rfl rfl c4 ?_
      refine ol_gval (v := .bool (decide (a1 > 8))) (by exact xr_gtr rfl rfl rfl) rfl rfl rfl rfl rfl c4 ?_
      refine ol_val (v := .bool (decide (a1 > 8))) (by exact xr_pickF rfl rfl c4 rfl) rfl rfl rfl ?_
      refine ol_nil ?_
      refine thn_i ?_
      exact ⟨rfl, rfl, (rfl).trans (congrArg (fun z => (.bool z : Value)) (show (decide (a1 > 8)) = (if (decide (a1 < 0)) = true then true else (decide (a1 > 8))) from by rw [ite_f c4])), rfl⟩
  · skip
    rintro ρ5 _ ⟨e0, e1, e12, rfl⟩
    rcases is h with ⟨c6, h⟩ | ⟨c6, h⟩
    · refine cw_condT e12 c6 ?_
      refine cw_seq ?_
      refine cw_region ?_
      refine ol_val (v := .slice none 0 0) (by exact xr_assign rfl rfl) rfl rfl rfl ?_
      refine ol_nil ?_
      refine cw_ret ?_
      repeat (first | with_reducible refine thn_r ?_ | with_reducible refine blk_r ?_)
      obtain rfl := Option.some.inj h
      refine fin_ret1 Try.results95 rfl ?_
      exact ⟨_, rfl, (.slice none 0 0), Own.nil _ _ _ _, rfl, fB⟩
    · refine cw_condF e12 c6 ?_
      refine cw_skip ?_
      refine cw_seq ?_
      refine cw_region ?_
      refine ol_val (v := .int .i64 a1) (by exact xr_move rfl e1) rfl rfl rfl ?_
      obtain ⟨g7, h⟩ := gs h
      refine ol_op (by exact opv_make (K := (kI .u8)) (z := (0 : Int)) rfl Try.underlying22 el5 rfl rfl rfl g7.1 g7.2 rfl fB.size) rfl rfl rfl ?_
      rintro v8 w13 ⟨o10, q9, z11⟩
      have fB := fB.gr q9
      refine ol_val (v := v8) (by exact xr_assign rfl rfl) rfl rfl rfl ?_
      refine ol_nil ?_
      refine cw_seq ?_
      refine cw_seq ?_
      refine cw_region ?_
      refine ol_val (v := v8) (by exact xr_move rfl rfl) rfl rfl rfl ?_
      refine ol_val (v := .int .i64 (List.length (List.replicate (Int.toNat a1) (0 : Int)) : Int)) (by exact xr_lenR rfl Try.underlying22 rfl o10.rd) rfl rfl rfl ?_
      refine ol_val (v := .int .i64 0) (by exact xr_move rfl rfl) rfl rfl rfl ?_
      refine ol_nil ?_
      obtain ⟨e15, l16, h17⟩ := bs h
      refine cw_mid (fun ρ' w' => ∃ o10 : Own (kI .u8) 5 w' w.heap.size v8 e15, ρ' 5 = v8 ∧ Gr w w') ?_ ?_
      · refine cw_block ?_
        refine cw_round (fun (s14 : Int × Int × (List Int)) ρ' w' => ∃ o10 : Own (kI .u8) 5 w' w.heap.size v8 s14.2.2, ρ' 0 = .int .u64 s14.1 ∧ ρ' 5 = v8 ∧ ρ' 16 = .int .i64 (List.length (List.replicate (Int.toNat a1) (0 : Int)) : Int) ∧ ρ' 17 = .int .i64 s14.2.1 ∧ Gr w w') l16 ?_ ?_
        · skip
          exact ⟨o10, e0, rfl, rfl, rfl, fB⟩
        · rintro s14 x20 ρ18 w19 ⟨o10, e0, e5, e16, e17, fB⟩ h
          unfold octet_Lay.s0 at h
          refine cw_seq ?_
          refine cw_region ?_
          refine ol_val (v := .bool (decide (s14.2.1 < (List.length (List.replicate (Int.toNat a1) (0 : Int)) : Int)))) (by exact xr_lss rfl e17 e16) rfl rfl rfl ?_
          refine ol_nil ?_
          refine cw_seq ?_
          rcases is h with ⟨c21, h⟩ | ⟨c21, h⟩
          · refine cw_condT rfl c21 ?_
            refine cw_skip ?_
            refine cw_seq ?_
            refine cw_block ?_
            refine cw_seq ?_
            refine cw_region ?_
            refine ol_val (v := .int .i64 s14.2.1) (by exact xr_move rfl e17) rfl rfl rfl ?_
            refine ol_val (v := .int .i64 s14.2.1) (by exact xr_assign rfl rfl) rfl rfl rfl ?_
            refine ol_nil ?_
            refine cw_seq ?_
            refine cw_region ?_
            refine ol_val (v := v8) (by exact xr_move rfl e5) rfl rfl rfl ?_
            refine ol_val (v := .int .i64 s14.2.1) (by exact xr_move rfl rfl) rfl rfl rfl ?_
            refine ol_val (v := .int .u64 s14.1) (by exact xr_move rfl e0) rfl rfl rfl ?_
            refine ol_val (v := .int .u8 (IntKind.u8.wrap s14.1)) (by exact xr_conv rfl Try.underlying129 Try.underlying5 rfl) rfl rfl rfl ?_
            obtain ⟨g22, h⟩ := gs h
            refine ol_val (v := .pointer (some ⟨(sb v8), so v8 + Int.toNat s14.2.1 * 1, none⟩)) (by exact xr_indexR (K := (kI .u8)) (v := v8) rfl Try.underlying22 sz5 rfl o10.rd rfl g22.1 g22.2) rfl rfl rfl ?_
            have f24 := o10.geO
            refine ol_op0 (by exact opv_storeRow (z := (IntKind.u8.wrap s14.1)) (xs := cellsOf [Seg.cell (.int .u8 (IntKind.u8.wrap s14.1))]) rfl sz5 rfl rfl rfl (len_cellsOf _) (one_cellsOf _) o10 g22.1 g22.2 (Spl.whole ((Kd.len _ _).trans (Kd.len _ _).symm)) rfl) rfl rfl ?_
            rintro _ w25 ⟨o10, q23⟩
            have fB := fB.wrO q23 f24
            refine ol_nil ?_
            refine cw_region ?_
            refine ol_val (v := .int .u64 s14.1) (by exact xr_move rfl e0) rfl rfl rfl ?_
            refine ol_val (v := .int .u64 (shR .u64 s14.1 8)) (by exact xr_shr rfl rfl rfl (by decide)) rfl rfl rfl ?_
            refine ol_val (v := .int .u64 (shR .u64 s14.1 8)) (by exact xr_assign rfl rfl) rfl rfl rfl ?_
            refine ol_nil ?_
            refine blk_i ?_
            refine cw_region ?_
            refine ol_val (v := .int .i64 (IntKind.i64.wrap (s14.2.1 + 1))) (by exact xr_add rfl e17 rfl) rfl rfl rfl ?_
            refine ol_val (v := .int .i64 (IntKind.i64.wrap (s14.2.1 + 1))) (by exact xr_move rfl rfl) rfl rfl rfl ?_
            refine ol_nil ?_
            obtain rfl := Option.some.inj h
            refine lp_in ?_
            exact ⟨o10, rfl, e5, e16, rfl, fB⟩
          · refine cw_condF rfl c21 ?_
            refine cw_exit ?_
            repeat (first | with_reducible refine thn_e ?_ | with_reducible refine blk_e rfl ?_)
            obtain rfl := Option.some.inj h
            refine lp_exit ?_
            rintro rfl
            refine thn_x ?_
            exact ⟨o10, e5, fB⟩
      · rintro ρ26 w27 ⟨o10, e5, fB⟩
        have h := h17
        refine cw_seq ?_
        refine cw_region ?_
        refine ol_val (v := v8) (by exact xr_move rfl e5) rfl rfl rfl ?_
        refine ol_val (v := v8) (by exact xr_assign rfl rfl) rfl rfl rfl ?_
        refine ol_nil ?_
        refine cw_ret ?_
        repeat (first | with_reducible refine thn_r ?_ | with_reducible refine blk_r ?_)
        obtain rfl := Option.some.inj h
        refine fin_ret1 Try.results95 rfl ?_
        exact ⟨_, rfl, v8, o10, rfl, fB⟩
end Go.Proofs.Ytjhajfkfhdnciaa

/- rickyard/block.Seal: its model, and that the Go function computes it: written by gen.py. -/
set_option linter.unusedVariables false
namespace Go.Proofs.Ytjhajfkfhdnciaa
open Go Go.Xw
def block_Seal.f (fu : Nat) (a0 : Int) (a1 : Int) (a2 : List Int) : Option ((List Int) × Bool) := (if (if (decide (a0 < 1)) = true then true else (if (decide (a0 ≥ 256)) = true then true else (if (decide (a1 < 0)) = true then true else (if (decide (a1 ≥ 256)) = true then true else (decide ((List.length a2 : Int) > 56)))))) = true then some ([], false) else (if (4 : Int) < (List.length (List.replicate (Int.toNat 64) (0 : Int)) : Int) then (if (5 : Int) < (List.length (List.set (List.replicate (Int.toNat 64) (0 : Int)) (Int.toNat 4) (IntKind.u8.wrap a0)) : Int) then (if (8 : Int) ≤ (List.length (List.set (List.set (List.replicate (Int.toNat 64) (0 : Int)) (Int.toNat 4) (IntKind.u8.wrap a0)) (Int.toNat 5) (IntKind.u8.wrap a1)) : Int) then (if Int.toNat 8 ≤ List.length (List.set (List.set (List.replicate (Int.toNat 64) (0 : Int)) (Int.toNat 4) (IntKind.u8.wrap a0)) (Int.toNat 5) (IntKind.u8.wrap a1)) ∧ List.length (List.set (List.set (List.replicate (Int.toNat 64) (0 : Int)) (Int.toNat 4) (IntKind.u8.wrap a0)) (Int.toNat 5) (IntKind.u8.wrap a1)) ≤ List.length (List.set (List.set (List.replicate (Int.toNat 64) (0 : Int)) (Int.toNat 4) (IntKind.u8.wrap a0)) (Int.toNat 5) (IntKind.u8.wrap a1)) then (if (4 : Int) ≤ (List.length (splL (List.set (List.set (List.replicate (Int.toNat 64) (0 : Int)) (Int.toNat 4) (IntKind.u8.wrap a0)) (Int.toNat 5) (IntKind.u8.wrap a1)) (Int.toNat 8) (List.take (List.length (List.set (List.set (List.replicate (Int.toNat 64) (0 : Int)) (Int.toNat 4) (IntKind.u8.wrap a0)) (Int.toNat 5) (IntKind.u8.wrap a1)) - Int.toNat 8) a2)) : Int) then ((crc_Sum.f fu [(cut (splL (List.set (List.set (List.replicate (Int.toNat 64) (0 : Int)) (Int.toNat 4) (IntKind.u8.wrap a0)) (Int.toNat 5) (IntKind.u8.wrap a1)) (Int.toNat 8) (List.take (List.length (List.set (List.set (List.replicate (Int.toNat 64) (0 : Int)) (Int.toNat 4) (IntKind.u8.wrap a0)) (Int.toNat 5) (IntKind.u8.wrap a1)) - Int.toNat 8) a2)) 4 (List.length (splL (List.set (List.set (List.replicate (Int.toNat 64) (0 : Int)) (Int.toNat 4) (IntKind.u8.wrap a0)) (Int.toNat 5) (IntKind.u8.wrap a1)) (Int.toNat 8) (List.take (List.length (List.set (List.set (List.replicate (Int.toNat 64) (0 : Int)) (Int.toNat 4) (IntKind.u8.wrap a0)) (Int.toNat 5) (IntKind.u8.wrap a1)) - Int.toNat 8) a2)) : Int))] : Option Int).bind fun t36 => ((octet_Lay.f fu (IntKind.u64.wrap t36) 4 : Option (List Int)).bind fun t40 => some ((splL (splL (List.set (List.set (List.replicate (Int.toNat 64) (0 : Int)) (Int.toNat 4) (IntKind.u8.wrap a0)) (Int.toNat 5) (IntKind.u8.wrap a1)) (Int.toNat 8) (List.take (List.length (List.set (List.set (List.replicate (Int.toNat 64) (0 : Int)) (Int.toNat 4) (IntKind.u8.wrap a0)) (Int.toNat 5) (IntKind.u8.wrap a1)) - Int.toNat 8) a2)) 0 (List.take (List.length (splL (List.set (List.set (List.replicate (Int.toNat 64) (0 : Int)) (Int.toNat 4) (IntKind.u8.wrap a0)) (Int.toNat 5) (IntKind.u8.wrap a1)) (Int.toNat 8) (List.take (List.length (List.set (List.set (List.replicate (Int.toNat 64) (0 : Int)) (Int.toNat 4) (IntKind.u8.wrap a0)) (Int.toNat 5) (IntKind.u8.wrap a1)) - Int.toNat 8) a2))) t40)), true))) else none) else none) else none) else none) else none))
set_option maxRecDepth 100000 in
set_option maxHeartbeats 400000 in
theorem block_Seal.ok (fu : Nat) (w : World) (a0 : Int) (a1 : Int) (a2 : List Int) (V2_0 : Value) (R2_0 : Rd (kI .u8) w V2_0 a2) (r : (List Int) × Bool) (h : block_Seal.f fu a0 a1 a2 = some r) :
    Calls Try.prog 28 (([.int .i64 a0, .int .i64 a1, V2_0] : List Value).toArray) w (fun e w' => ∃ v, e = .returned v ∧ ∃ u1 : Value, ∃ o2 : Own (kI .u8) 5 w' w.heap.size u1 r.1, v = .tuple #[u1, .bool r.2] ∧ Gr w w') := by
  unfold block_Seal.f at h
  have fB : Gr w w := Fr.refl _ _
  refine calls_cw Try.func28 rfl Try.ntmps28 rfl ?_
  refine cw_seq ?_
  refine cw_region ?_
  refine ol_val (v := .slice none 0 0) (by exact xr_assign rfl rfl) rfl rfl rfl ?_
  refine ol_val (v := .bool false) (by exact xr_assign rfl rfl) rfl rfl rfl ?_
  refine ol_nil ?_
  refine cw_seq ?_
  refine cw_seq ?_
  refine cw_mid (fun ρ' w' => ρ' 0 = .int .i64 a0 ∧ ρ' 1 = .int .i64 a1 ∧ ρ' 2 = V2_0 ∧ ρ' 27 = .bool (if (decide (a0 < 1)) = true then true else (if (decide (a0 ≥ 256)) = true then true else (if (decide (a1 < 0)) = true then true else (if (decide (a1 ≥ 256)) = true then true else (decide ((List.length a2 : Int) > 56)))))) ∧ w = w') ?_ ?_
  · skip
    refine cw_region ?_
    refine ol_val (v := .int .i64 a0) (by exact xr_move rfl rfl) rfl rfl rfl ?_
    refine ol_val (v := .bool (decide (a0 < 1))) (by exact xr_lss rfl rfl rfl) rfl rfl rfl ?_
    refine ol_val (v := .bool (decide (a0 < 1))) (by exact xr_move rfl rfl) rfl rfl rfl ?_
    rcases bt (decide (a0 < 1)) with c4 | c4
    · skip
      refine ol_gskip rfl rfl rfl rfl rfl c4 ?_
      refine ol_gskip rfl rfl rfl rfl rfl c4 ?_
      refine ol_val (v := .bool true) (by exact xr_pickT rfl rfl c4 rfl) rfl rfl rfl ?_
      refine ol_val (v := .bool true) (by exact xr_move rfl rfl) rfl rfl rfl ?_
      refine ol_gskip rfl rfl rfl rfl rfl rfl ?_
      refine ol_gskip rfl rfl rfl rfl rfl rfl ?_
      refine ol_val (v := .bool true) (by exact xr_pickT rfl rfl rfl rfl) rfl rfl rfl ?_
      refine ol_val (v := .bool true) (by exact xr_move rfl rfl) rfl rfl rfl ?_
      refine ol_gskip rfl rfl rfl rfl rfl rfl ?_
      refine ol_gskip rfl rfl rfl rfl rfl rfl ?_
      refine ol_val (v := .bool true) (by exact xr_pickT rfl rfl rfl rfl) rfl rfl rfl ?_
      refine ol_val (v := .bool true) (by exact xr_move rfl rfl) rfl rfl rfl ?_
      refine ol_gskip rfl rfl rfl rfl rfl rfl ?_
      refine ol_gskip rfl rfl rfl rfl rfl rfl ?_
      refine ol_gskip rfl rfl rfl rfl rfl rfl ?_
      refine ol_val (v := .bool true) (by exact xr_pickT rfl rfl rfl rfl) rfl rfl rfl ?_
      refine ol_nil ?_
      refine thn_i ?_
      exact ⟨rfl, rfl, rfl, (rfl).trans (congrArg (fun z => (.bool z : Value)) (show true = (if (decide (a0 < 1)) = true then true else (if (decide (a0 ≥ 256)) = true then true else (if (decide (a1 < 0)) = true then true else (if (decide (a1 ≥ 256)) = true then true else (decide ((List.length a2 : Int) > 56)))))) from by rw [ite_t c4])), rfl⟩
    · skip
      refine ol_gval (v := .int .i64 a0) (by exact xr_move rfl rfl) rfl rfl rfl rfl rfl c4 ?_
      refine ol_gval (v := .bool (decide (a0 ≥ 256))) (by exact xr_geq rfl rfl rfl) rfl rfl rfl rfl rfl c4 ?_
      refine ol_val (v := .bool (decide (a0 ≥ 256))) (by exact xr_pickF rfl rfl c4 rfl) rfl rfl rfl ?_
      refine ol_val (v := .bool (decide (a0 ≥ 256))) (by exact xr_move rfl rfl) rfl rfl rfl ?_
      rcases bt (decide (a0 ≥ 256)) with c5 | c5
      · skip
        refine ol_gskip rfl rfl rfl rfl rfl c5 ?_
        refine ol_gskip rfl rfl rfl rfl rfl c5 ?_
        refine ol_val (v := .bool true) (by exact xr_pickT rfl rfl c5 rfl) rfl rfl rfl ?_
        refine ol_val (v := .bool true) (by exact xr_move rfl rfl) rfl rfl rfl ?_
        refine ol_gskip rfl rfl rfl rfl rfl rfl ?_
        refine ol_gskip rfl rfl rfl rfl rfl rfl ?_
        refine ol_val (v := .bool true) (by exact xr_pickT rfl rfl rfl rfl) rfl rfl rfl ?_
        refine ol_val (v := .bool true) (by exact xr_move rfl rfl) rfl rfl rfl ?_
        refine ol_gskip rfl rfl rfl rfl rfl rfl ?_
        refine ol_gskip rfl rfl rfl rfl rfl rfl ?_
        refine ol_gskip rfl rfl rfl rfl rfl rfl ?_
        refine ol_val (v := .bool true) (by exact xr_pickT rfl rfl rfl rfl) rfl rfl rfl ?_
        refine ol_nil ?_
        refine thn_i ?_
        exact ⟨rfl, rfl, rfl, (rfl).trans (congrArg (fun z => (.bool z : Value)) (show true = (if (decide (a0 < 1)) = true then true else (if (decide (a0 ≥ 256)) = true then true else (if (decide (a1 < 0)) = true then true else (if (decide (a1 ≥ 256)) = true then true else (decide ((List.length a2 : Int) > 56)))))) from by rw [ite_f c4, ite_t c5])), rfl⟩
      · skip
        refine ol_gval (v := .int .i64 a1) (by exact xr_move rfl rfl) rfl rfl rfl rfl rfl c5 ?_
        refine ol_gval (v := .bool (decide (a1 < 0))) (by exact xr_lss rfl rfl rfl) rfl rfl rfl rfl rfl c5 ?_
        refine ol_val (v := .bool (decide (a1 < 0))) (by exact xr_pickF rfl rfl c5 rfl) rfl rfl rfl ?_
        refine ol_val (v := .bool (decide (a1 < 0))) (by exact xr_move rfl rfl) rfl rfl rfl ?_
        rcases bt (decide (a1 < 0)) with c6 | c6
        · skip
          refine ol_gskip rfl rfl rfl rfl rfl c6 ?_
          refine ol_gskip rfl rfl rfl rfl rfl c6 ?_
          refine ol_val (v := .bool true) (by exact xr_pickT rfl rfl c6 rfl) rfl rfl rfl ?_
          refine ol_val (v := .bool true) (by exact xr_move rfl rfl) rfl rfl rfl ?_
          refine ol_gskip rfl rfl rfl rfl rfl rfl ?_
          refine ol_gskip rfl rfl rfl rfl rfl rfl ?_
          refine ol_gskip rfl rfl rfl rfl rfl rfl ?_
          refine ol_val (v := .bool true) (by exact xr_pickT rfl rfl rfl rfl) rfl rfl rfl ?_
          refine ol_nil ?_
          refine thn_i ?_
          exact ⟨rfl, rfl, rfl, (rfl).trans (congrArg (fun z => (.bool z : Value)) (show true = (if (decide (a0 < 1)) = true then true else (if (decide (a0 ≥ 256)) = true then true else (if (decide (a1 < 0)) = true then true else (if (decide (a1 ≥ 256)) = true then true else (decide ((List.length a2 : Int) > 56)))))) from by rw [ite_f c4, ite_f c5, ite_t c6])), rfl⟩
        · skip
          refine ol_gval (v := .int .i64 a1) (by exact xr_move rfl rfl) rfl rfl rfl rfl rfl c6 ?_
          refine ol_gval (v := .bool (decide (a1 ≥ 256))) (by exact xr_geq rfl rfl rfl) rfl rfl rfl rfl rfl c6 ?_
          refine ol_val (v := .bool (decide (a1 ≥ 256))) (by exact xr_pickF rfl rfl c6 rfl) rfl rfl rfl ?_
          refine ol_val (v := .bool (decide (a1 ≥ 256))) (by exact xr_move rfl rfl) rfl rfl rfl ?_
          rcases bt (decide (a1 ≥ 256)) with c7 | c7
          · skip
            refine ol_gskip rfl rfl rfl rfl rfl c7 ?_
            refine ol_gskip rfl rfl rfl rfl rfl c7 ?_
            refine ol_gskip rfl rfl rfl rfl rfl c7 ?_
            refine ol_val (v := .bool true) (by exact xr_pickT rfl rfl c7 rfl) rfl rfl rfl ?_
            refine ol_nil ?_
            refine thn_i ?_
            exact ⟨rfl, rfl, rfl, (rfl).trans (congrArg (fun z => (.bool z : Value)) (show true = (if (decide (a0 < 1)) = true then true else (if (decide (a0 ≥ 256)) = true then true else (if (decide (a1 < 0)) = true then true else (if (decide (a1 ≥ 256)) = true then true else (decide ((List.length a2 : Int) > 56)))))) from by rw [ite_f c4, ite_f c5, ite_f c6, ite_t c7])), rfl⟩
          · skip
            refine ol_gval (v := V2_0) (by exact xr_move rfl rfl) rfl rfl rfl rfl rfl c7 ?_
            refine ol_gval (v := .int .i64 (List.length a2 : Int)) (by exact xr_lenR rfl Try.underlying22 rfl (R2_0.gr fB)) rfl rfl rfl rfl rfl c7 ?_
            refine ol_gval (v := .bool (decide ((List.length a2 : Int) > 56))) (by exact xr_gtr rfl rfl rfl) rfl rfl rfl rfl rfl c7 ?_
            refine ol_val (v := .bool (decide ((List.length a2 : Int) > 56))) (by exact xr_pickF rfl rfl c7 rfl) rfl rfl rfl ?_
            refine ol_nil ?_
            refine thn_i ?_
            exact ⟨rfl, rfl, rfl, (rfl).trans (congrArg (fun z => (.bool z : Value)) (show (decide ((List.length a2 : Int) > 56)) = (if (decide (a0 < 1)) = true then true else (if (decide (a0 ≥ 256)) = true then true else (if (decide (a1 < 0)) = true then true else (if (decide (a1 ≥ 256)) = true then true else (decide ((List.length a2 : Int) > 56)))))) from by rw [ite_f c4, ite_f c5, ite_f c6, ite_f c7])), rfl⟩
  · skip
    rintro ρ8 _ ⟨e0, e1, e2, e27, rfl⟩
    rcases is h with ⟨c9, h⟩ | ⟨c9, h⟩
    · refine cw_condT e27 c9 ?_
      refine cw_seq ?_
      refine cw_region ?_
      refine ol_val (v := .slice none 0 0) (by exact xr_assign rfl rfl) rfl rfl rfl ?_
      refine ol_val (v := .bool false) (by exact xr_assign rfl rfl) rfl rfl rfl ?_
      refine ol_nil ?_
      refine cw_ret ?_
      repeat (first | with_reducible refine thn_r ?_ | with_reducible refine blk_r ?_)
      obtain rfl := Option.some.inj h
      refine fin_ret2 Try.results28 rfl rfl ?_
      exact ⟨_, rfl, (.slice none 0 0), Own.nil _ _ _ _, rfl, fB⟩
    · refine cw_condF e27 c9 ?_
      refine cw_skip ?_
      refine cw_seq ?_
      refine cw_region ?_
      refine ol_op (by exact opv_make (K := (kI .u8)) (z := (0 : Int)) rfl Try.underlying22 el5 rfl rfl rfl (by decide) (by decide) rfl fB.size) rfl rfl rfl ?_
      rintro v10 w15 ⟨o12, q11, z13⟩
      have fB := fB.gr q11
      refine ol_val (v := v10) (by exact xr_assign rfl rfl) rfl rfl rfl ?_
      refine ol_nil ?_
      refine cw_seq ?_
      refine cw_region ?_
      refine ol_val (v := v10) (by exact xr_move rfl rfl) rfl rfl rfl ?_
      refine ol_val (v := v10) (by exact xr_move rfl rfl) rfl rfl rfl ?_
      refine ol_val (v := .int .i64 a0) (by exact xr_move rfl e0) rfl rfl rfl ?_
      refine ol_val (v := .int .u8 (IntKind.u8.wrap a0)) (by exact xr_conv rfl Try.underlying3 Try.underlying5 rfl) rfl rfl rfl ?_
      refine ol_val (v := .int .i64 a1) (by exact xr_move rfl e1) rfl rfl rfl ?_
      refine ol_val (v := .int .u8 (IntKind.u8.wrap a1)) (by exact xr_conv rfl Try.underlying3 Try.underlying5 rfl) rfl rfl rfl ?_
      obtain ⟨g16, h⟩ := gs h
      refine ol_val (v := .pointer (some ⟨(sb v10), so v10 + Int.toNat 4 * 1, none⟩)) (by exact xr_indexR (K := (kI .u8)) (v := v10) rfl Try.underlying22 sz5 rfl o12.rd rfl (by decide) g16) rfl rfl rfl ?_
      have f18 := o12.geO
      refine ol_op0 (by exact opv_storeRow (z := (IntKind.u8.wrap a0)) (xs := cellsOf [Seg.cell (.int .u8 (IntKind.u8.wrap a0))]) rfl sz5 rfl rfl rfl (len_cellsOf _) (one_cellsOf _) o12 (by decide) g16 (Spl.whole ((Kd.len _ _).trans (Kd.len _ _).symm)) rfl) rfl rfl ?_
      rintro _ w19 ⟨o12, q17⟩
      have fB := fB.wrO q17 f18
      obtain ⟨g20, h⟩ := gs h
      refine ol_val (v := .pointer (some ⟨(sb v10), so v10 + Int.toNat 5 * 1, none⟩)) (by exact xr_indexR (K := (kI .u8)) (v := v10) rfl Try.underlying22 sz5 rfl o12.rd rfl (by decide) g20) rfl rfl rfl ?_
      have f22 := o12.geO
      refine ol_op0 (by exact opv_storeRow (z := (IntKind.u8.wrap a1)) (xs := cellsOf [Seg.cell (.int .u8 (IntKind.u8.wrap a1))]) rfl sz5 rfl rfl rfl (len_cellsOf _) (one_cellsOf _) o12 (by decide) g20 (Spl.whole ((Kd.len _ _).trans (Kd.len _ _).symm)) rfl) rfl rfl ?_
      rintro _ w23 ⟨o12, q21⟩
      have fB := fB.wrO q21 f22
      refine ol_nil ?_
      refine cw_seq ?_
      refine cw_region ?_
      refine ol_val (v := v10) (by exact xr_move rfl rfl) rfl rfl rfl ?_
      obtain ⟨g25, h⟩ := gs h
      refine ol_val (v := subv 1 v10 (Int.toNat 8) (List.length (List.set (List.set (List.replicate (Int.toNat 64) (0 : Int)) (Int.toNat 4) (IntKind.u8.wrap a0)) (Int.toNat 5) (IntKind.u8.wrap a1)))) (by exact xr_slice_l (K := (kI .u8)) (v := v10) rfl Try.underlying22 sz5 rfl o12.rd rfl (by decide) g25) rfl rfl rfl ?_
      have r24 : Rd (kI .u8) w23 (subv 1 v10 (Int.toNat 8) (List.length (List.set (List.set (List.replicate (Int.toNat 64) (0 : Int)) (Int.toNat 4) (IntKind.u8.wrap a0)) (Int.toNat 5) (IntKind.u8.wrap a1)))) (cut (List.set (List.set (List.replicate (Int.toNat 64) (0 : Int)) (Int.toNat 4) (IntKind.u8.wrap a0)) (Int.toNat 5) (IntKind.u8.wrap a1)) 8 (List.length (List.set (List.set (List.replicate (Int.toNat 64) (0 : Int)) (Int.toNat 4) (IntKind.u8.wrap a0)) (Int.toNat 5) (IntKind.u8.wrap a1)) : Int)) := o12.rd.cut (lo := 8) (hi := (List.length (List.set (List.set (List.replicate (Int.toNat 64) (0 : Int)) (Int.toNat 4) (IntKind.u8.wrap a0)) (Int.toNat 5) (IntKind.u8.wrap a1)) : Int)) (by decide) g25 (Int.le_refl _)
      refine ol_val (v := V2_0) (by exact xr_move rfl e2) rfl rfl rfl ?_
      obtain ⟨g27, h⟩ := gs h
      have f28 := o12.geO
      refine ol_op (by exact opv_copyCut rfl Try.underlying22 sz5 rfl rfl rfl rfl o12 g27.1 g27.2 (R2_0.gr fB)) rfl rfl rfl ?_
      rintro _ w29 ⟨rfl, o12, q26⟩
      have fB := fB.wrO q26 f28
      refine ol_nil ?_
      refine cw_seq ?_
      refine cw_region ?_
      refine ol_val (v := v10) (by exact xr_move rfl rfl) rfl rfl rfl ?_
      refine ol_val (v := v10) (by exact xr_move rfl rfl) rfl rfl rfl ?_
      obtain ⟨g31, h⟩ := gs h
      refine ol_val (v := subv 1 v10 (Int.toNat 4) (List.length (splL (List.set (List.set (List.replicate (Int.toNat 64) (0 : Int)) (Int.toNat 4) (IntKind.u8.wrap a0)) (Int.toNat 5) (IntKind.u8.wrap a1)) (Int.toNat 8) (List.take (List.length (List.set (List.set (List.replicate (Int.toNat 64) (0 : Int)) (Int.toNat 4) (IntKind.u8.wrap a0)) (Int.toNat 5) (IntKind.u8.wrap a1)) - Int.toNat 8) a2)))) (by exact xr_slice_l (K := (kI .u8)) (v := v10) rfl Try.underlying22 sz5 rfl o12.rd rfl (by decide) g31) rfl rfl rfl ?_
      have r30 : Rd (kI .u8) w29 (subv 1 v10 (Int.toNat 4) (List.length (splL (List.set (List.set (List.replicate (Int.toNat 64) (0 : Int)) (Int.toNat 4) (IntKind.u8.wrap a0)) (Int.toNat 5) (IntKind.u8.wrap a1)) (Int.toNat 8) (List.take (List.length (List.set (List.set (List.replicate (Int.toNat 64) (0 : Int)) (Int.toNat 4) (IntKind.u8.wrap a0)) (Int.toNat 5) (IntKind.u8.wrap a1)) - Int.toNat 8) a2)))) (cut (splL (List.set (List.set (List.replicate (Int.toNat 64) (0 : Int)) (Int.toNat 4) (IntKind.u8.wrap a0)) (Int.toNat 5) (IntKind.u8.wrap a1)) (Int.toNat 8) (List.take (List.length (List.set (List.set (List.replicate (Int.toNat 64) (0 : Int)) (Int.toNat 4) (IntKind.u8.wrap a0)) (Int.toNat 5) (IntKind.u8.wrap a1)) - Int.toNat 8) a2)) 4 (List.length (splL (List.set (List.set (List.replicate (Int.toNat 64) (0 : Int)) (Int.toNat 4) (IntKind.u8.wrap a0)) (Int.toNat 5) (IntKind.u8.wrap a1)) (Int.toNat 8) (List.take (List.length (List.set (List.set (List.replicate (Int.toNat 64) (0 : Int)) (Int.toNat 4) (IntKind.u8.wrap a0)) (Int.toNat 5) (IntKind.u8.wrap a1)) - Int.toNat 8) a2)) : Int)) := o12.rd.cut (lo := 4) (hi := (List.length (splL (List.set (List.set (List.replicate (Int.toNat 64) (0 : Int)) (Int.toNat 4) (IntKind.u8.wrap a0)) (Int.toNat 5) (IntKind.u8.wrap a1)) (Int.toNat 8) (List.take (List.length (List.set (List.set (List.replicate (Int.toNat 64) (0 : Int)) (Int.toNat 4) (IntKind.u8.wrap a0)) (Int.toNat 5) (IntKind.u8.wrap a1)) - Int.toNat 8) a2)) : Int)) (by decide) g31 (Int.le_refl _)
      refine ol_op (by exact opv_build1 rfl Try.underlying157 el22 rfl r30 rfl) rfl rfl rfl ?_
      rintro v32 w35 ⟨r34, q33⟩
      have o12 := o12.gr q33
      have fB := fB.gr q33
      obtain ⟨t36, k37, h⟩ := bs h
      refine ol_op (by exact opv_call rfl cal96 (ac rfl an) (crc_Sum.ok fu _ [(cut (splL (List.set (List.set (List.replicate (Int.toNat 64) (0 : Int)) (Int.toNat 4) (IntKind.u8.wrap a0)) (Int.toNat 5) (IntKind.u8.wrap a1)) (Int.toNat 8) (List.take (List.length (List.set (List.set (List.replicate (Int.toNat 64) (0 : Int)) (Int.toNat 4) (IntKind.u8.wrap a0)) (Int.toNat 5) (IntKind.u8.wrap a1)) - Int.toNat 8) a2)) 4 (List.length (splL (List.set (List.set (List.replicate (Int.toNat 64) (0 : Int)) (Int.toNat 4) (IntKind.u8.wrap a0)) (Int.toNat 5) (IntKind.u8.wrap a1)) (Int.toNat 8) (List.take (List.length (List.set (List.set (List.replicate (Int.toNat 64) (0 : Int)) (Int.toNat 4) (IntKind.u8.wrap a0)) (Int.toNat 5) (IntKind.u8.wrap a1)) - Int.toNat 8) a2)) : Int))] v32 (r34) _ k37)) rfl rfl rfl ?_
      rintro _ w39 ⟨rfl, q38⟩
      have o12 := o12.gr q38
      have fB := fB.gr q38
      refine ol_val (v := .int .u64 (IntKind.u64.wrap t36)) (by exact xr_conv rfl Try.underlying36 Try.underlying129 rfl) rfl rfl rfl ?_
      obtain ⟨t40, k41, h⟩ := bs h
      refine ol_op (by exact opv_call rfl cal95 (ac rfl (ac rfl an)) (octet_Lay.ok fu _ (IntKind.u64.wrap t36) 4 _ k41)) rfl rfl rfl ?_
      rintro u42 w46 ⟨_, o43, rfl, q45⟩
      have a47 := OffV.call o12 o43
      have o43 := Own.base o43 fB.size
      have o12 := o12.gr q45
      have fB := fB.gr q45
      have f49 := o12.geO
      refine ol_op (by exact opv_copyRow rfl Try.underlying22 sz5 rfl rfl rfl o12 o43.rd) rfl rfl rfl ?_
      rintro _ w50 ⟨rfl, o12, q48⟩
      have fB := fB.wrO q48 f49
      refine ol_nil ?_
      refine cw_seq ?_
      refine cw_region ?_
      refine ol_val (v := v10) (by exact xr_move rfl rfl) rfl rfl rfl ?_
      refine ol_val (v := v10) (by exact xr_assign rfl rfl) rfl rfl rfl ?_
      refine ol_val (v := .bool true) (by exact xr_assign rfl rfl) rfl rfl rfl ?_
      refine ol_nil ?_
      refine cw_ret ?_
      repeat (first | with_reducible refine thn_r ?_ | with_reducible refine blk_r ?_)
      obtain rfl := Option.some.inj h
      refine fin_ret2 Try.results28 rfl rfl ?_
      exact ⟨_, rfl, v10, o12, rfl, fB⟩
end Go.Proofs.Ytjhajfkfhdnciaa

/- rickyard/octet.Octets: its model, and that the Go function computes it: written by gen.py. -/
set_option linter.unusedVariables false
namespace Go.Proofs.Ytjhajfkfhdnciaa
open Go Go.Xw
def octet_Octets.s0 (fu : Nat) (a0 : List Int) : ((List Int) × Int) → Option (Sum (List Int) ((List Int) × Int)) := fun s4 => (if (decide (s4.2 < (List.length a0 : Int))) = true then (if 0 ≤ s4.2 ∧ s4.2 < (List.length a0 : Int) then ((octet_Lay.f fu (ix a0 s4.2) 8 : Option (List Int)).bind fun t19 => (if List.length s4.1 + List.length t19 ≤ LIM then some (Sum.inr ((s4.1 ++ t19), (IntKind.i64.wrap (s4.2 + 1)))) else none)) else none) else some (Sum.inl (s4.1)))
def octet_Octets.f (fu : Nat) (a0 : List Int) : Option (List Int) := ((loopM (octet_Octets.s0 fu a0) fu ([], 0)).bind fun e5 => some (e5))
set_option maxRecDepth 100000 in
set_option maxHeartbeats 400000 in
theorem octet_Octets.ok (fu : Nat) (w : World) (a0 : List Int) (V0_0 : Value) (R0_0 : Rd (kI .u64) w V0_0 a0) (r : (List Int)) (h : octet_Octets.f fu a0 = some r) :
    Calls Try.prog 104 (([V0_0] : List Value).toArray) w (fun e w' => ∃ v, e = .returned v ∧ ∃ u1 : Value, ∃ o2 : Own (kI .u8) 5 w' w.heap.size u1 r, v = u1 ∧ Gr w w') := by
  unfold octet_Octets.f at h
  have fB : Gr w w := Fr.refl _ _
  refine calls_cw Try.func104 rfl Try.ntmps104 rfl ?_
  refine cw_seq ?_
  refine cw_region ?_
  refine ol_val (v := .slice none 0 0) (by exact xr_assign rfl rfl) rfl rfl rfl ?_
  refine ol_nil ?_
  refine cw_seq ?_
  refine cw_region ?_
  refine ol_val (v := .slice none 0 0) (by exact xr_assign rfl rfl) rfl rfl rfl ?_
  refine ol_nil ?_
  refine cw_seq ?_
  refine cw_seq ?_
  refine cw_region ?_
  refine ol_val (v := V0_0) (by exact xr_move rfl rfl) rfl rfl rfl ?_
  refine ol_val (v := .int .i64 (List.length a0 : Int)) (by exact xr_lenR rfl Try.underlying168 rfl (R0_0.gr fB)) rfl rfl rfl ?_
  refine ol_val (v := .int .i64 0) (by exact xr_move rfl rfl) rfl rfl rfl ?_
  refine ol_nil ?_
  obtain ⟨e5, l6, h7⟩ := bs h
  refine cw_mid (fun ρ' w' => ∃ v8 : Value, ∃ o9 : Own (kI .u8) 5 w' w.heap.size v8 e5, ρ' 3 = v8 ∧ Gr w w') ?_ ?_
  · refine cw_block ?_
    refine cw_round (fun (s4 : (List Int) × Int) ρ' w' => ∃ v11 : Value, ∃ o12 : Own (kI .u8) 5 w' w.heap.size v11 s4.1, ρ' 3 = v11 ∧ ρ' 6 = V0_0 ∧ ρ' 7 = .int .i64 (List.length a0 : Int) ∧ ρ' 8 = .int .i64 s4.2 ∧ Gr w w') l6 ?_ ?_
    · skip
      exact ⟨(.slice none 0 0), Own.nil _ _ _ _, rfl, rfl, rfl, rfl, fB⟩
    · rintro s4 x16 ρ14 w15 ⟨v11, o12, e3, e6, e7, e8, fB⟩ h
      unfold octet_Octets.s0 at h
      refine cw_seq ?_
      refine cw_region ?_
      refine ol_val (v := .bool (decide (s4.2 < (List.length a0 : Int)))) (by exact xr_lss rfl e8 e7) rfl rfl rfl ?_
      refine ol_nil ?_
      refine cw_seq ?_
      rcases is h with ⟨c17, h⟩ | ⟨c17, h⟩
      · refine cw_condT rfl c17 ?_
        refine cw_skip ?_
        refine cw_seq ?_
        refine cw_block ?_
        refine cw_seq ?_
        refine cw_region ?_
        obtain ⟨g18, h⟩ := gs h
        refine ol_val (v := .pointer (some ⟨(sb V0_0), so V0_0 + Int.toNat s4.2 * 1, none⟩)) (by exact xr_indexR (K := (kI .u64)) (v := V0_0) rfl Try.underlying168 sz129 e6 (R0_0.gr fB) e8 g18.1 g18.2) rfl rfl rfl ?_
        refine ol_val (v := .int .u64 (ix a0 s4.2)) (by exact xr_load1 (v := .int .u64 (ix a0 s4.2)) rfl ag129 rfl ((R0_0.gr fB).elem g18.1 g18.2)) rfl rfl rfl ?_
        refine ol_val (v := .int .u64 (ix a0 s4.2)) (by exact xr_assign rfl rfl) rfl rfl rfl ?_
        refine ol_nil ?_
        refine cw_region ?_
        refine ol_val (v := v11) (by exact xr_move rfl e3) rfl rfl rfl ?_
        refine ol_val (v := .int .u64 (ix a0 s4.2)) (by exact xr_move rfl rfl) rfl rfl rfl ?_
        obtain ⟨t19, k20, h⟩ := bs h
        refine ol_op (by exact opv_call rfl cal95 (ac rfl (ac rfl an)) (octet_Lay.ok fu _ (ix a0 s4.2) 8 _ k20)) rfl rfl rfl ?_
        rintro u21 w25 ⟨_, o22, rfl, q24⟩
        have a26 := OffV.call o12 o22
        have o22 := Own.base o22 fB.size
        have o12 := o12.gr q24
        have fB := fB.gr q24
        obtain ⟨g31, h⟩ := gs h
        have f33 := o12.geO
        refine ol_op (by exact opv_append (K := (kI .u8)) rfl Try.underlying22 el5 rfl rfl rfl rfl rfl o12 o22.rd g31 fB.size) rfl rfl rfl ?_
        rintro v27 w34 ⟨o28, q29, n30⟩
        have fB := fB.wrO q29 f33
        refine ol_val (v := v27) (by exact xr_assign rfl rfl) rfl rfl rfl ?_
        refine ol_nil ?_
        refine blk_i ?_
        refine cw_region ?_
        refine ol_val (v := .int .i64 (IntKind.i64.wrap (s4.2 + 1))) (by exact xr_add rfl e8 rfl) rfl rfl rfl ?_
        refine ol_val (v := .int .i64 (IntKind.i64.wrap (s4.2 + 1))) (by exact xr_move rfl rfl) rfl rfl rfl ?_
        refine ol_nil ?_
        obtain rfl := Option.some.inj h
        refine lp_in ?_
        exact ⟨v27, o28, rfl, e6, e7, rfl, fB⟩
      · refine cw_condF rfl c17 ?_
        refine cw_exit ?_
        repeat (first | with_reducible refine thn_e ?_ | with_reducible refine blk_e rfl ?_)
        obtain rfl := Option.some.inj h
        refine lp_exit ?_
        rintro rfl
        refine thn_x ?_
        exact ⟨v11, o12, e3, fB⟩
  · rintro ρ35 w36 ⟨v8, o9, e3, fB⟩
    have h := h7
    refine cw_seq ?_
    refine cw_region ?_
    refine ol_val (v := v8) (by exact xr_move rfl e3) rfl rfl rfl ?_
    refine ol_val (v := v8) (by exact xr_assign rfl rfl) rfl rfl rfl ?_
    refine ol_nil ?_
    refine cw_ret ?_
    repeat (first | with_reducible refine thn_r ?_ | with_reducible refine blk_r ?_)
    obtain rfl := Option.some.inj h
    refine fin_ret1 Try.results104 rfl ?_
    exact ⟨_, rfl, v8, o9, rfl, fB⟩
end Go.Proofs.Ytjhajfkfhdnciaa

/- rickyard/node.Put: its model, and that the Go function computes it: written by gen.py. -/
set_option linter.unusedVariables false
namespace Go.Proofs.Ytjhajfkfhdnciaa
open Go Go.Xw
def node_Put.s0 (fu : Nat) (a0 : S_api_Node) : ((List Int) × Int) → Option (Sum (List Int) ((List Int) × Int)) := fun s72 => (if (decide (s72.2 < (List.length a0.Kids : Int))) = true then (if 0 ≤ s72.2 ∧ s72.2 < (List.length a0.Kids : Int) then ((octet_Lay.f fu (IntKind.u64.wrap (ix a0.Kids s72.2)) 2 : Option (List Int)).bind fun t87 => (if List.length s72.1 + List.length t87 ≤ LIM then some (Sum.inr ((s72.1 ++ t87), (IntKind.i64.wrap (s72.2 + 1)))) else none)) else none) else some (Sum.inl (s72.1)))
def node_Put.f (fu : Nat) (a0 : S_api_Node) : Option ((List Int) × Bool) := ((node_Right.f fu a0 : Option Bool).bind fun t10 => (if (!t10) = true then some ([], false) else ((octet_Octets.f fu [(IntKind.u64.wrap a0.Entry.Key), (IntKind.u64.wrap a0.Entry.Value)] : Option (List Int)).bind fun t30 => ((octet_Lay.f fu (IntKind.u64.wrap a0.Entry.Handle.Slot) 4 : Option (List Int)).bind fun t37 => (if List.length t30 + List.length t37 ≤ LIM then ((octet_Lay.f fu (IntKind.u64.wrap a0.Entry.Handle.Gen) 4 : Option (List Int)).bind fun t55 => (if List.length (t30 ++ t37) + List.length t55 ≤ LIM then ((loopM (node_Put.s0 fu a0) fu (((t30 ++ t37) ++ t55), 0)).bind fun e73 => ((block_Seal.f fu 1 (List.length a0.Kids : Int) e73 : Option ((List Int) × Bool)).bind fun t106 => some (t106.1, t106.2))) else none)) else none)))))
set_option maxRecDepth 100000 in
set_option maxHeartbeats 400000 in
theorem node_Put.ok (fu : Nat) (w : World) (a0 : S_api_Node) (V0_0 : Value) (R0_0 : Rd (kI .i64) w V0_0 a0.Kids) (r : (List Int) × Bool) (h : node_Put.f fu a0 = some r) :
    Calls Try.prog 39 (([aggV [Seg.cell (.int .i64 a0.Entry.Handle.Slot), Seg.cell (.int .i64 a0.Entry.Handle.Gen), Seg.cell (.int .i64 a0.Entry.Key), Seg.cell (.int .i64 a0.Entry.Value), Seg.cell V0_0 R0_0.one]] : List Value).toArray) w (fun e w' => ∃ v, e = .returned v ∧ ∃ u1 : Value, ∃ o2 : Own (kI .u8) 5 w' w.heap.size u1 r.1, v = .tuple #[u1, .bool r.2] ∧ Gr w w') := by
  unfold node_Put.f at h
  have fB : Gr w w := Fr.refl _ _
  refine calls_cw Try.func39 rfl Try.ntmps39 rfl ?_
  refine cw_seq ?_
  refine cw_region ?_
  refine ol_op (by exact opv_box (ss := [Seg.cell (.int .i64 a0.Entry.Handle.Slot), Seg.cell (.int .i64 a0.Entry.Handle.Gen), Seg.cell (.int .i64 a0.Entry.Key), Seg.cell (.int .i64 a0.Entry.Value), Seg.cell V0_0 R0_0.one]) rfl rfl rfl) rfl rfl rfl ?_
  rintro _ w9 ⟨G4, rfl, b5, q6, z7⟩
  have z7 := Nat.le_trans fB.size z7
  have fB := fB.gr q6
  refine ol_val (v := .slice none 0 0) (by exact xr_assign rfl rfl) rfl rfl rfl ?_
  refine ol_val (v := .bool false) (by exact xr_assign rfl rfl) rfl rfl rfl ?_
  refine ol_nil ?_
  refine cw_seq ?_
  refine cw_seq ?_
  refine cw_region ?_
  refine ol_val (v := aggV [Seg.cell (.int .i64 a0.Entry.Handle.Slot), Seg.cell (.int .i64 a0.Entry.Handle.Gen), Seg.cell (.int .i64 a0.Entry.Key), Seg.cell (.int .i64 a0.Entry.Value), Seg.cell V0_0 R0_0.one]) (by exact xr_loadS (ss := [Seg.cell (.int .i64 a0.Entry.Handle.Slot), Seg.cell (.int .i64 a0.Entry.Handle.Gen), Seg.cell (.int .i64 a0.Entry.Key), Seg.cell (.int .i64 a0.Entry.Value), Seg.cell V0_0 R0_0.one]) rfl ag47 sz47 rfl rfl (b5.segs 0 5 rfl)) rfl rfl rfl ?_
  obtain ⟨t10, k11, h⟩ := bs h
  refine ol_op (by exact opv_call rfl cal43 (ac rfl an) (node_Right.ok fu _ a0 V0_0 (R0_0.gr fB) _ k11)) rfl rfl rfl ?_
  rintro _ w13 ⟨rfl, q12⟩
  have b5 := b5.gr q12
  have fB := fB.gr q12
  refine ol_val (v := .bool (!t10)) (by exact xr_not rfl rfl) rfl rfl rfl ?_
  refine ol_nil ?_
  rcases is h with ⟨c14, h⟩ | ⟨c14, h⟩
  · refine cw_condT rfl c14 ?_
    refine cw_seq ?_
    refine cw_region ?_
    refine ol_val (v := .slice none 0 0) (by exact xr_assign rfl rfl) rfl rfl rfl ?_
    refine ol_val (v := .bool false) (by exact xr_assign rfl rfl) rfl rfl rfl ?_
    refine ol_nil ?_
    refine cw_ret ?_
    repeat (first | with_reducible refine thn_r ?_ | with_reducible refine blk_r ?_)
    obtain rfl := Option.some.inj h
    refine fin_ret2 Try.results39 rfl rfl ?_
    exact ⟨_, rfl, (.slice none 0 0), Own.nil _ _ _ _, rfl, fB⟩
  · refine cw_condF rfl c14 ?_
    refine cw_skip ?_
    refine cw_seq ?_
    refine cw_region ?_
    refine ol_val (v := .pointer (some ⟨G4, 0, none⟩)) (by exact xr_fieldAddr (p := 0) (q := 0) rfl fl47_0 rfl) rfl rfl rfl ?_
    refine ol_val (v := aggV [Seg.cell (.int .i64 a0.Entry.Handle.Slot), Seg.cell (.int .i64 a0.Entry.Handle.Gen), Seg.cell (.int .i64 a0.Entry.Key), Seg.cell (.int .i64 a0.Entry.Value)]) (by exact xr_loadS (ss := [Seg.cell (.int .i64 a0.Entry.Handle.Slot), Seg.cell (.int .i64 a0.Entry.Handle.Gen), Seg.cell (.int .i64 a0.Entry.Key), Seg.cell (.int .i64 a0.Entry.Value)]) rfl ag44 sz44 rfl rfl (b5.segs 0 4 rfl)) rfl rfl rfl ?_
    refine ol_op (by exact opv_alloc (ss := [Seg.cell (.int .i64 (0 : Int)), Seg.cell (.int .i64 (0 : Int)), Seg.cell (.int .i64 (0 : Int)), Seg.cell (.int .i64 (0 : Int))]) rfl ze44 rfl) rfl rfl rfl ?_
    rintro _ w20 ⟨G15, rfl, b16, q17, z18⟩
    have n21 := Blk.ne b5 z18
    have z18 := Nat.le_trans fB.size z18
    have b5 := b5.gr q17
    have fB := fB.gr q17
    refine ol_op0 (by exact opv_store (ss' := [Seg.cell (.int .i64 a0.Entry.Handle.Slot), Seg.cell (.int .i64 a0.Entry.Handle.Gen), Seg.cell (.int .i64 a0.Entry.Key), Seg.cell (.int .i64 a0.Entry.Value)]) (xs := cellsOf [Seg.cell (.int .i64 a0.Entry.Handle.Slot), Seg.cell (.int .i64 a0.Entry.Handle.Gen), Seg.cell (.int .i64 a0.Entry.Key), Seg.cell (.int .i64 a0.Entry.Value)]) rfl sz44 rfl rfl rfl (len_cellsOf _) (one_cellsOf _) b16 (Spl.segs _ 0 4 [Seg.cell (.int .i64 a0.Entry.Handle.Slot), Seg.cell (.int .i64 a0.Entry.Handle.Gen), Seg.cell (.int .i64 a0.Entry.Key), Seg.cell (.int .i64 a0.Entry.Value)] rfl rfl)) rfl rfl ?_
    rintro _ w23 ⟨b16, q22⟩
    have b5 := b5.wr q22 n21
    have fB := fB.wr q22 z18
    refine ol_nil ?_
    refine cw_seq ?_
    refine cw_region ?_
    refine ol_val (v := .pointer (some ⟨G15, 2, none⟩)) (by exact xr_fieldAddr (p := 0) (q := 2) rfl fl44_1 rfl) rfl rfl rfl ?_
    refine ol_val (v := .int .i64 a0.Entry.Key) (by exact xr_load1 (v := .int .i64 a0.Entry.Key) rfl ag3 rfl (b16.seg 2 rfl rfl)) rfl rfl rfl ?_
    refine ol_val (v := .int .u64 (IntKind.u64.wrap a0.Entry.Key)) (by exact xr_conv rfl Try.underlying3 Try.underlying129 rfl) rfl rfl rfl ?_
    refine ol_val (v := .pointer (some ⟨G15, 3, none⟩)) (by exact xr_fieldAddr (p := 0) (q := 3) rfl fl44_2 rfl) rfl rfl rfl ?_
    refine ol_val (v := .int .i64 a0.Entry.Value) (by exact xr_load1 (v := .int .i64 a0.Entry.Value) rfl ag3 rfl (b16.seg 3 rfl rfl)) rfl rfl rfl ?_
    refine ol_val (v := .int .u64 (IntKind.u64.wrap a0.Entry.Value)) (by exact xr_conv rfl Try.underlying3 Try.underlying129 rfl) rfl rfl rfl ?_
    refine ol_op (by exact opv_buildSlice (K := (kI .u64)) (xs := [(IntKind.u64.wrap a0.Entry.Key), (IntKind.u64.wrap a0.Entry.Value)]) (vals := [.int .u64 (IntKind.u64.wrap a0.Entry.Key), .int .u64 (IntKind.u64.wrap a0.Entry.Value)]) rfl Try.underlying168 el129 rfl rfl ⟨rfl, rfl, ⟨rfl, rfl, trivial⟩⟩ rfl rfl rfl fB.size) rfl rfl rfl ?_
    rintro v24 w29 ⟨o26, q25, z27⟩
    have b5 := b5.gr q25
    have b16 := b16.gr q25
    have fB := fB.gr q25
    obtain ⟨t30, k31, h⟩ := bs h
    refine ol_op (by exact opv_call rfl cal104 (ac rfl an) (octet_Octets.ok fu _ [(IntKind.u64.wrap a0.Entry.Key), (IntKind.u64.wrap a0.Entry.Value)] v24 (o26.rd) _ k31)) rfl rfl rfl ?_
    rintro u32 w36 ⟨_, o33, rfl, q35⟩
    have o33 := Own.base o33 fB.size
    have b5 := b5.gr q35
    have b16 := b16.gr q35
    have fB := fB.gr q35
    refine ol_val (v := u32) (by exact xr_assign rfl rfl) rfl rfl rfl ?_
    refine ol_nil ?_
    refine cw_seq ?_
    refine cw_region ?_
    refine ol_val (v := u32) (by exact xr_move rfl rfl) rfl rfl rfl ?_
    refine ol_val (v := .pointer (some ⟨G15, 0, none⟩)) (by exact xr_fieldAddr (p := 0) (q := 0) rfl fl44_0 rfl) rfl rfl rfl ?_
    refine ol_val (v := .pointer (some ⟨G15, 0, none⟩)) (by exact xr_fieldAddr (p := 0) (q := 0) rfl fl42_0 rfl) rfl rfl rfl ?_
    refine ol_val (v := .int .i64 a0.Entry.Handle.Slot) (by exact xr_load1 (v := .int .i64 a0.Entry.Handle.Slot) rfl ag3 rfl (b16.seg 0 rfl rfl)) rfl rfl rfl ?_
    refine ol_val (v := .int .u64 (IntKind.u64.wrap a0.Entry.Handle.Slot)) (by exact xr_conv rfl Try.underlying3 Try.underlying129 rfl) rfl rfl rfl ?_
    obtain ⟨t37, k38, h⟩ := bs h
    refine ol_op (by exact opv_call rfl cal95 (ac rfl (ac rfl an)) (octet_Lay.ok fu _ (IntKind.u64.wrap a0.Entry.Handle.Slot) 4 _ k38)) rfl rfl rfl ?_
    rintro u39 w43 ⟨_, o40, rfl, q42⟩
    have a44 := OffV.call o33 o40
    have o40 := Own.base o40 fB.size
    have b5 := b5.gr q42
    have b16 := b16.gr q42
    have o33 := o33.gr q42
    have fB := fB.gr q42
    obtain ⟨g49, h⟩ := gs h
    have f51 := off_ty b5 o33 (by decide)
    have f52 := off_ty b16 o33 (by decide)
    have f53 := o33.geO
    refine ol_op (by exact opv_append (K := (kI .u8)) rfl Try.underlying22 el5 rfl rfl rfl rfl rfl o33 o40.rd g49 fB.size) rfl rfl rfl ?_
    rintro v45 w54 ⟨o46, q47, n48⟩
    have b5 := b5.wrO q47 f51
    have b16 := b16.wrO q47 f52
    have fB := fB.wrO q47 f53
    refine ol_val (v := v45) (by exact xr_assign rfl rfl) rfl rfl rfl ?_
    refine ol_nil ?_
    refine cw_seq ?_
    refine cw_region ?_
    refine ol_val (v := v45) (by exact xr_move rfl rfl) rfl rfl rfl ?_
    refine ol_val (v := .pointer (some ⟨G15, 0, none⟩)) (by exact xr_fieldAddr (p := 0) (q := 0) rfl fl44_0 rfl) rfl rfl rfl ?_
    refine ol_val (v := .pointer (some ⟨G15, 1, none⟩)) (by exact xr_fieldAddr (p := 0) (q := 1) rfl fl42_1 rfl) rfl rfl rfl ?_
    refine ol_val (v := .int .i64 a0.Entry.Handle.Gen) (by exact xr_load1 (v := .int .i64 a0.Entry.Handle.Gen) rfl ag3 rfl (b16.seg 1 rfl rfl)) rfl rfl rfl ?_
    refine ol_val (v := .int .u64 (IntKind.u64.wrap a0.Entry.Handle.Gen)) (by exact xr_conv rfl Try.underlying3 Try.underlying129 rfl) rfl rfl rfl ?_
    obtain ⟨t55, k56, h⟩ := bs h
    refine ol_op (by exact opv_call rfl cal95 (ac rfl (ac rfl an)) (octet_Lay.ok fu _ (IntKind.u64.wrap a0.Entry.Handle.Gen) 4 _ k56)) rfl rfl rfl ?_
    rintro u57 w61 ⟨_, o58, rfl, q60⟩
    have a62 := OffV.call o46 o58
    have o58 := Own.base o58 fB.size
    have b5 := b5.gr q60
    have o46 := o46.gr q60
    have fB := fB.gr q60
    obtain ⟨g67, h⟩ := gs h
    have f69 := off_ty b5 o46 (by decide)
    have f70 := o46.geO
    refine ol_op (by exact opv_append (K := (kI .u8)) rfl Try.underlying22 el5 rfl rfl rfl rfl rfl o46 o58.rd g67 fB.size) rfl rfl rfl ?_
    rintro v63 w71 ⟨o64, q65, n66⟩
    have b5 := b5.wrO q65 f69
    have fB := fB.wrO q65 f70
    refine ol_val (v := v63) (by exact xr_assign rfl rfl) rfl rfl rfl ?_
    refine ol_nil ?_
    refine cw_seq ?_
    refine cw_seq ?_
    refine cw_region ?_
    refine ol_val (v := .pointer (some ⟨G4, 4, none⟩)) (by exact xr_fieldAddr (p := 0) (q := 4) rfl fl47_1 rfl) rfl rfl rfl ?_
    refine ol_val (v := V0_0) (by exact xr_load1 (v := V0_0) rfl ag45 rfl (b5.seg 4 rfl rfl)) rfl rfl rfl ?_
    refine ol_val (v := .int .i64 (List.length a0.Kids : Int)) (by exact xr_lenR rfl Try.underlying45 rfl (R0_0.gr fB)) rfl rfl rfl ?_
    refine ol_val (v := .int .i64 0) (by exact xr_move rfl rfl) rfl rfl rfl ?_
    refine ol_nil ?_
    obtain ⟨e73, l74, h75⟩ := bs h
    refine cw_mid (fun ρ' w' => ∃ v76 : Value, ∃ o77 : Own (kI .u8) 5 w' w.heap.size v76 e73, ρ' 1 = .pointer (some ⟨G4, 0, none⟩) ∧ ρ' 5 = v76 ∧ Blk w' G4 47 [Seg.cell (.int .i64 a0.Entry.Handle.Slot), Seg.cell (.int .i64 a0.Entry.Handle.Gen), Seg.cell (.int .i64 a0.Entry.Key), Seg.cell (.int .i64 a0.Entry.Value), Seg.cell V0_0 R0_0.one] ∧ Gr w w') ?_ ?_
    · refine cw_block ?_
      refine cw_round (fun (s72 : (List Int) × Int) ρ' w' => ∃ v79 : Value, ∃ o80 : Own (kI .u8) 5 w' w.heap.size v79 s72.1, ρ' 1 = .pointer (some ⟨G4, 0, none⟩) ∧ ρ' 5 = v79 ∧ ρ' 36 = V0_0 ∧ ρ' 37 = .int .i64 (List.length a0.Kids : Int) ∧ ρ' 38 = .int .i64 s72.2 ∧ Blk w' G4 47 [Seg.cell (.int .i64 a0.Entry.Handle.Slot), Seg.cell (.int .i64 a0.Entry.Handle.Gen), Seg.cell (.int .i64 a0.Entry.Key), Seg.cell (.int .i64 a0.Entry.Value), Seg.cell V0_0 R0_0.one] ∧ Gr w w') l74 ?_ ?_
      · skip
        exact ⟨v63, o64, rfl, rfl, rfl, rfl, rfl, b5, fB⟩
      · rintro s72 x84 ρ82 w83 ⟨v79, o80, e1, e5, e36, e37, e38, b5, fB⟩ h
        unfold node_Put.s0 at h
        refine cw_seq ?_
        refine cw_region ?_
        refine ol_val (v := .bool (decide (s72.2 < (List.length a0.Kids : Int)))) (by exact xr_lss rfl e38 e37) rfl rfl rfl ?_
        refine ol_nil ?_
        refine cw_seq ?_
        rcases is h with ⟨c85, h⟩ | ⟨c85, h⟩
        · refine cw_condT rfl c85 ?_
          refine cw_skip ?_
          refine cw_seq ?_
          refine cw_block ?_
          refine cw_seq ?_
          refine cw_region ?_
          obtain ⟨g86, h⟩ := gs h
          refine ol_val (v := .pointer (some ⟨(sb V0_0), so V0_0 + Int.toNat s72.2 * 1, none⟩)) (by exact xr_indexR (K := (kI .i64)) (v := V0_0) rfl Try.underlying45 sz3 e36 (R0_0.gr fB) e38 g86.1 g86.2) rfl rfl rfl ?_
          refine ol_val (v := .int .i64 (ix a0.Kids s72.2)) (by exact xr_load1 (v := .int .i64 (ix a0.Kids s72.2)) rfl ag3 rfl ((R0_0.gr fB).elem g86.1 g86.2)) rfl rfl rfl ?_
          refine ol_val (v := .int .i64 (ix a0.Kids s72.2)) (by exact xr_assign rfl rfl) rfl rfl rfl ?_
          refine ol_nil ?_
          refine cw_region ?_
          refine ol_val (v := v79) (by exact xr_move rfl e5) rfl rfl rfl ?_
          refine ol_val (v := .int .i64 (ix a0.Kids s72.2)) (by exact xr_move rfl rfl) rfl rfl rfl ?_
          refine ol_val (v := .int .u64 (IntKind.u64.wrap (ix a0.Kids s72.2))) (by exact xr_conv rfl Try.underlying3 Try.underlying129 rfl) rfl rfl rfl ?_
          obtain ⟨t87, k88, h⟩ := bs h
          refine ol_op (by exact opv_call rfl cal95 (ac rfl (ac rfl an)) (octet_Lay.ok fu _ (IntKind.u64.wrap (ix a0.Kids s72.2)) 2 _ k88)) rfl rfl rfl ?_
          rintro u89 w93 ⟨_, o90, rfl, q92⟩
          have a94 := OffV.call o80 o90
          have o90 := Own.base o90 fB.size
          have b5 := b5.gr q92
          have o80 := o80.gr q92
          have fB := fB.gr q92
          obtain ⟨g99, h⟩ := gs h
          have f101 := off_ty b5 o80 (by decide)
          have f102 := o80.geO
          refine ol_op (by exact opv_append (K := (kI .u8)) rfl Try.underlying22 el5 rfl rfl rfl rfl rfl o80 o90.rd g99 fB.size) rfl rfl rfl ?_
          rintro v95 w103 ⟨o96, q97, n98⟩
          have b5 := b5.wrO q97 f101
          have fB := fB.wrO q97 f102
          refine ol_val (v := v95) (by exact xr_assign rfl rfl) rfl rfl rfl ?_
          refine ol_nil ?_
          refine blk_i ?_
          refine cw_region ?_
          refine ol_val (v := .int .i64 (IntKind.i64.wrap (s72.2 + 1))) (by exact xr_add rfl e38 rfl) rfl rfl rfl ?_
          refine ol_val (v := .int .i64 (IntKind.i64.wrap (s72.2 + 1))) (by exact xr_move rfl rfl) rfl rfl rfl ?_
          refine ol_nil ?_
          obtain rfl := Option.some.inj h
          refine lp_in ?_
          exact ⟨v95, o96, e1, rfl, e36, e37, rfl, b5, fB⟩
        · refine cw_condF rfl c85 ?_
          refine cw_exit ?_
          repeat (first | with_reducible refine thn_e ?_ | with_reducible refine blk_e rfl ?_)
          obtain rfl := Option.some.inj h
          refine lp_exit ?_
          rintro rfl
          refine thn_x ?_
          exact ⟨v79, o80, e1, e5, b5, fB⟩
    · rintro ρ104 w105 ⟨v76, o77, e1, e5, b5, fB⟩
      have h := h75
      refine cw_seq ?_
      refine cw_region ?_
      refine ol_val (v := .pointer (some ⟨G4, 4, none⟩)) (by exact xr_fieldAddr (p := 0) (q := 4) rfl fl47_1 e1) rfl rfl rfl ?_
      refine ol_val (v := V0_0) (by exact xr_load1 (v := V0_0) rfl ag45 rfl (b5.seg 4 rfl rfl)) rfl rfl rfl ?_
      refine ol_val (v := .int .i64 (List.length a0.Kids : Int)) (by exact xr_lenR rfl Try.underlying45 rfl (R0_0.gr fB)) rfl rfl rfl ?_
      refine ol_val (v := v76) (by exact xr_move rfl e5) rfl rfl rfl ?_
      obtain ⟨t106, k107, h⟩ := bs h
      refine ol_op (by exact opv_call rfl cal28 (ac rfl (ac rfl (ac rfl an))) (block_Seal.ok fu _ 1 (List.length a0.Kids : Int) e73 v76 (o77.rd) _ k107)) rfl rfl rfl ?_
      rintro _ w112 ⟨u108, o109, rfl, q111⟩
      have o109 := Own.base o109 fB.size
      have fB := fB.gr q111
      refine ol_val (v := u108) (by exact xr_extract rfl rfl rfl) rfl rfl rfl ?_
      refine ol_val (v := .bool t106.2) (by exact xr_extract rfl rfl rfl) rfl rfl rfl ?_
      refine ol_val (v := u108) (by exact xr_assign rfl rfl) rfl rfl rfl ?_
      refine ol_val (v := .bool t106.2) (by exact xr_assign rfl rfl) rfl rfl rfl ?_
      refine ol_nil ?_
      refine cw_ret ?_
      repeat (first | with_reducible refine thn_r ?_ | with_reducible refine blk_r ?_)
      obtain rfl := Option.some.inj h
      refine fin_ret2 Try.results39 rfl rfl ?_
      exact ⟨_, rfl, u108, o109, rfl, fB⟩
end Go.Proofs.Ytjhajfkfhdnciaa

/- cmp.Or[int]: its model, and that the Go function computes it: written by gen.py. -/
set_option linter.unusedVariables false
namespace Go.Proofs.Ytjhajfkfhdnciaa
open Go Go.Xw
def cmp_Or.s0 (fu : Nat) (a0 : List Int) : Int → Option (Sum (Sum Int Unit) Int) := fun s1 => (if (decide (s1 < (List.length a0 : Int))) = true then (if 0 ≤ s1 ∧ s1 < (List.length a0 : Int) then (if (!decide ((ix a0 s1) = 0)) = true then some (Sum.inl (Sum.inl ((ix a0 s1)))) else some (Sum.inr ((IntKind.i64.wrap (s1 + 1))))) else none) else some (Sum.inl (Sum.inr ())))
def cmp_Or.f (fu : Nat) (a0 : List Int) : Option Int := ((loopM (cmp_Or.s0 fu a0) fu (0)).bind fun e2 => match e2 with | Sum.inl p => some p | Sum.inr x5 => some (0))
set_option maxRecDepth 100000 in
set_option maxHeartbeats 400000 in
theorem cmp_Or.ok (fu : Nat) (w : World) (a0 : List Int) (V0_0 : Value) (R0_0 : Rd (kI .i64) w V0_0 a0) (r : Int) (h : cmp_Or.f fu a0 = some r) :
    Calls Try.prog 105 (([V0_0] : List Value).toArray) w (fun e w' => ∃ v, e = .returned v ∧ v = .int .i64 r ∧ Gr w w') := by
  unfold cmp_Or.f at h
  have fB : Gr w w := Fr.refl _ _
  refine calls_cw Try.func105 rfl Try.ntmps105 rfl ?_
  refine cw_seq ?_
  refine cw_region ?_
  refine ol_val (v := .int .i64 0) (by exact xr_assign rfl rfl) rfl rfl rfl ?_
  refine ol_nil ?_
  refine cw_seq ?_
  refine cw_region ?_
  refine ol_val (v := .int .i64 0) (by exact xr_assign rfl rfl) rfl rfl rfl ?_
  refine ol_nil ?_
  refine cw_seq ?_
  refine cw_seq ?_
  refine cw_region ?_
  refine ol_val (v := V0_0) (by exact xr_move rfl rfl) rfl rfl rfl ?_
  refine ol_val (v := .int .i64 (List.length a0 : Int)) (by exact xr_lenR rfl Try.underlying45 rfl (R0_0.gr fB)) rfl rfl rfl ?_
  refine ol_val (v := .int .i64 0) (by exact xr_move rfl rfl) rfl rfl rfl ?_
  refine ol_nil ?_
  obtain ⟨e2, l3, h4⟩ := bs h
  refine cw_mid (fun ρ' w' => ∃ x5, e2 = Sum.inr x5 ∧ ρ' 3 = .int .i64 0 ∧ Gr w w') ?_ ?_
  · refine cw_block ?_
    refine cw_round (fun (s1 : Int) ρ' w' => ρ' 3 = .int .i64 0 ∧ ρ' 6 = V0_0 ∧ ρ' 7 = .int .i64 (List.length a0 : Int) ∧ ρ' 8 = .int .i64 s1 ∧ Gr w w') l3 ?_ ?_
    · skip
      exact ⟨rfl, rfl, rfl, rfl, fB⟩
    · rintro s1 x8 ρ6 w7 ⟨e3, e6, e7, e8, fB⟩ h
      unfold cmp_Or.s0 at h
      refine cw_seq ?_
      refine cw_region ?_
      refine ol_val (v := .bool (decide (s1 < (List.length a0 : Int)))) (by exact xr_lss rfl e8 e7) rfl rfl rfl ?_
      refine ol_nil ?_
      refine cw_seq ?_
      rcases is h with ⟨c9, h⟩ | ⟨c9, h⟩
      · refine cw_condT rfl c9 ?_
        refine cw_skip ?_
        refine cw_seq ?_
        refine cw_block ?_
        refine cw_seq ?_
        refine cw_region ?_
        obtain ⟨g10, h⟩ := gs h
        refine ol_val (v := .pointer (some ⟨(sb V0_0), so V0_0 + Int.toNat s1 * 1, none⟩)) (by exact xr_indexR (K := (kI .i64)) (v := V0_0) rfl Try.underlying45 sz3 e6 (R0_0.gr fB) e8 g10.1 g10.2) rfl rfl rfl ?_
        refine ol_val (v := .int .i64 (ix a0 s1)) (by exact xr_load1 (v := .int .i64 (ix a0 s1)) rfl ag3 rfl ((R0_0.gr fB).elem g10.1 g10.2)) rfl rfl rfl ?_
        refine ol_val (v := .int .i64 (ix a0 s1)) (by exact xr_assign rfl rfl) rfl rfl rfl ?_
        refine ol_nil ?_
        refine cw_seq ?_
        refine cw_region ?_
        refine ol_val (v := .int .i64 (ix a0 s1)) (by exact xr_move rfl rfl) rfl rfl rfl ?_
        refine ol_val (v := .int .i64 0) (by exact xr_move rfl e3) rfl rfl rfl ?_
        refine ol_val (v := .bool (!decide ((ix a0 s1) = 0))) (by exact xr_neI rfl Try.underlying3 rfl rfl rfl) rfl rfl rfl ?_
        refine ol_nil ?_
        rcases is h with ⟨c11, h⟩ | ⟨c11, h⟩
        · refine cw_condT rfl c11 ?_
          refine cw_seq ?_
          refine cw_region ?_
          refine ol_val (v := .int .i64 (ix a0 s1)) (by exact xr_move rfl rfl) rfl rfl rfl ?_
          refine ol_val (v := .int .i64 (ix a0 s1)) (by exact xr_assign rfl rfl) rfl rfl rfl ?_
          refine ol_nil ?_
          refine cw_ret ?_
          repeat (first | with_reducible refine thn_r ?_ | with_reducible refine blk_r ?_)
          obtain rfl := Option.some.inj h
          refine lp_ret ?_
          rintro rfl
          repeat (first | with_reducible refine thn_r ?_ | with_reducible refine blk_r ?_)
          have h := h4
          obtain rfl := Option.some.inj h
          refine fin_ret1 Try.results105 rfl ?_
          exact ⟨_, rfl, rfl, fB⟩
        · refine cw_condF rfl c11 ?_
          refine cw_skip ?_
          refine blk_i ?_
          refine cw_region ?_
          refine ol_val (v := .int .i64 (IntKind.i64.wrap (s1 + 1))) (by exact xr_add rfl e8 rfl) rfl rfl rfl ?_
          refine ol_val (v := .int .i64 (IntKind.i64.wrap (s1 + 1))) (by exact xr_move rfl rfl) rfl rfl rfl ?_
          refine ol_nil ?_
          obtain rfl := Option.some.inj h
          refine lp_in ?_
          exact ⟨e3, e6, e7, rfl, fB⟩
      · refine cw_condF rfl c9 ?_
        refine cw_exit ?_
        repeat (first | with_reducible refine thn_e ?_ | with_reducible refine blk_e rfl ?_)
        obtain rfl := Option.some.inj h
        refine lp_exit ?_
        rintro rfl
        refine thn_x ?_
        exact ⟨_, rfl, e3, fB⟩
  · rintro ρ12 w13 ⟨x5, rfl, e3, fB⟩
    have h := h4
    refine cw_seq ?_
    refine cw_region ?_
    refine ol_val (v := .int .i64 0) (by exact xr_move rfl e3) rfl rfl rfl ?_
    refine ol_val (v := .int .i64 0) (by exact xr_assign rfl rfl) rfl rfl rfl ?_
    refine ol_nil ?_
    refine cw_ret ?_
    repeat (first | with_reducible refine thn_r ?_ | with_reducible refine blk_r ?_)
    obtain rfl := Option.some.inj h
    refine fin_ret1 Try.results105 rfl ?_
    exact ⟨_, rfl, rfl, fB⟩
end Go.Proofs.Ytjhajfkfhdnciaa

/- cmp.isNaN[int]: its model, and that the Go function computes it: written by gen.py. -/
set_option linter.unusedVariables false
namespace Go.Proofs.Ytjhajfkfhdnciaa
open Go Go.Xw
def cmp_isNaN.f (fu : Nat) (a0 : Int) : Option Bool := some ((!decide (a0 = a0)))
set_option maxRecDepth 100000 in
set_option maxHeartbeats 400000 in
theorem cmp_isNaN.ok (fu : Nat) (w : World) (a0 : Int) (r : Bool) (h : cmp_isNaN.f fu a0 = some r) :
    Calls Try.prog 137 (([.int .i64 a0] : List Value).toArray) w (fun e w' => ∃ v, e = .returned v ∧ v = .bool r ∧ Gr w w') := by
  unfold cmp_isNaN.f at h
  have fB : Gr w w := Fr.refl _ _
  refine calls_cw Try.func137 rfl Try.ntmps137 rfl ?_
  refine cw_seq ?_
  refine cw_region ?_
  refine ol_val (v := .bool false) (by exact xr_assign rfl rfl) rfl rfl rfl ?_
  refine ol_nil ?_
  refine cw_seq ?_
  refine cw_region ?_
  refine ol_val (v := .int .i64 a0) (by exact xr_move rfl rfl) rfl rfl rfl ?_
  refine ol_val (v := .int .i64 a0) (by exact xr_move rfl rfl) rfl rfl rfl ?_
  refine ol_val (v := .bool (!decide (a0 = a0))) (by exact xr_neI rfl Try.underlying3 rfl rfl rfl) rfl rfl rfl ?_
  refine ol_val (v := .bool (!decide (a0 = a0))) (by exact xr_assign rfl rfl) rfl rfl rfl ?_
  refine ol_nil ?_
  refine cw_ret ?_
  repeat (first | with_reducible refine thn_r ?_ | with_reducible refine blk_r ?_)
  obtain rfl := Option.some.inj h
  refine fin_ret1 Try.results137 rfl ?_
  exact ⟨_, rfl, rfl, fB⟩
end Go.Proofs.Ytjhajfkfhdnciaa

/- cmp.Compare[int]: its model, and that the Go function computes it: written by gen.py. -/
set_option linter.unusedVariables false
namespace Go.Proofs.Ytjhajfkfhdnciaa
open Go Go.Xw
def cmp_Compare.f (fu : Nat) (a0 : Int) (a1 : Int) : Option Int := ((cmp_isNaN.f fu a0 : Option Bool).bind fun t1 => ((cmp_isNaN.f fu a1 : Option Bool).bind fun t5 => (if t1 = true then (if t5 = true then some (0) else some ((-1))) else (if t5 = true then some (1) else (if (decide (a0 < a1)) = true then some ((-1)) else (if (decide (a0 > a1)) = true then some (1) else some (0)))))))
set_option maxRecDepth 100000 in
set_option maxHeartbeats 400000 in
theorem cmp_Compare.ok (fu : Nat) (w : World) (a0 : Int) (a1 : Int) (r : Int) (h : cmp_Compare.f fu a0 a1 = some r) :
    Calls Try.prog 106 (([.int .i64 a0, .int .i64 a1] : List Value).toArray) w (fun e w' => ∃ v, e = .returned v ∧ v = .int .i64 r ∧ Gr w w') := by
  unfold cmp_Compare.f at h
  have fB : Gr w w := Fr.refl _ _
  refine calls_cw Try.func106 rfl Try.ntmps106 rfl ?_
  refine cw_seq ?_
  refine cw_region ?_
  refine ol_val (v := .int .i64 0) (by exact xr_assign rfl rfl) rfl rfl rfl ?_
  refine ol_nil ?_
  refine cw_seq ?_
  refine cw_region ?_
  refine ol_val (v := .int .i64 a0) (by exact xr_move rfl rfl) rfl rfl rfl ?_
  obtain ⟨t1, k2, h⟩ := bs h
  refine ol_op (by exact opv_call rfl cal137 (ac rfl an) (cmp_isNaN.ok fu _ a0 _ k2)) rfl rfl rfl ?_
  rintro _ w4 ⟨rfl, q3⟩
  have fB := fB.gr q3
  refine ol_val (v := .bool t1) (by exact xr_assign rfl rfl) rfl rfl rfl ?_
  refine ol_nil ?_
  refine cw_seq ?_
  refine cw_region ?_
  refine ol_val (v := .int .i64 a1) (by exact xr_move rfl rfl) rfl rfl rfl ?_
  obtain ⟨t5, k6, h⟩ := bs h
  refine ol_op (by exact opv_call rfl cal137 (ac rfl an) (cmp_isNaN.ok fu _ a1 _ k6)) rfl rfl rfl ?_
  rintro _ w8 ⟨rfl, q7⟩
  have fB := fB.gr q7
  refine ol_val (v := .bool t5) (by exact xr_assign rfl rfl) rfl rfl rfl ?_
  refine ol_nil ?_
  refine cw_seq ?_
  refine cw_seq ?_
  refine cw_region ?_
  refine ol_val (v := .bool t1) (by exact xr_move rfl rfl) rfl rfl rfl ?_
  refine ol_nil ?_
  rcases is h with ⟨c9, h⟩ | ⟨c9, h⟩
  · refine cw_condT rfl c9 ?_
    refine cw_seq ?_
    refine cw_seq ?_
    refine cw_region ?_
    refine ol_val (v := .bool t5) (by exact xr_move rfl rfl) rfl rfl rfl ?_
    refine ol_nil ?_
    rcases is h with ⟨c10, h⟩ | ⟨c10, h⟩
    · refine cw_condT rfl c10 ?_
      refine cw_seq ?_
      refine cw_region ?_
      refine ol_val (v := .int .i64 0) (by exact xr_assign rfl rfl) rfl rfl rfl ?_
      refine ol_nil ?_
      refine cw_ret ?_
      repeat (first | with_reducible refine thn_r ?_ | with_reducible refine blk_r ?_)
      obtain rfl := Option.some.inj h
      refine fin_ret1 Try.results106 rfl ?_
      exact ⟨_, rfl, rfl, fB⟩
    · refine cw_condF rfl c10 ?_
      refine cw_skip ?_
      refine cw_seq ?_
      refine cw_region ?_
      refine ol_val (v := .int .i64 (-1)) (by exact xr_assign rfl rfl) rfl rfl rfl ?_
      refine ol_nil ?_
      refine cw_ret ?_
      repeat (first | with_reducible refine thn_r ?_ | with_reducible refine blk_r ?_)
      obtain rfl := Option.some.inj h
      refine fin_ret1 Try.results106 rfl ?_
      exact ⟨_, rfl, rfl, fB⟩
  · refine cw_condF rfl c9 ?_
    refine cw_skip ?_
    refine cw_seq ?_
    refine cw_seq ?_
    refine cw_region ?_
    refine ol_val (v := .bool t5) (by exact xr_move rfl rfl) rfl rfl rfl ?_
    refine ol_nil ?_
    rcases is h with ⟨c11, h⟩ | ⟨c11, h⟩
    · refine cw_condT rfl c11 ?_
      refine cw_seq ?_
      refine cw_region ?_
      refine ol_val (v := .int .i64 1) (by exact xr_assign rfl rfl) rfl rfl rfl ?_
      refine ol_nil ?_
      refine cw_ret ?_
      repeat (first | with_reducible refine thn_r ?_ | with_reducible refine blk_r ?_)
      obtain rfl := Option.some.inj h
      refine fin_ret1 Try.results106 rfl ?_
      exact ⟨_, rfl, rfl, fB⟩
    · refine cw_condF rfl c11 ?_
      refine cw_skip ?_
      refine cw_seq ?_
      refine cw_seq ?_
      refine cw_region ?_
      refine ol_val (v := .int .i64 a0) (by exact xr_move rfl rfl) rfl rfl rfl ?_
      refine ol_val (v := .int .i64 a1) (by exact xr_move rfl rfl) rfl rfl rfl ?_
      refine ol_val (v := .bool (decide (a0 < a1))) (by exact xr_lss rfl rfl rfl) rfl rfl rfl ?_
      refine ol_nil ?_
      rcases is h with ⟨c12, h⟩ | ⟨c12, h⟩
      · refine cw_condT rfl c12 ?_
        refine cw_seq ?_
        refine cw_region ?_
        refine ol_val (v := .int .i64 (-1)) (by exact xr_assign rfl rfl) rfl rfl rfl ?_
        refine ol_nil ?_
        refine cw_ret ?_
        repeat (first | with_reducible refine thn_r ?_ | with_reducible refine blk_r ?_)
        obtain rfl := Option.some.inj h
        refine fin_ret1 Try.results106 rfl ?_
        exact ⟨_, rfl, rfl, fB⟩
      · refine cw_condF rfl c12 ?_
        refine cw_skip ?_
        refine cw_seq ?_
        refine cw_seq ?_
        refine cw_region ?_
        refine ol_val (v := .int .i64 a0) (by exact xr_move rfl rfl) rfl rfl rfl ?_
        refine ol_val (v := .int .i64 a1) (by exact xr_move rfl rfl) rfl rfl rfl ?_
        refine ol_val (v := .bool (decide (a0 > a1))) (by exact xr_gtr rfl rfl rfl) rfl rfl rfl ?_
        refine ol_nil ?_
        rcases is h with ⟨c13, h⟩ | ⟨c13, h⟩
        · refine cw_condT rfl c13 ?_
          refine cw_seq ?_
          refine cw_region ?_
          refine ol_val (v := .int .i64 1) (by exact xr_assign rfl rfl) rfl rfl rfl ?_
          refine ol_nil ?_
          refine cw_ret ?_
          repeat (first | with_reducible refine thn_r ?_ | with_reducible refine blk_r ?_)
          obtain rfl := Option.some.inj h
          refine fin_ret1 Try.results106 rfl ?_
          exact ⟨_, rfl, rfl, fB⟩
        · refine cw_condF rfl c13 ?_
          refine cw_skip ?_
          refine cw_seq ?_
          refine cw_region ?_
          refine ol_val (v := .int .i64 0) (by exact xr_assign rfl rfl) rfl rfl rfl ?_
          refine ol_nil ?_
          refine cw_ret ?_
          repeat (first | with_reducible refine thn_r ?_ | with_reducible refine blk_r ?_)
          obtain rfl := Option.some.inj h
          refine fin_ret1 Try.results106 rfl ?_
          exact ⟨_, rfl, rfl, fB⟩
end Go.Proofs.Ytjhajfkfhdnciaa

/- rickyard/node.Compare: its model, and that the Go function computes it: written by gen.py. -/
set_option linter.unusedVariables false
namespace Go.Proofs.Ytjhajfkfhdnciaa
open Go Go.Xw
def node_Compare.f (fu : Nat) (a0 : S_api_Entry) (a1 : S_api_Entry) : Option Int := ((cmp_Compare.f fu a0.Key a1.Key : Option Int).bind fun t14 => ((cmp_Compare.f fu a0.Handle.Slot a1.Handle.Slot : Option Int).bind fun t17 => ((cmp_Compare.f fu a0.Handle.Gen a1.Handle.Gen : Option Int).bind fun t23 => ((cmp_Or.f fu [t14, t17, t23] : Option Int).bind fun t33 => some (t33)))))
set_option maxRecDepth 100000 in
set_option maxHeartbeats 400000 in
theorem node_Compare.ok (fu : Nat) (w : World) (a0 : S_api_Entry) (a1 : S_api_Entry) (r : Int) (h : node_Compare.f fu a0 a1 = some r) :
    Calls Try.prog 40 (([aggV [Seg.cell (.int .i64 a0.Handle.Slot), Seg.cell (.int .i64 a0.Handle.Gen), Seg.cell (.int .i64 a0.Key), Seg.cell (.int .i64 a0.Value)], aggV [Seg.cell (.int .i64 a1.Handle.Slot), Seg.cell (.int .i64 a1.Handle.Gen), Seg.cell (.int .i64 a1.Key), Seg.cell (.int .i64 a1.Value)]] : List Value).toArray) w (fun e w' => ∃ v, e = .returned v ∧ v = .int .i64 r ∧ Gr w w') := by
  unfold node_Compare.f at h
  have fB : Gr w w := Fr.refl _ _
  refine calls_cw Try.func40 rfl Try.ntmps40 rfl ?_
  refine cw_seq ?_
  refine cw_region ?_
  refine ol_op (by exact opv_box (ss := [Seg.cell (.int .i64 a0.Handle.Slot), Seg.cell (.int .i64 a0.Handle.Gen), Seg.cell (.int .i64 a0.Key), Seg.cell (.int .i64 a0.Value)]) rfl rfl rfl) rfl rfl rfl ?_
  rintro _ w6 ⟨G1, rfl, b2, q3, z4⟩
  have z4 := Nat.le_trans fB.size z4
  have fB := fB.gr q3
  refine ol_op (by exact opv_box (ss := [Seg.cell (.int .i64 a1.Handle.Slot), Seg.cell (.int .i64 a1.Handle.Gen), Seg.cell (.int .i64 a1.Key), Seg.cell (.int .i64 a1.Value)]) rfl rfl rfl) rfl rfl rfl ?_
  rintro _ w12 ⟨G7, rfl, b8, q9, z10⟩
  have n13 := Blk.ne b2 z10
  have z10 := Nat.le_trans fB.size z10
  have b2 := b2.gr q9
  have fB := fB.gr q9
  refine ol_val (v := .int .i64 0) (by exact xr_assign rfl rfl) rfl rfl rfl ?_
  refine ol_nil ?_
  refine cw_seq ?_
  obtain ⟨t14, k15, h⟩ := bs h
  obtain ⟨t17, k18, h⟩ := bs h
  refine cw_drawL 18 [fun vz wz => vz = (.pointer (some ⟨G1, 2, none⟩) : Value), fun vz wz => vz = (.int .i64 a0.Key : Value), fun vz wz => vz = (.pointer (some ⟨G7, 2, none⟩) : Value), fun vz wz => vz = (.int .i64 a1.Key : Value), fun vz wz => vz = (.int .i64 t14 : Value), fun vz wz => vz = (.pointer (some ⟨G1, 0, none⟩) : Value), fun vz wz => vz = (.pointer (some ⟨G1, 0, none⟩) : Value), fun vz wz => vz = (.int .i64 a0.Handle.Slot : Value), fun vz wz => vz = (.pointer (some ⟨G7, 0, none⟩) : Value), fun vz wz => vz = (.pointer (some ⟨G7, 0, none⟩) : Value), fun vz wz => vz = (.int .i64 a1.Handle.Slot : Value), fun vz wz => vz = (.int .i64 t17 : Value), fun vz wz => vz = (.pointer (some ⟨G1, 0, none⟩) : Value), fun vz wz => vz = (.pointer (some ⟨G1, 1, none⟩) : Value), fun vz wz => vz = (.int .i64 a0.Handle.Gen : Value), fun vz wz => vz = (.pointer (some ⟨G7, 0, none⟩) : Value), fun vz wz => vz = (.pointer (some ⟨G7, 1, none⟩) : Value), fun vz wz => vz = (.int .i64 a1.Handle.Gen : Value)] mo rfl ⟨fun _ _ _ h _ => h, fun _ _ _ h _ => h, fun _ _ _ h _ => h, fun _ _ _ h _ => h, fun _ _ _ h _ => h, fun _ _ _ h _ => h, fun _ _ _ h _ => h, fun _ _ _ h _ => h, fun _ _ _ h _ => h, fun _ _ _ h _ => h, fun _ _ _ h _ => h, fun _ _ _ h _ => h, fun _ _ _ h _ => h, fun _ _ _ h _ => h, fun _ _ _ h _ => h, fun _ _ _ h _ => h, fun _ _ _ h _ => h, fun _ _ _ h _ => h, trivial⟩ ?_ ?_
  · refine ⟨?_, ?_, ?_, ?_, ?_, ?_, ?_, ?_, ?_, ?_, ?_, ?_, ?_, ?_, ?_, ?_, ?_, ?_, trivial⟩
    · intro ρz wz hz hk hd
      exact sk_val (v := .pointer (some ⟨G1, 2, none⟩)) (by exact xr_fieldAddr (p := 0) (q := 2) rfl fl44_1 ((hk 2 rfl).trans rfl)) rfl rfl
    · intro ρz wz hz hk hd
      have d5 := hd 0 rfl 5 rfl
      exact sk_val (v := .int .i64 a0.Key) (by exact xr_load1 (v := .int .i64 a0.Key) rfl ag3 d5 ((b2.gr hz).seg 2 rfl rfl)) rfl rfl
    · intro ρz wz hz hk hd
      exact sk_val (v := .pointer (some ⟨G7, 2, none⟩)) (by exact xr_fieldAddr (p := 0) (q := 2) rfl fl44_1 ((hk 3 rfl).trans rfl)) rfl rfl
    · intro ρz wz hz hk hd
      have d7 := hd 2 rfl 7 rfl
      exact sk_val (v := .int .i64 a1.Key) (by exact xr_load1 (v := .int .i64 a1.Key) rfl ag3 d7 ((b8.gr hz).seg 2 rfl rfl)) rfl rfl
    · intro ρz wz hz hk hd
      have d6 := hd 1 rfl 6 rfl
      have d8 := hd 3 rfl 8 rfl
      refine sk_op (by exact opv_call rfl cal106 (ac d6 (ac d8 an)) (cmp_Compare.ok fu _ a0.Key a1.Key _ k15)) rfl ?_
      rintro _ wy ⟨rfl, q16⟩
      exact ⟨rfl, q16⟩
    · intro ρz wz hz hk hd
      exact sk_val (v := .pointer (some ⟨G1, 0, none⟩)) (by exact xr_fieldAddr (p := 0) (q := 0) rfl fl44_0 ((hk 2 rfl).trans rfl)) rfl rfl
    · intro ρz wz hz hk hd
      have d10 := hd 5 rfl 10 rfl
      exact sk_val (v := .pointer (some ⟨G1, 0, none⟩)) (by exact xr_fieldAddr (p := 0) (q := 0) rfl fl42_0 d10) rfl rfl
    · intro ρz wz hz hk hd
      have d11 := hd 6 rfl 11 rfl
      exact sk_val (v := .int .i64 a0.Handle.Slot) (by exact xr_load1 (v := .int .i64 a0.Handle.Slot) rfl ag3 d11 ((b2.gr hz).seg 0 rfl rfl)) rfl rfl
    · intro ρz wz hz hk hd
      exact sk_val (v := .pointer (some ⟨G7, 0, none⟩)) (by exact xr_fieldAddr (p := 0) (q := 0) rfl fl44_0 ((hk 3 rfl).trans rfl)) rfl rfl
    · intro ρz wz hz hk hd
      have d13 := hd 8 rfl 13 rfl
      exact sk_val (v := .pointer (some ⟨G7, 0, none⟩)) (by exact xr_fieldAddr (p := 0) (q := 0) rfl fl42_0 d13) rfl rfl
    · intro ρz wz hz hk hd
      have d14 := hd 9 rfl 14 rfl
      exact sk_val (v := .int .i64 a1.Handle.Slot) (by exact xr_load1 (v := .int .i64 a1.Handle.Slot) rfl ag3 d14 ((b8.gr hz).seg 0 rfl rfl)) rfl rfl
    · intro ρz wz hz hk hd
      have d12 := hd 7 rfl 12 rfl
      have d15 := hd 10 rfl 15 rfl
      refine sk_op (by exact opv_call rfl cal106 (ac d12 (ac d15 an)) (cmp_Compare.ok fu _ a0.Handle.Slot a1.Handle.Slot _ k18)) rfl ?_
      rintro _ wy ⟨rfl, q19⟩
      exact ⟨rfl, q19⟩
    · intro ρz wz hz hk hd
      exact sk_val (v := .pointer (some ⟨G1, 0, none⟩)) (by exact xr_fieldAddr (p := 0) (q := 0) rfl fl44_0 ((hk 2 rfl).trans rfl)) rfl rfl
    · intro ρz wz hz hk hd
      have d17 := hd 12 rfl 17 rfl
      exact sk_val (v := .pointer (some ⟨G1, 1, none⟩)) (by exact xr_fieldAddr (p := 0) (q := 1) rfl fl42_1 d17) rfl rfl
    · intro ρz wz hz hk hd
      have d18 := hd 13 rfl 18 rfl
      exact sk_val (v := .int .i64 a0.Handle.Gen) (by exact xr_load1 (v := .int .i64 a0.Handle.Gen) rfl ag3 d18 ((b2.gr hz).seg 1 rfl rfl)) rfl rfl
    · intro ρz wz hz hk hd
      exact sk_val (v := .pointer (some ⟨G7, 0, none⟩)) (by exact xr_fieldAddr (p := 0) (q := 0) rfl fl44_0 ((hk 3 rfl).trans rfl)) rfl rfl
    · intro ρz wz hz hk hd
      have d20 := hd 15 rfl 20 rfl
      exact sk_val (v := .pointer (some ⟨G7, 1, none⟩)) (by exact xr_fieldAddr (p := 0) (q := 1) rfl fl42_1 d20) rfl rfl
    · intro ρz wz hz hk hd
      have d21 := hd 16 rfl 21 rfl
      exact sk_val (v := .int .i64 a1.Handle.Gen) (by exact xr_load1 (v := .int .i64 a1.Handle.Gen) rfl ag3 d21 ((b8.gr hz).seg 1 rfl rfl)) rfl rfl
  · intro ρ20 w21 q22 hk hd
    have e9 := hd 4 rfl 9 rfl
    have e16 := hd 11 rfl 16 rfl
    have e19 := hd 14 rfl 19 rfl
    have e22 := hd 17 rfl 22 rfl
    have fB := fB.gr q22
    obtain ⟨t23, k24, h⟩ := bs h
    refine ol_op (by exact opv_call rfl cal106 (ac e19 (ac e22 an)) (cmp_Compare.ok fu _ a0.Handle.Gen a1.Handle.Gen _ k24)) rfl rfl rfl ?_
    rintro _ w26 ⟨rfl, q25⟩
    have fB := fB.gr q25
    refine ol_op (by exact opv_buildSlice (K := (kI .i64)) (xs := [t14, t17, t23]) (vals := [.int .i64 t14, .int .i64 t17, .int .i64 t23]) rfl Try.underlying45 el3 rfl rfl ⟨rfl, e9, ⟨rfl, e16, ⟨rfl, rfl, trivial⟩⟩⟩ rfl rfl rfl fB.size) rfl rfl rfl ?_
    rintro v27 w32 ⟨o29, q28, z30⟩
    have fB := fB.gr q28
    obtain ⟨t33, k34, h⟩ := bs h
    refine ol_op (by exact opv_call rfl cal105 (ac rfl an) (cmp_Or.ok fu _ [t14, t17, t23] v27 (o29.rd) _ k34)) rfl rfl rfl ?_
    rintro _ w36 ⟨rfl, q35⟩
    have fB := fB.gr q35
    refine ol_val (v := .int .i64 t33) (by exact xr_assign rfl rfl) rfl rfl rfl ?_
    refine ol_nil ?_
    refine cw_ret ?_
    repeat (first | with_reducible refine thn_r ?_ | with_reducible refine blk_r ?_)
    obtain rfl := Option.some.inj h
    refine fin_ret1 Try.results40 rfl ?_
    exact ⟨_, rfl, rfl, fB⟩
end Go.Proofs.Ytjhajfkfhdnciaa

/- rickyard/rickyardlaw08.awake: its model, and that the Go function computes it: written by gen.py. -/
set_option linter.unusedVariables false
namespace Go.Proofs.Ytjhajfkfhdnciaa
open Go Go.Xw
def rickyardlaw08_awake.f (fu : Nat) : Option Bool := ((node_Put.f fu (⟨(⟨(⟨3, 1⟩ : S_api_Handle), (-5), 7⟩ : S_api_Entry), [9]⟩ : S_api_Node) : Option ((List Int) × Bool)).bind fun t16 => ((node_Get.f fu t16.1 : Option (S_api_Node × Bool)).bind fun t23 => (((if t16.2 = true then (if t23.2 = true then (if (decide ((List.length t16.1 : Int) = 64)) = true then (if (decide ((List.length t23.1.Kids : Int) = 1)) = true then (if (decide (t23.1.Entry = (⟨(⟨3, 1⟩ : S_api_Handle), (-5), 7⟩ : S_api_Entry))) = true then ((node_Compare.f fu (⟨(⟨3, 1⟩ : S_api_Handle), (-5), 7⟩ : S_api_Entry) (⟨(⟨(0 : Int), (0 : Int)⟩ : S_api_Handle), (0 : Int), (0 : Int)⟩ : S_api_Entry) : Option Int).bind fun t50 => some ((decide (t50 = (-1))))) else some (false)) else some (false)) else some (false)) else some (false)) else some (false)) : Option Bool).bind fun x43 => some (x43))))
set_option maxRecDepth 100000 in
set_option maxHeartbeats 400000 in
theorem rickyardlaw08_awake.ok (fu : Nat) (w : World)  (r : Bool) (h : rickyardlaw08_awake.f fu = some r) :
    Calls Try.prog 35 (([] : List Value).toArray) w (fun e w' => ∃ v, e = .returned v ∧ v = .bool r ∧ Gr w w') := by
  unfold rickyardlaw08_awake.f at h
  have fB : Gr w w := Fr.refl _ _
  refine calls_cw Try.func35 rfl Try.ntmps35 rfl ?_
  refine cw_seq ?_
  refine cw_region ?_
  refine ol_val (v := .bool false) (by exact xr_assign rfl rfl) rfl rfl rfl ?_
  refine ol_nil ?_
  refine cw_seq ?_
  refine cw_region ?_
  refine ol_val (v := aggV [Seg.cell (.int .i64 3), Seg.cell (.int .i64 1)]) (by exact xr_build (vals := [(0, .int .i64 3), (1, .int .i64 1)]) rfl ⟨rfl, rfl, ⟨rfl, rfl, trivial⟩⟩ (bl42_0_1 3 1 _)) rfl rfl rfl ?_
  refine ol_val (v := aggV [Seg.cell (.int .i64 3), Seg.cell (.int .i64 1), Seg.cell (.int .i64 (-5)), Seg.cell (.int .i64 7)]) (by exact xr_buildS (vals := [(0, aggV [Seg.cell (.int .i64 3), Seg.cell (.int .i64 1)]), (1, .int .i64 (-5)), (2, .int .i64 7)]) (res := [Seg.cell (.int .i64 3), Seg.cell (.int .i64 1), Seg.cell (.int .i64 (-5)), Seg.cell (.int .i64 7)]) rfl ⟨rfl, rfl, ⟨rfl, rfl, ⟨rfl, rfl, trivial⟩⟩⟩ Try.underlying44 ze44 pl44 (fl_cons (xs := cellsOf [Seg.cell (.int .i64 3), Seg.cell (.int .i64 1)]) (cs' := cellsOf [Seg.cell (.int .i64 3), Seg.cell (.int .i64 1), Seg.cell (.int .i64 (0 : Int)), Seg.cell (.int .i64 (0 : Int))]) rfl rfl (len_cellsOf _) (Spl.segs [Seg.cell (.int .i64 (0 : Int)), Seg.cell (.int .i64 (0 : Int)), Seg.cell (.int .i64 (0 : Int)), Seg.cell (.int .i64 (0 : Int))] 0 2 [Seg.cell (.int .i64 3), Seg.cell (.int .i64 1)] rfl rfl) (fl_cons (xs := cellsOf [Seg.cell (.int .i64 (-5))]) (cs' := cellsOf [Seg.cell (.int .i64 3), Seg.cell (.int .i64 1), Seg.cell (.int .i64 (-5)), Seg.cell (.int .i64 (0 : Int))]) rfl rfl (len_cellsOf _) (Spl.segs [Seg.cell (.int .i64 3), Seg.cell (.int .i64 1), Seg.cell (.int .i64 (0 : Int)), Seg.cell (.int .i64 (0 : Int))] 2 1 [Seg.cell (.int .i64 (-5))] rfl rfl) (fl_cons (xs := cellsOf [Seg.cell (.int .i64 7)]) (cs' := cellsOf [Seg.cell (.int .i64 3), Seg.cell (.int .i64 1), Seg.cell (.int .i64 (-5)), Seg.cell (.int .i64 7)]) rfl rfl (len_cellsOf _) (Spl.segs [Seg.cell (.int .i64 3), Seg.cell (.int .i64 1), Seg.cell (.int .i64 (-5)), Seg.cell (.int .i64 (0 : Int))] 3 1 [Seg.cell (.int .i64 7)] rfl rfl) fl_nil)))) rfl rfl rfl ?_
  refine ol_op (by exact opv_buildSlice (K := (kI .i64)) (xs := [9]) (vals := [.int .i64 9]) rfl Try.underlying45 el3 rfl rfl ⟨rfl, rfl, trivial⟩ rfl rfl rfl fB.size) rfl rfl rfl ?_
  rintro v1 w6 ⟨o3, q2, z4⟩
  have fB := fB.gr q2
  refine ol_val (v := aggV [Seg.cell (.int .i64 3), Seg.cell (.int .i64 1), Seg.cell (.int .i64 (-5)), Seg.cell (.int .i64 7), Seg.cell v1 o3.one]) (by exact xr_buildS (vals := [(0, aggV [Seg.cell (.int .i64 3), Seg.cell (.int .i64 1), Seg.cell (.int .i64 (-5)), Seg.cell (.int .i64 7)]), (1, v1)]) (res := [Seg.cell (.int .i64 3), Seg.cell (.int .i64 1), Seg.cell (.int .i64 (-5)), Seg.cell (.int .i64 7), Seg.cell v1 o3.one]) rfl ⟨rfl, rfl, ⟨rfl, rfl, trivial⟩⟩ Try.underlying47 ze47 pl47 (fl_cons (xs := cellsOf [Seg.cell (.int .i64 3), Seg.cell (.int .i64 1), Seg.cell (.int .i64 (-5)), Seg.cell (.int .i64 7)]) (cs' := cellsOf [Seg.cell (.int .i64 3), Seg.cell (.int .i64 1), Seg.cell (.int .i64 (-5)), Seg.cell (.int .i64 7), Seg.cell (.slice none 0 0) (by rfl)]) rfl rfl (len_cellsOf _) (Spl.segs [Seg.cell (.int .i64 (0 : Int)), Seg.cell (.int .i64 (0 : Int)), Seg.cell (.int .i64 (0 : Int)), Seg.cell (.int .i64 (0 : Int)), Seg.cell (.slice none 0 0) (by rfl)] 0 4 [Seg.cell (.int .i64 3), Seg.cell (.int .i64 1), Seg.cell (.int .i64 (-5)), Seg.cell (.int .i64 7)] rfl rfl) (fl_cons (xs := cellsOf [Seg.cell v1 o3.one]) (cs' := cellsOf [Seg.cell (.int .i64 3), Seg.cell (.int .i64 1), Seg.cell (.int .i64 (-5)), Seg.cell (.int .i64 7), Seg.cell v1 o3.one]) rfl (cells_one o3.one) (len_cellsOf _) (Spl.segs [Seg.cell (.int .i64 3), Seg.cell (.int .i64 1), Seg.cell (.int .i64 (-5)), Seg.cell (.int .i64 7), Seg.cell (.slice none 0 0) (by rfl)] 4 1 [Seg.cell v1 o3.one] rfl rfl) fl_nil))) rfl rfl rfl ?_
  refine ol_op (by exact opv_alloc (ss := [Seg.cell (.int .i64 (0 : Int)), Seg.cell (.int .i64 (0 : Int)), Seg.cell (.int .i64 (0 : Int)), Seg.cell (.int .i64 (0 : Int)), Seg.cell (.slice none 0 0) (by rfl)]) rfl ze47 rfl) rfl rfl rfl ?_
  rintro _ w12 ⟨G7, rfl, b8, q9, z10⟩
  have z10 := Nat.le_trans fB.size z10
  have o3 := o3.gr q9
  have fB := fB.gr q9
  have f14 := off_ty b8 o3 (by decide)
  refine ol_op0 (by exact opv_store (ss' := [Seg.cell (.int .i64 3), Seg.cell (.int .i64 1), Seg.cell (.int .i64 (-5)), Seg.cell (.int .i64 7), Seg.cell v1 o3.one]) (xs := cellsOf [Seg.cell (.int .i64 3), Seg.cell (.int .i64 1), Seg.cell (.int .i64 (-5)), Seg.cell (.int .i64 7), Seg.cell v1 o3.one]) rfl sz47 rfl rfl rfl (len_cellsOf _) (one_cellsOf _) b8 (Spl.segs _ 0 5 [Seg.cell (.int .i64 3), Seg.cell (.int .i64 1), Seg.cell (.int .i64 (-5)), Seg.cell (.int .i64 7), Seg.cell v1 o3.one] rfl rfl)) rfl rfl ?_
  rintro _ w15 ⟨b8, q13⟩
  have o3 := o3.wr q13 f14
  have fB := fB.wr q13 z10
  refine ol_nil ?_
  refine cw_seq ?_
  refine cw_region ?_
  refine ol_val (v := aggV [Seg.cell (.int .i64 3), Seg.cell (.int .i64 1), Seg.cell (.int .i64 (-5)), Seg.cell (.int .i64 7), Seg.cell v1 o3.one]) (by exact xr_loadS (ss := [Seg.cell (.int .i64 3), Seg.cell (.int .i64 1), Seg.cell (.int .i64 (-5)), Seg.cell (.int .i64 7), Seg.cell v1 o3.one]) rfl ag47 sz47 rfl rfl (b8.segs 0 5 rfl)) rfl rfl rfl ?_
  obtain ⟨t16, k17, h⟩ := bs h
  refine ol_op (by exact opv_call rfl cal39 (ac rfl an) (node_Put.ok fu _ (⟨(⟨(⟨3, 1⟩ : S_api_Handle), (-5), 7⟩ : S_api_Entry), [9]⟩ : S_api_Node) v1 (o3.rd) _ k17)) rfl rfl rfl ?_
  rintro _ w22 ⟨u18, o19, rfl, q21⟩
  have o19 := Own.base o19 fB.size
  have b8 := b8.gr q21
  have o3 := o3.gr q21
  have fB := fB.gr q21
  refine ol_val (v := .tuple #[u18, .bool t16.2]) (by exact xr_move rfl rfl) rfl rfl rfl ?_
  refine ol_val (v := u18) (by exact xr_extract rfl rfl rfl) rfl rfl rfl ?_
  refine ol_val (v := .bool t16.2) (by exact xr_extract rfl rfl rfl) rfl rfl rfl ?_
  refine ol_val (v := u18) (by exact xr_assign rfl rfl) rfl rfl rfl ?_
  refine ol_val (v := .bool t16.2) (by exact xr_assign rfl rfl) rfl rfl rfl ?_
  refine ol_nil ?_
  refine cw_seq ?_
  refine cw_region ?_
  refine ol_val (v := u18) (by exact xr_move rfl rfl) rfl rfl rfl ?_
  obtain ⟨t23, k24, h⟩ := bs h
  refine ol_op (by exact opv_call rfl cal36 (ac rfl an) (node_Get.ok fu _ t16.1 u18 (o19.rd) _ k24)) rfl rfl rfl ?_
  rintro _ w29 ⟨u25, o26, rfl, q28⟩
  have a30 := OffV.call o3 o26
  have o26 := Own.base o26 fB.size
  have b8 := b8.gr q28
  have o3 := o3.gr q28
  have o19 := o19.gr q28
  have fB := fB.gr q28
  refine ol_val (v := .tuple #[aggV [Seg.cell (.int .i64 t23.1.Entry.Handle.Slot), Seg.cell (.int .i64 t23.1.Entry.Handle.Gen), Seg.cell (.int .i64 t23.1.Entry.Key), Seg.cell (.int .i64 t23.1.Entry.Value), Seg.cell u25 o26.one], .bool t23.2]) (by exact xr_move rfl rfl) rfl rfl rfl ?_
  refine ol_val (v := aggV [Seg.cell (.int .i64 t23.1.Entry.Handle.Slot), Seg.cell (.int .i64 t23.1.Entry.Handle.Gen), Seg.cell (.int .i64 t23.1.Entry.Key), Seg.cell (.int .i64 t23.1.Entry.Value), Seg.cell u25 o26.one]) (by exact xr_extract rfl rfl rfl) rfl rfl rfl ?_
  refine ol_val (v := .bool t23.2) (by exact xr_extract rfl rfl rfl) rfl rfl rfl ?_
  refine ol_op (by exact opv_alloc (ss := [Seg.cell (.int .i64 (0 : Int)), Seg.cell (.int .i64 (0 : Int)), Seg.cell (.int .i64 (0 : Int)), Seg.cell (.int .i64 (0 : Int)), Seg.cell (.slice none 0 0) (by rfl)]) rfl ze47 rfl) rfl rfl rfl ?_
  rintro _ w36 ⟨G31, rfl, b32, q33, z34⟩
  have n37 := Blk.ne b8 z34
  have z34 := Nat.le_trans fB.size z34
  have b8 := b8.gr q33
  have o3 := o3.gr q33
  have o19 := o19.gr q33
  have o26 := o26.gr q33
  have fB := fB.gr q33
  have f39 := off_ty b32 o3 (by decide)
  have f40 := off_ty b32 o19 (by decide)
  have f41 := off_ty b32 o26 (by decide)
  refine ol_op0 (by exact opv_store (ss' := [Seg.cell (.int .i64 t23.1.Entry.Handle.Slot), Seg.cell (.int .i64 t23.1.Entry.Handle.Gen), Seg.cell (.int .i64 t23.1.Entry.Key), Seg.cell (.int .i64 t23.1.Entry.Value), Seg.cell u25 o26.one]) (xs := cellsOf [Seg.cell (.int .i64 t23.1.Entry.Handle.Slot), Seg.cell (.int .i64 t23.1.Entry.Handle.Gen), Seg.cell (.int .i64 t23.1.Entry.Key), Seg.cell (.int .i64 t23.1.Entry.Value), Seg.cell u25 o26.one]) rfl sz47 rfl rfl rfl (len_cellsOf _) (one_cellsOf _) b32 (Spl.segs _ 0 5 [Seg.cell (.int .i64 t23.1.Entry.Handle.Slot), Seg.cell (.int .i64 t23.1.Entry.Handle.Gen), Seg.cell (.int .i64 t23.1.Entry.Key), Seg.cell (.int .i64 t23.1.Entry.Value), Seg.cell u25 o26.one] rfl rfl)) rfl rfl ?_
  rintro _ w42 ⟨b32, q38⟩
  have b8 := b8.wr q38 n37
  have o3 := o3.wr q38 f39
  have o19 := o19.wr q38 f40
  have o26 := o26.wr q38 f41
  have fB := fB.wr q38 z34
  refine ol_val (v := .bool t23.2) (by exact xr_assign rfl rfl) rfl rfl rfl ?_
  refine ol_nil ?_
  refine cw_seq ?_
  obtain ⟨x43, j44, h⟩ := bs h
  refine cw_mid (fun ρ' w' => ρ' 0 = .bool x43 ∧ Gr w42 w') ?_ ?_
  · skip
    refine cw_region ?_
    refine ol_val (v := .bool t16.2) (by exact xr_move rfl rfl) rfl rfl rfl ?_
    refine ol_val (v := .bool t16.2) (by exact xr_move rfl rfl) rfl rfl rfl ?_
    rcases is j44 with ⟨c45, j44⟩ | ⟨c45, j44⟩
    · skip
      refine ol_gval (v := .bool t23.2) (by exact xr_move rfl rfl) rfl rfl rfl rfl rfl c45 ?_
      refine ol_val (v := .bool t23.2) (by exact xr_pickT rfl rfl c45 rfl) rfl rfl rfl ?_
      refine ol_val (v := .bool t23.2) (by exact xr_move rfl rfl) rfl rfl rfl ?_
      rcases is j44 with ⟨c46, j44⟩ | ⟨c46, j44⟩
      · skip
        refine ol_gval (v := u18) (by exact xr_move rfl rfl) rfl rfl rfl rfl rfl c46 ?_
        refine ol_gval (v := .int .i64 (List.length t16.1 : Int)) (by exact xr_lenR rfl Try.underlying22 rfl o19.rd) rfl rfl rfl rfl rfl c46 ?_
        refine ol_gval (v := .bool (decide ((List.length t16.1 : Int) = 64))) (by exact xr_eqI rfl Try.underlying3 rfl rfl rfl) rfl rfl rfl rfl rfl c46 ?_
        refine ol_val (v := .bool (decide ((List.length t16.1 : Int) = 64))) (by exact xr_pickT rfl rfl c46 rfl) rfl rfl rfl ?_
        refine ol_val (v := .bool (decide ((List.length t16.1 : Int) = 64))) (by exact xr_move rfl rfl) rfl rfl rfl ?_
        rcases is j44 with ⟨c47, j44⟩ | ⟨c47, j44⟩
        · skip
          refine ol_gval (v := .pointer (some ⟨G31, 4, none⟩)) (by exact xr_fieldAddr (p := 0) (q := 4) rfl fl47_1 rfl) rfl rfl rfl rfl rfl c47 ?_
          refine ol_gval (v := u25) (by exact xr_load1 (v := u25) rfl ag45 rfl (b32.seg 4 rfl rfl)) rfl rfl rfl rfl rfl c47 ?_
          refine ol_gval (v := .int .i64 (List.length t23.1.Kids : Int)) (by exact xr_lenR rfl Try.underlying45 rfl o26.rd) rfl rfl rfl rfl rfl c47 ?_
          refine ol_gval (v := .bool (decide ((List.length t23.1.Kids : Int) = 1))) (by exact xr_eqI rfl Try.underlying3 rfl rfl rfl) rfl rfl rfl rfl rfl c47 ?_
          refine ol_val (v := .bool (decide ((List.length t23.1.Kids : Int) = 1))) (by exact xr_pickT rfl rfl c47 rfl) rfl rfl rfl ?_
          refine ol_val (v := .bool (decide ((List.length t23.1.Kids : Int) = 1))) (by exact xr_move rfl rfl) rfl rfl rfl ?_
          rcases is j44 with ⟨c48, j44⟩ | ⟨c48, j44⟩
          · skip
            refine ol_gval (v := .pointer (some ⟨G31, 0, none⟩)) (by exact xr_fieldAddr (p := 0) (q := 0) rfl fl47_0 rfl) rfl rfl rfl rfl rfl c48 ?_
            refine ol_gval (v := aggV [Seg.cell (.int .i64 t23.1.Entry.Handle.Slot), Seg.cell (.int .i64 t23.1.Entry.Handle.Gen), Seg.cell (.int .i64 t23.1.Entry.Key), Seg.cell (.int .i64 t23.1.Entry.Value)]) (by exact xr_loadS (ss := [Seg.cell (.int .i64 t23.1.Entry.Handle.Slot), Seg.cell (.int .i64 t23.1.Entry.Handle.Gen), Seg.cell (.int .i64 t23.1.Entry.Key), Seg.cell (.int .i64 t23.1.Entry.Value)]) rfl ag44 sz44 rfl rfl (b32.segs 0 4 rfl)) rfl rfl rfl rfl rfl c48 ?_
            refine ol_gval (v := .pointer (some ⟨G7, 0, none⟩)) (by exact xr_fieldAddr (p := 0) (q := 0) rfl fl47_0 rfl) rfl rfl rfl rfl rfl c48 ?_
            refine ol_gval (v := aggV [Seg.cell (.int .i64 3), Seg.cell (.int .i64 1), Seg.cell (.int .i64 (-5)), Seg.cell (.int .i64 7)]) (by exact xr_loadS (ss := [Seg.cell (.int .i64 3), Seg.cell (.int .i64 1), Seg.cell (.int .i64 (-5)), Seg.cell (.int .i64 7)]) rfl ag44 sz44 rfl rfl (b8.segs 0 4 rfl)) rfl rfl rfl rfl rfl c48 ?_
            refine ol_gval (v := .bool (decide (t23.1.Entry = (⟨(⟨3, 1⟩ : S_api_Handle), (-5), 7⟩ : S_api_Entry)))) (by exact xr_eqA (a := t23.1.Entry) (b := (⟨(⟨3, 1⟩ : S_api_Handle), (-5), 7⟩ : S_api_Entry)) rfl eqa44 rfl Try.eqGuardType43 rfl rfl rfl rfl) rfl rfl rfl rfl rfl c48 ?_
            refine ol_val (v := .bool (decide (t23.1.Entry = (⟨(⟨3, 1⟩ : S_api_Handle), (-5), 7⟩ : S_api_Entry)))) (by exact xr_pickT rfl rfl c48 rfl) rfl rfl rfl ?_
            refine ol_val (v := .bool (decide (t23.1.Entry = (⟨(⟨3, 1⟩ : S_api_Handle), (-5), 7⟩ : S_api_Entry)))) (by exact xr_move rfl rfl) rfl rfl rfl ?_
            rcases is j44 with ⟨c49, j44⟩ | ⟨c49, j44⟩
            · skip
              refine ol_gval (v := .pointer (some ⟨G7, 0, none⟩)) (by exact xr_fieldAddr (p := 0) (q := 0) rfl fl47_0 rfl) rfl rfl rfl rfl rfl c49 ?_
              refine ol_gval (v := aggV [Seg.cell (.int .i64 3), Seg.cell (.int .i64 1), Seg.cell (.int .i64 (-5)), Seg.cell (.int .i64 7)]) (by exact xr_loadS (ss := [Seg.cell (.int .i64 3), Seg.cell (.int .i64 1), Seg.cell (.int .i64 (-5)), Seg.cell (.int .i64 7)]) rfl ag44 sz44 rfl rfl (b8.segs 0 4 rfl)) rfl rfl rfl rfl rfl c49 ?_
              refine ol_gval (v := aggV [Seg.cell (.int .i64 (0 : Int)), Seg.cell (.int .i64 (0 : Int)), Seg.cell (.int .i64 (0 : Int)), Seg.cell (.int .i64 (0 : Int))]) (by exact xr_build (vals := []) rfl trivial (bl44_ _)) rfl rfl rfl rfl rfl c49 ?_
              obtain ⟨t50, k51, j44⟩ := bs j44
              refine ol_gop (by exact opv_call rfl cal40 (ac rfl (ac rfl an)) (node_Compare.ok fu _ (⟨(⟨3, 1⟩ : S_api_Handle), (-5), 7⟩ : S_api_Entry) (⟨(⟨(0 : Int), (0 : Int)⟩ : S_api_Handle), (0 : Int), (0 : Int)⟩ : S_api_Entry) _ k51)) rfl rfl rfl rfl rfl c49 ?_
              rintro _ w53 ⟨rfl, q52⟩
              have fB := fB.gr q52
              refine ol_gval (v := .bool (decide (t50 = (-1)))) (by exact xr_eqI rfl Try.underlying3 rfl rfl rfl) rfl rfl rfl rfl rfl c49 ?_
              refine ol_val (v := .bool (decide (t50 = (-1)))) (by exact xr_pickT rfl rfl c49 rfl) rfl rfl rfl ?_
              refine ol_val (v := .bool (decide (t50 = (-1)))) (by exact xr_assign rfl rfl) rfl rfl rfl ?_
              refine ol_nil ?_
              obtain rfl := Option.some.inj j44
              refine thn_i ?_
              exact ⟨rfl, q52⟩
            · skip
              refine ol_gskip rfl rfl rfl rfl rfl c49 ?_
              refine ol_gskip rfl rfl rfl rfl rfl c49 ?_
              refine ol_gskip rfl rfl rfl rfl rfl c49 ?_
              refine ol_gskip rfl rfl rfl rfl rfl c49 ?_
              refine ol_gskip rfl rfl rfl rfl rfl c49 ?_
              refine ol_val (v := .bool false) (by exact xr_pickF rfl rfl c49 rfl) rfl rfl rfl ?_
              refine ol_val (v := .bool false) (by exact xr_assign rfl rfl) rfl rfl rfl ?_
              refine ol_nil ?_
              obtain rfl := Option.some.inj j44
              refine thn_i ?_
              exact ⟨rfl, Fr.refl _ _⟩
          · skip
            refine ol_gskip rfl rfl rfl rfl rfl c48 ?_
            refine ol_gskip rfl rfl rfl rfl rfl c48 ?_
            refine ol_gskip rfl rfl rfl rfl rfl c48 ?_
            refine ol_gskip rfl rfl rfl rfl rfl c48 ?_
            refine ol_gskip rfl rfl rfl rfl rfl c48 ?_
            refine ol_val (v := .bool false) (by exact xr_pickF rfl rfl c48 rfl) rfl rfl rfl ?_
            refine ol_val (v := .bool false) (by exact xr_move rfl rfl) rfl rfl rfl ?_
            refine ol_gskip rfl rfl rfl rfl rfl rfl ?_
            refine ol_gskip rfl rfl rfl rfl rfl rfl ?_
            refine ol_gskip rfl rfl rfl rfl rfl rfl ?_
            refine ol_gskip rfl rfl rfl rfl rfl rfl ?_
            refine ol_gskip rfl rfl rfl rfl rfl rfl ?_
            refine ol_val (v := .bool false) (by exact xr_pickF rfl rfl rfl rfl) rfl rfl rfl ?_
            refine ol_val (v := .bool false) (by exact xr_assign rfl rfl) rfl rfl rfl ?_
            refine ol_nil ?_
            obtain rfl := Option.some.inj j44
            refine thn_i ?_
            exact ⟨rfl, Fr.refl _ _⟩
        · skip
          refine ol_gskip rfl rfl rfl rfl rfl c47 ?_
          refine ol_gskip rfl rfl rfl rfl rfl c47 ?_
          refine ol_gskip rfl rfl rfl rfl rfl c47 ?_
          refine ol_gskip rfl rfl rfl rfl rfl c47 ?_
          refine ol_val (v := .bool false) (by exact xr_pickF rfl rfl c47 rfl) rfl rfl rfl ?_
          refine ol_val (v := .bool false) (by exact xr_move rfl rfl) rfl rfl rfl ?_
          refine ol_gskip rfl rfl rfl rfl rfl rfl ?_
          refine ol_gskip rfl rfl rfl rfl rfl rfl ?_
          refine ol_gskip rfl rfl rfl rfl rfl rfl ?_
          refine ol_gskip rfl rfl rfl rfl rfl rfl ?_
          refine ol_gskip rfl rfl rfl rfl rfl rfl ?_
          refine ol_val (v := .bool false) (by exact xr_pickF rfl rfl rfl rfl) rfl rfl rfl ?_
          refine ol_val (v := .bool false) (by exact xr_move rfl rfl) rfl rfl rfl ?_
          refine ol_gskip rfl rfl rfl rfl rfl rfl ?_
          refine ol_gskip rfl rfl rfl rfl rfl rfl ?_
          refine ol_gskip rfl rfl rfl rfl rfl rfl ?_
          refine ol_gskip rfl rfl rfl rfl rfl rfl ?_
          refine ol_gskip rfl rfl rfl rfl rfl rfl ?_
          refine ol_val (v := .bool false) (by exact xr_pickF rfl rfl rfl rfl) rfl rfl rfl ?_
          refine ol_val (v := .bool false) (by exact xr_assign rfl rfl) rfl rfl rfl ?_
          refine ol_nil ?_
          obtain rfl := Option.some.inj j44
          refine thn_i ?_
          exact ⟨rfl, Fr.refl _ _⟩
      · skip
        refine ol_gskip rfl rfl rfl rfl rfl c46 ?_
        refine ol_gskip rfl rfl rfl rfl rfl c46 ?_
        refine ol_gskip rfl rfl rfl rfl rfl c46 ?_
        refine ol_val (v := .bool false) (by exact xr_pickF rfl rfl c46 rfl) rfl rfl rfl ?_
        refine ol_val (v := .bool false) (by exact xr_move rfl rfl) rfl rfl rfl ?_
        refine ol_gskip rfl rfl rfl rfl rfl rfl ?_
        refine ol_gskip rfl rfl rfl rfl rfl rfl ?_
        refine ol_gskip rfl rfl rfl rfl rfl rfl ?_
        refine ol_gskip rfl rfl rfl rfl rfl rfl ?_
        refine ol_val (v := .bool false) (by exact xr_pickF rfl rfl rfl rfl) rfl rfl rfl ?_
        refine ol_val (v := .bool false) (by exact xr_move rfl rfl) rfl rfl rfl ?_
        refine ol_gskip rfl rfl rfl rfl rfl rfl ?_
        refine ol_gskip rfl rfl rfl rfl rfl rfl ?_
        refine ol_gskip rfl rfl rfl rfl rfl rfl ?_
        refine ol_gskip rfl rfl rfl rfl rfl rfl ?_
        refine ol_gskip rfl rfl rfl rfl rfl rfl ?_
        refine ol_val (v := .bool false) (by exact xr_pickF rfl rfl rfl rfl) rfl rfl rfl ?_
        refine ol_val (v := .bool false) (by exact xr_move rfl rfl) rfl rfl rfl ?_
        refine ol_gskip rfl rfl rfl rfl rfl rfl ?_
        refine ol_gskip rfl rfl rfl rfl rfl rfl ?_
        refine ol_gskip rfl rfl rfl rfl rfl rfl ?_
        refine ol_gskip rfl rfl rfl rfl rfl rfl ?_
        refine ol_gskip rfl rfl rfl rfl rfl rfl ?_
        refine ol_val (v := .bool false) (by exact xr_pickF rfl rfl rfl rfl) rfl rfl rfl ?_
        refine ol_val (v := .bool false) (by exact xr_assign rfl rfl) rfl rfl rfl ?_
        refine ol_nil ?_
        obtain rfl := Option.some.inj j44
        refine thn_i ?_
        exact ⟨rfl, Fr.refl _ _⟩
    · skip
      refine ol_gskip rfl rfl rfl rfl rfl c45 ?_
      refine ol_val (v := .bool false) (by exact xr_pickF rfl rfl c45 rfl) rfl rfl rfl ?_
      refine ol_val (v := .bool false) (by exact xr_move rfl rfl) rfl rfl rfl ?_
      refine ol_gskip rfl rfl rfl rfl rfl rfl ?_
      refine ol_gskip rfl rfl rfl rfl rfl rfl ?_
      refine ol_gskip rfl rfl rfl rfl rfl rfl ?_
      refine ol_val (v := .bool false) (by exact xr_pickF rfl rfl rfl rfl) rfl rfl rfl ?_
      refine ol_val (v := .bool false) (by exact xr_move rfl rfl) rfl rfl rfl ?_
      refine ol_gskip rfl rfl rfl rfl rfl rfl ?_
      refine ol_gskip rfl rfl rfl rfl rfl rfl ?_
      refine ol_gskip rfl rfl rfl rfl rfl rfl ?_
      refine ol_gskip rfl rfl rfl rfl rfl rfl ?_
      refine ol_val (v := .bool false) (by exact xr_pickF rfl rfl rfl rfl) rfl rfl rfl ?_
      refine ol_val (v := .bool false) (by exact xr_move rfl rfl) rfl rfl rfl ?_
      refine ol_gskip rfl rfl rfl rfl rfl rfl ?_
      refine ol_gskip rfl rfl rfl rfl rfl rfl ?_
      refine ol_gskip rfl rfl rfl rfl rfl rfl ?_
      refine ol_gskip rfl rfl rfl rfl rfl rfl ?_
      refine ol_gskip rfl rfl rfl rfl rfl rfl ?_
      refine ol_val (v := .bool false) (by exact xr_pickF rfl rfl rfl rfl) rfl rfl rfl ?_
      refine ol_val (v := .bool false) (by exact xr_move rfl rfl) rfl rfl rfl ?_
      refine ol_gskip rfl rfl rfl rfl rfl rfl ?_
      refine ol_gskip rfl rfl rfl rfl rfl rfl ?_
      refine ol_gskip rfl rfl rfl rfl rfl rfl ?_
      refine ol_gskip rfl rfl rfl rfl rfl rfl ?_
      refine ol_gskip rfl rfl rfl rfl rfl rfl ?_
      refine ol_val (v := .bool false) (by exact xr_pickF rfl rfl rfl rfl) rfl rfl rfl ?_
      refine ol_val (v := .bool false) (by exact xr_assign rfl rfl) rfl rfl rfl ?_
      refine ol_nil ?_
      obtain rfl := Option.some.inj j44
      refine thn_i ?_
      exact ⟨rfl, Fr.refl _ _⟩
  · skip
    rintro ρ54 w55 ⟨e0, q56⟩
    have fB := fB.gr q56
    refine cw_ret ?_
    repeat (first | with_reducible refine thn_r ?_ | with_reducible refine blk_r ?_)
    obtain rfl := Option.some.inj h
    refine fin_ret1 Try.results35 e0 ?_
    exact ⟨_, rfl, rfl, fB⟩
end Go.Proofs.Ytjhajfkfhdnciaa

/- rickyard/rickyardref08.Ahead: its model, and that the Go function computes it: written by gen.py. -/
set_option linter.unusedVariables false
namespace Go.Proofs.Ytjhajfkfhdnciaa
open Go Go.Xw
def rickyardref08_Ahead.f (fu : Nat) (a0 : S_api_Entry) (a1 : S_api_Entry) : Option Bool := (if (!decide (a0.Key = a1.Key)) = true then some ((decide (a0.Key < a1.Key))) else (if (!decide (a0.Handle.Slot = a1.Handle.Slot)) = true then some ((decide (a0.Handle.Slot < a1.Handle.Slot))) else some ((decide (a0.Handle.Gen < a1.Handle.Gen)))))
set_option maxRecDepth 100000 in
set_option maxHeartbeats 400000 in
theorem rickyardref08_Ahead.ok (fu : Nat) (w : World) (a0 : S_api_Entry) (a1 : S_api_Entry) (r : Bool) (h : rickyardref08_Ahead.f fu a0 a1 = some r) :
    Calls Try.prog 41 (([aggV [Seg.cell (.int .i64 a0.Handle.Slot), Seg.cell (.int .i64 a0.Handle.Gen), Seg.cell (.int .i64 a0.Key), Seg.cell (.int .i64 a0.Value)], aggV [Seg.cell (.int .i64 a1.Handle.Slot), Seg.cell (.int .i64 a1.Handle.Gen), Seg.cell (.int .i64 a1.Key), Seg.cell (.int .i64 a1.Value)]] : List Value).toArray) w (fun e w' => ∃ v, e = .returned v ∧ v = .bool r ∧ Gr w w') := by
  unfold rickyardref08_Ahead.f at h
  have fB : Gr w w := Fr.refl _ _
  refine calls_cw Try.func41 rfl Try.ntmps41 rfl ?_
  refine cw_seq ?_
  refine cw_region ?_
  refine ol_op (by exact opv_box (ss := [Seg.cell (.int .i64 a0.Handle.Slot), Seg.cell (.int .i64 a0.Handle.Gen), Seg.cell (.int .i64 a0.Key), Seg.cell (.int .i64 a0.Value)]) rfl rfl rfl) rfl rfl rfl ?_
  rintro _ w6 ⟨G1, rfl, b2, q3, z4⟩
  have z4 := Nat.le_trans fB.size z4
  have fB := fB.gr q3
  refine ol_op (by exact opv_box (ss := [Seg.cell (.int .i64 a1.Handle.Slot), Seg.cell (.int .i64 a1.Handle.Gen), Seg.cell (.int .i64 a1.Key), Seg.cell (.int .i64 a1.Value)]) rfl rfl rfl) rfl rfl rfl ?_
  rintro _ w12 ⟨G7, rfl, b8, q9, z10⟩
  have n13 := Blk.ne b2 z10
  have z10 := Nat.le_trans fB.size z10
  have b2 := b2.gr q9
  have fB := fB.gr q9
  refine ol_val (v := .bool false) (by exact xr_assign rfl rfl) rfl rfl rfl ?_
  refine ol_nil ?_
  refine cw_seq ?_
  refine cw_seq ?_
  refine cw_region ?_
  refine ol_val (v := .pointer (some ⟨G1, 2, none⟩)) (by exact xr_fieldAddr (p := 0) (q := 2) rfl fl44_1 rfl) rfl rfl rfl ?_
  refine ol_val (v := .int .i64 a0.Key) (by exact xr_load1 (v := .int .i64 a0.Key) rfl ag3 rfl (b2.seg 2 rfl rfl)) rfl rfl rfl ?_
  refine ol_val (v := .pointer (some ⟨G7, 2, none⟩)) (by exact xr_fieldAddr (p := 0) (q := 2) rfl fl44_1 rfl) rfl rfl rfl ?_
  refine ol_val (v := .int .i64 a1.Key) (by exact xr_load1 (v := .int .i64 a1.Key) rfl ag3 rfl (b8.seg 2 rfl rfl)) rfl rfl rfl ?_
  refine ol_val (v := .bool (!decide (a0.Key = a1.Key))) (by exact xr_neI rfl Try.underlying3 rfl rfl rfl) rfl rfl rfl ?_
  refine ol_nil ?_
  rcases is h with ⟨c14, h⟩ | ⟨c14, h⟩
  · refine cw_condT rfl c14 ?_
    refine cw_seq ?_
    refine cw_region ?_
    refine ol_val (v := .pointer (some ⟨G1, 2, none⟩)) (by exact xr_fieldAddr (p := 0) (q := 2) rfl fl44_1 rfl) rfl rfl rfl ?_
    refine ol_val (v := .int .i64 a0.Key) (by exact xr_load1 (v := .int .i64 a0.Key) rfl ag3 rfl (b2.seg 2 rfl rfl)) rfl rfl rfl ?_
    refine ol_val (v := .pointer (some ⟨G7, 2, none⟩)) (by exact xr_fieldAddr (p := 0) (q := 2) rfl fl44_1 rfl) rfl rfl rfl ?_
    refine ol_val (v := .int .i64 a1.Key) (by exact xr_load1 (v := .int .i64 a1.Key) rfl ag3 rfl (b8.seg 2 rfl rfl)) rfl rfl rfl ?_
    refine ol_val (v := .bool (decide (a0.Key < a1.Key))) (by exact xr_lss rfl rfl rfl) rfl rfl rfl ?_
    refine ol_val (v := .bool (decide (a0.Key < a1.Key))) (by exact xr_assign rfl rfl) rfl rfl rfl ?_
    refine ol_nil ?_
    refine cw_ret ?_
    repeat (first | with_reducible refine thn_r ?_ | with_reducible refine blk_r ?_)
    obtain rfl := Option.some.inj h
    refine fin_ret1 Try.results41 rfl ?_
    exact ⟨_, rfl, rfl, fB⟩
  · refine cw_condF rfl c14 ?_
    refine cw_skip ?_
    refine cw_seq ?_
    refine cw_seq ?_
    refine cw_region ?_
    refine ol_val (v := .pointer (some ⟨G1, 0, none⟩)) (by exact xr_fieldAddr (p := 0) (q := 0) rfl fl44_0 rfl) rfl rfl rfl ?_
    refine ol_val (v := .pointer (some ⟨G1, 0, none⟩)) (by exact xr_fieldAddr (p := 0) (q := 0) rfl fl42_0 rfl) rfl rfl rfl ?_
    refine ol_val (v := .int .i64 a0.Handle.Slot) (by exact xr_load1 (v := .int .i64 a0.Handle.Slot) rfl ag3 rfl (b2.seg 0 rfl rfl)) rfl rfl rfl ?_
    refine ol_val (v := .pointer (some ⟨G7, 0, none⟩)) (by exact xr_fieldAddr (p := 0) (q := 0) rfl fl44_0 rfl) rfl rfl rfl ?_
    refine ol_val (v := .pointer (some ⟨G7, 0, none⟩)) (by exact xr_fieldAddr (p := 0) (q := 0) rfl fl42_0 rfl) rfl rfl rfl ?_
    refine ol_val (v := .int .i64 a1.Handle.Slot) (by exact xr_load1 (v := .int .i64 a1.Handle.Slot) rfl ag3 rfl (b8.seg 0 rfl rfl)) rfl rfl rfl ?_
    refine ol_val (v := .bool (!decide (a0.Handle.Slot = a1.Handle.Slot))) (by exact xr_neI rfl Try.underlying3 rfl rfl rfl) rfl rfl rfl ?_
    refine ol_nil ?_
    rcases is h with ⟨c15, h⟩ | ⟨c15, h⟩
    · refine cw_condT rfl c15 ?_
      refine cw_seq ?_
      refine cw_region ?_
      refine ol_val (v := .pointer (some ⟨G1, 0, none⟩)) (by exact xr_fieldAddr (p := 0) (q := 0) rfl fl44_0 rfl) rfl rfl rfl ?_
      refine ol_val (v := .pointer (some ⟨G1, 0, none⟩)) (by exact xr_fieldAddr (p := 0) (q := 0) rfl fl42_0 rfl) rfl rfl rfl ?_
      refine ol_val (v := .int .i64 a0.Handle.Slot) (by exact xr_load1 (v := .int .i64 a0.Handle.Slot) rfl ag3 rfl (b2.seg 0 rfl rfl)) rfl rfl rfl ?_
      refine ol_val (v := .pointer (some ⟨G7, 0, none⟩)) (by exact xr_fieldAddr (p := 0) (q := 0) rfl fl44_0 rfl) rfl rfl rfl ?_
      refine ol_val (v := .pointer (some ⟨G7, 0, none⟩)) (by exact xr_fieldAddr (p := 0) (q := 0) rfl fl42_0 rfl) rfl rfl rfl ?_
      refine ol_val (v := .int .i64 a1.Handle.Slot) (by exact xr_load1 (v := .int .i64 a1.Handle.Slot) rfl ag3 rfl (b8.seg 0 rfl rfl)) rfl rfl rfl ?_
      refine ol_val (v := .bool (decide (a0.Handle.Slot < a1.Handle.Slot))) (by exact xr_lss rfl rfl rfl) rfl rfl rfl ?_
      refine ol_val (v := .bool (decide (a0.Handle.Slot < a1.Handle.Slot))) (by exact xr_assign rfl rfl) rfl rfl rfl ?_
      refine ol_nil ?_
      refine cw_ret ?_
      repeat (first | with_reducible refine thn_r ?_ | with_reducible refine blk_r ?_)
      obtain rfl := Option.some.inj h
      refine fin_ret1 Try.results41 rfl ?_
      exact ⟨_, rfl, rfl, fB⟩
    · refine cw_condF rfl c15 ?_
      refine cw_skip ?_
      refine cw_seq ?_
      refine cw_region ?_
      refine ol_val (v := .pointer (some ⟨G1, 0, none⟩)) (by exact xr_fieldAddr (p := 0) (q := 0) rfl fl44_0 rfl) rfl rfl rfl ?_
      refine ol_val (v := .pointer (some ⟨G1, 1, none⟩)) (by exact xr_fieldAddr (p := 0) (q := 1) rfl fl42_1 rfl) rfl rfl rfl ?_
      refine ol_val (v := .int .i64 a0.Handle.Gen) (by exact xr_load1 (v := .int .i64 a0.Handle.Gen) rfl ag3 rfl (b2.seg 1 rfl rfl)) rfl rfl rfl ?_
      refine ol_val (v := .pointer (some ⟨G7, 0, none⟩)) (by exact xr_fieldAddr (p := 0) (q := 0) rfl fl44_0 rfl) rfl rfl rfl ?_
      refine ol_val (v := .pointer (some ⟨G7, 1, none⟩)) (by exact xr_fieldAddr (p := 0) (q := 1) rfl fl42_1 rfl) rfl rfl rfl ?_
      refine ol_val (v := .int .i64 a1.Handle.Gen) (by exact xr_load1 (v := .int .i64 a1.Handle.Gen) rfl ag3 rfl (b8.seg 1 rfl rfl)) rfl rfl rfl ?_
      refine ol_val (v := .bool (decide (a0.Handle.Gen < a1.Handle.Gen))) (by exact xr_lss rfl rfl rfl) rfl rfl rfl ?_
      refine ol_val (v := .bool (decide (a0.Handle.Gen < a1.Handle.Gen))) (by exact xr_assign rfl rfl) rfl rfl rfl ?_
      refine ol_nil ?_
      refine cw_ret ?_
      repeat (first | with_reducible refine thn_r ?_ | with_reducible refine blk_r ?_)
      obtain rfl := Option.some.inj h
      refine fin_ret1 Try.results41 rfl ?_
      exact ⟨_, rfl, rfl, fB⟩
end Go.Proofs.Ytjhajfkfhdnciaa

/- rickyard/rickyardlaw08.NodeOrders: its model, and that the Go function computes it: written by gen.py. -/
set_option linter.unusedVariables false
namespace Go.Proofs.Ytjhajfkfhdnciaa
open Go Go.Xw
def rickyardlaw08_NodeOrders.f (fu : Nat) (a0 : S_api_Entry) (a1 : S_api_Entry) (a2 : S_api_Entry) : Option Bool := ((rickyardlaw08_awake.f fu : Option Bool).bind fun t22 => (if (!t22) = true then some (false) else ((node_Compare.f fu a0 a1 : Option Int).bind fun t27 => ((node_Compare.f fu a1 a2 : Option Int).bind fun t30 => ((node_Compare.f fu a0 a2 : Option Int).bind fun t36 => ((((rickyardref08_Ahead.f fu a0 a1 : Option Bool).bind fun t42 => (if (!decide ((decide (t27 < 0)) = t42)) = true then some (true) else ((rickyardref08_Ahead.f fu a1 a0 : Option Bool).bind fun t47 => (if (!decide ((decide (t27 > 0)) = t47)) = true then some (true) else (if (decide (t27 < (-1))) = true then some (true) else some ((decide (t27 > 1)))))))) : Option Bool).bind fun x40 => (if x40 = true then some (false) else some ((if (decide (t27 ≤ 0)) = true then (if (!(decide (t30 ≤ 0))) = true then true else (if (decide (t36 ≤ 0)) = true then (if (decide (t27 = 0)) = true then (decide ((decide (t36 = 0)) = (decide (t30 = 0)))) else (decide ((decide (t36 = 0)) = false))) else false)) else (if (!false) = true then true else (if (decide (t36 ≤ 0)) = true then (if (decide (t27 = 0)) = true then (decide ((decide (t36 = 0)) = (decide (t30 = 0)))) else (decide ((decide (t36 = 0)) = false))) else false)))))))))))
set_option maxRecDepth 100000 in
set_option maxHeartbeats 400000 in
theorem rickyardlaw08_NodeOrders.ok (fu : Nat) (w : World) (a0 : S_api_Entry) (a1 : S_api_Entry) (a2 : S_api_Entry) (r : Bool) (h : rickyardlaw08_NodeOrders.f fu a0 a1 a2 = some r) :
    Calls Try.prog 8 (([aggV [Seg.cell (.int .i64 a0.Handle.Slot), Seg.cell (.int .i64 a0.Handle.Gen), Seg.cell (.int .i64 a0.Key), Seg.cell (.int .i64 a0.Value)], aggV [Seg.cell (.int .i64 a1.Handle.Slot), Seg.cell (.int .i64 a1.Handle.Gen), Seg.cell (.int .i64 a1.Key), Seg.cell (.int .i64 a1.Value)], aggV [Seg.cell (.int .i64 a2.Handle.Slot), Seg.cell (.int .i64 a2.Handle.Gen), Seg.cell (.int .i64 a2.Key), Seg.cell (.int .i64 a2.Value)]] : List Value).toArray) w (fun e w' => ∃ v, e = .returned v ∧ v = .bool r ∧ Gr w w') := by
  unfold rickyardlaw08_NodeOrders.f at h
  have fB : Gr w w := Fr.refl _ _
  refine calls_cw Try.func8 rfl Try.ntmps8 rfl ?_
  refine cw_seq ?_
  refine cw_region ?_
  refine ol_op (by exact opv_box (ss := [Seg.cell (.int .i64 a0.Handle.Slot), Seg.cell (.int .i64 a0.Handle.Gen), Seg.cell (.int .i64 a0.Key), Seg.cell (.int .i64 a0.Value)]) rfl rfl rfl) rfl rfl rfl ?_
  rintro _ w6 ⟨G1, rfl, b2, q3, z4⟩
  have z4 := Nat.le_trans fB.size z4
  have fB := fB.gr q3
  refine ol_op (by exact opv_box (ss := [Seg.cell (.int .i64 a1.Handle.Slot), Seg.cell (.int .i64 a1.Handle.Gen), Seg.cell (.int .i64 a1.Key), Seg.cell (.int .i64 a1.Value)]) rfl rfl rfl) rfl rfl rfl ?_
  rintro _ w12 ⟨G7, rfl, b8, q9, z10⟩
  have n13 := Blk.ne b2 z10
  have z10 := Nat.le_trans fB.size z10
  have b2 := b2.gr q9
  have fB := fB.gr q9
  refine ol_op (by exact opv_box (ss := [Seg.cell (.int .i64 a2.Handle.Slot), Seg.cell (.int .i64 a2.Handle.Gen), Seg.cell (.int .i64 a2.Key), Seg.cell (.int .i64 a2.Value)]) rfl rfl rfl) rfl rfl rfl ?_
  rintro _ w19 ⟨G14, rfl, b15, q16, z17⟩
  have n20 := Blk.ne b2 z17
  have n21 := Blk.ne b8 z17
  have z17 := Nat.le_trans fB.size z17
  have b2 := b2.gr q16
  have b8 := b8.gr q16
  have fB := fB.gr q16
  refine ol_val (v := .bool false) (by exact xr_assign rfl rfl) rfl rfl rfl ?_
  refine ol_nil ?_
  refine cw_seq ?_
  refine cw_seq ?_
  refine cw_region ?_
  obtain ⟨t22, k23, h⟩ := bs h
  refine ol_op (by exact opv_call rfl cal35 an (rickyardlaw08_awake.ok fu _ _ k23)) rfl rfl rfl ?_
  rintro _ w25 ⟨rfl, q24⟩
  have b2 := b2.gr q24
  have b8 := b8.gr q24
  have b15 := b15.gr q24
  have fB := fB.gr q24
  refine ol_val (v := .bool (!t22)) (by exact xr_not rfl rfl) rfl rfl rfl ?_
  refine ol_nil ?_
  rcases is h with ⟨c26, h⟩ | ⟨c26, h⟩
  · refine cw_condT rfl c26 ?_
    refine cw_seq ?_
    refine cw_region ?_
    refine ol_val (v := .bool false) (by exact xr_assign rfl rfl) rfl rfl rfl ?_
    refine ol_nil ?_
    refine cw_ret ?_
    repeat (first | with_reducible refine thn_r ?_ | with_reducible refine blk_r ?_)
    obtain rfl := Option.some.inj h
    refine fin_ret1 Try.results8 rfl ?_
    exact ⟨_, rfl, rfl, fB⟩
  · refine cw_condF rfl c26 ?_
    refine cw_skip ?_
    refine cw_seq ?_
    obtain ⟨t27, k28, h⟩ := bs h
    obtain ⟨t30, k31, h⟩ := bs h
    refine cw_drawL 8 [fun vz wz => vz = (aggV [Seg.cell (.int .i64 a0.Handle.Slot), Seg.cell (.int .i64 a0.Handle.Gen), Seg.cell (.int .i64 a0.Key), Seg.cell (.int .i64 a0.Value)] : Value), fun vz wz => vz = (aggV [Seg.cell (.int .i64 a1.Handle.Slot), Seg.cell (.int .i64 a1.Handle.Gen), Seg.cell (.int .i64 a1.Key), Seg.cell (.int .i64 a1.Value)] : Value), fun vz wz => vz = (.int .i64 t27 : Value), fun vz wz => vz = (aggV [Seg.cell (.int .i64 a1.Handle.Slot), Seg.cell (.int .i64 a1.Handle.Gen), Seg.cell (.int .i64 a1.Key), Seg.cell (.int .i64 a1.Value)] : Value), fun vz wz => vz = (aggV [Seg.cell (.int .i64 a2.Handle.Slot), Seg.cell (.int .i64 a2.Handle.Gen), Seg.cell (.int .i64 a2.Key), Seg.cell (.int .i64 a2.Value)] : Value), fun vz wz => vz = (.int .i64 t30 : Value), fun vz wz => vz = (aggV [Seg.cell (.int .i64 a0.Handle.Slot), Seg.cell (.int .i64 a0.Handle.Gen), Seg.cell (.int .i64 a0.Key), Seg.cell (.int .i64 a0.Value)] : Value), fun vz wz => vz = (aggV [Seg.cell (.int .i64 a2.Handle.Slot), Seg.cell (.int .i64 a2.Handle.Gen), Seg.cell (.int .i64 a2.Key), Seg.cell (.int .i64 a2.Value)] : Value)] mo rfl ⟨fun _ _ _ h _ => h, fun _ _ _ h _ => h, fun _ _ _ h _ => h, fun _ _ _ h _ => h, fun _ _ _ h _ => h, fun _ _ _ h _ => h, fun _ _ _ h _ => h, fun _ _ _ h _ => h, trivial⟩ ?_ ?_
    · refine ⟨?_, ?_, ?_, ?_, ?_, ?_, ?_, ?_, trivial⟩
      · intro ρz wz hz hk hd
        exact sk_val (by exact xr_loadS (ss := [Seg.cell (.int .i64 a0.Handle.Slot), Seg.cell (.int .i64 a0.Handle.Gen), Seg.cell (.int .i64 a0.Key), Seg.cell (.int .i64 a0.Value)]) rfl ag44 sz44 rfl ((hk 3 rfl).trans rfl) ((b2.gr hz).segs 0 4 rfl)) rfl rfl
      · intro ρz wz hz hk hd
        exact sk_val (by exact xr_loadS (ss := [Seg.cell (.int .i64 a1.Handle.Slot), Seg.cell (.int .i64 a1.Handle.Gen), Seg.cell (.int .i64 a1.Key), Seg.cell (.int .i64 a1.Value)]) rfl ag44 sz44 rfl ((hk 4 rfl).trans rfl) ((b8.gr hz).segs 0 4 rfl)) rfl rfl
      · intro ρz wz hz hk hd
        have d12 := hd 0 rfl 12 rfl
        have d13 := hd 1 rfl 13 rfl
        refine sk_op (by exact opv_call rfl cal40 (ac d12 (ac d13 an)) (node_Compare.ok fu _ a0 a1 _ k28)) rfl ?_
        rintro _ wy ⟨rfl, q29⟩
        exact ⟨rfl, q29⟩
      · intro ρz wz hz hk hd
        exact sk_val (by exact xr_loadS (ss := [Seg.cell (.int .i64 a1.Handle.Slot), Seg.cell (.int .i64 a1.Handle.Gen), Seg.cell (.int .i64 a1.Key), Seg.cell (.int .i64 a1.Value)]) rfl ag44 sz44 rfl ((hk 4 rfl).trans rfl) ((b8.gr hz).segs 0 4 rfl)) rfl rfl
      · intro ρz wz hz hk hd
        exact sk_val (by exact xr_loadS (ss := [Seg.cell (.int .i64 a2.Handle.Slot), Seg.cell (.int .i64 a2.Handle.Gen), Seg.cell (.int .i64 a2.Key), Seg.cell (.int .i64 a2.Value)]) rfl ag44 sz44 rfl ((hk 5 rfl).trans rfl) ((b15.gr hz).segs 0 4 rfl)) rfl rfl
      · intro ρz wz hz hk hd
        have d15 := hd 3 rfl 15 rfl
        have d16 := hd 4 rfl 16 rfl
        refine sk_op (by exact opv_call rfl cal40 (ac d15 (ac d16 an)) (node_Compare.ok fu _ a1 a2 _ k31)) rfl ?_
        rintro _ wy ⟨rfl, q32⟩
        exact ⟨rfl, q32⟩
      · intro ρz wz hz hk hd
        exact sk_val (by exact xr_loadS (ss := [Seg.cell (.int .i64 a0.Handle.Slot), Seg.cell (.int .i64 a0.Handle.Gen), Seg.cell (.int .i64 a0.Key), Seg.cell (.int .i64 a0.Value)]) rfl ag44 sz44 rfl ((hk 3 rfl).trans rfl) ((b2.gr hz).segs 0 4 rfl)) rfl rfl
      · intro ρz wz hz hk hd
        exact sk_val (by exact xr_loadS (ss := [Seg.cell (.int .i64 a2.Handle.Slot), Seg.cell (.int .i64 a2.Handle.Gen), Seg.cell (.int .i64 a2.Key), Seg.cell (.int .i64 a2.Value)]) rfl ag44 sz44 rfl ((hk 5 rfl).trans rfl) ((b15.gr hz).segs 0 4 rfl)) rfl rfl
    · intro ρ33 w34 q35 hk hd
      have e3 := (hk 3 rfl).trans rfl
      have e4 := (hk 4 rfl).trans rfl
      have e14 := hd 2 rfl 14 rfl
      have e17 := hd 5 rfl 17 rfl
      have e18 := hd 6 rfl 18 rfl
      have e19 := hd 7 rfl 19 rfl
      have b2 := b2.gr q35
      have b8 := b8.gr q35
      have fB := fB.gr q35
      obtain ⟨t36, k37, h⟩ := bs h
      refine ol_op (by exact opv_call rfl cal40 (ac e18 (ac e19 an)) (node_Compare.ok fu _ a0 a2 _ k37)) rfl rfl rfl ?_
      rintro _ w39 ⟨rfl, q38⟩
      have b2 := b2.gr q38
      have b8 := b8.gr q38
      have fB := fB.gr q38
      refine ol_val (v := .int .i64 t27) (by exact xr_assign rfl e14) rfl rfl rfl ?_
      refine ol_val (v := .int .i64 t30) (by exact xr_assign rfl e17) rfl rfl rfl ?_
      refine ol_val (v := .int .i64 t36) (by exact xr_assign rfl rfl) rfl rfl rfl ?_
      refine ol_nil ?_
      refine cw_seq ?_
      refine cw_seq ?_
      obtain ⟨x40, j41, h⟩ := bs h
      refine cw_mid (fun ρ' w' => ρ' 7 = .int .i64 t27 ∧ ρ' 8 = .int .i64 t30 ∧ ρ' 9 = .int .i64 t36 ∧ ρ' 42 = .bool x40 ∧ Gr w39 w') ?_ ?_
      · skip
        refine cw_region ?_
        refine ol_val (v := .int .i64 t27) (by exact xr_move rfl rfl) rfl rfl rfl ?_
        refine ol_val (v := .bool (decide (t27 < 0))) (by exact xr_lss rfl rfl rfl) rfl rfl rfl ?_
        refine ol_val (v := aggV [Seg.cell (.int .i64 a0.Handle.Slot), Seg.cell (.int .i64 a0.Handle.Gen), Seg.cell (.int .i64 a0.Key), Seg.cell (.int .i64 a0.Value)]) (by exact xr_loadS (ss := [Seg.cell (.int .i64 a0.Handle.Slot), Seg.cell (.int .i64 a0.Handle.Gen), Seg.cell (.int .i64 a0.Key), Seg.cell (.int .i64 a0.Value)]) rfl ag44 sz44 rfl e3 (b2.segs 0 4 rfl)) rfl rfl rfl ?_
        refine ol_val (v := aggV [Seg.cell (.int .i64 a1.Handle.Slot), Seg.cell (.int .i64 a1.Handle.Gen), Seg.cell (.int .i64 a1.Key), Seg.cell (.int .i64 a1.Value)]) (by exact xr_loadS (ss := [Seg.cell (.int .i64 a1.Handle.Slot), Seg.cell (.int .i64 a1.Handle.Gen), Seg.cell (.int .i64 a1.Key), Seg.cell (.int .i64 a1.Value)]) rfl ag44 sz44 rfl e4 (b8.segs 0 4 rfl)) rfl rfl rfl ?_
        obtain ⟨t42, k43, j41⟩ := bs j41
        refine ol_op (by exact opv_call rfl cal41 (ac rfl (ac rfl an)) (rickyardref08_Ahead.ok fu _ a0 a1 _ k43)) rfl rfl rfl ?_
        rintro _ w45 ⟨rfl, q44⟩
        have b2 := b2.gr q44
        have b8 := b8.gr q44
        have fB := fB.gr q44
        refine ol_val (v := .bool (!decide ((decide (t27 < 0)) = t42))) (by exact xr_neB rfl Try.underlying4 rfl rfl) rfl rfl rfl ?_
        refine ol_val (v := .bool (!decide ((decide (t27 < 0)) = t42))) (by exact xr_move rfl rfl) rfl rfl rfl ?_
        rcases is j41 with ⟨c46, j41⟩ | ⟨c46, j41⟩
        · skip
          refine ol_gskip rfl rfl rfl rfl rfl c46 ?_
          refine ol_gskip rfl rfl rfl rfl rfl c46 ?_
          refine ol_gskip rfl rfl rfl rfl rfl c46 ?_
          refine ol_gskip rfl rfl rfl rfl rfl c46 ?_
          refine ol_gskip rfl rfl rfl rfl rfl c46 ?_
          refine ol_gskip rfl rfl rfl rfl rfl c46 ?_
          refine ol_val (v := .bool true) (by exact xr_pickT rfl rfl c46 rfl) rfl rfl rfl ?_
          refine ol_val (v := .bool true) (by exact xr_move rfl rfl) rfl rfl rfl ?_
          refine ol_gskip rfl rfl rfl rfl rfl rfl ?_
          refine ol_gskip rfl rfl rfl rfl rfl rfl ?_
          refine ol_val (v := .bool true) (by exact xr_pickT rfl rfl rfl rfl) rfl rfl rfl ?_
          refine ol_val (v := .bool true) (by exact xr_move rfl rfl) rfl rfl rfl ?_
          refine ol_gskip rfl rfl rfl rfl rfl rfl ?_
          refine ol_gskip rfl rfl rfl rfl rfl rfl ?_
          refine ol_val (v := .bool true) (by exact xr_pickT rfl rfl rfl rfl) rfl rfl rfl ?_
          refine ol_nil ?_
          obtain rfl := Option.some.inj j41
          refine thn_i ?_
          exact ⟨rfl, rfl, rfl, rfl, q44⟩
        · skip
          refine ol_gval (v := .int .i64 t27) (by exact xr_move rfl rfl) rfl rfl rfl rfl rfl c46 ?_
          refine ol_gval (v := .bool (decide (t27 > 0))) (by exact xr_gtr rfl rfl rfl) rfl rfl rfl rfl rfl c46 ?_
          refine ol_gval (v := aggV [Seg.cell (.int .i64 a1.Handle.Slot), Seg.cell (.int .i64 a1.Handle.Gen), Seg.cell (.int .i64 a1.Key), Seg.cell (.int .i64 a1.Value)]) (by exact xr_loadS (ss := [Seg.cell (.int .i64 a1.Handle.Slot), Seg.cell (.int .i64 a1.Handle.Gen), Seg.cell (.int .i64 a1.Key), Seg.cell (.int .i64 a1.Value)]) rfl ag44 sz44 rfl e4 (b8.segs 0 4 rfl)) rfl rfl rfl rfl rfl c46 ?_
          refine ol_gval (v := aggV [Seg.cell (.int .i64 a0.Handle.Slot), Seg.cell (.int .i64 a0.Handle.Gen), Seg.cell (.int .i64 a0.Key), Seg.cell (.int .i64 a0.Value)]) (by exact xr_loadS (ss := [Seg.cell (.int .i64 a0.Handle.Slot), Seg.cell (.int .i64 a0.Handle.Gen), Seg.cell (.int .i64 a0.Key), Seg.cell (.int .i64 a0.Value)]) rfl ag44 sz44 rfl e3 (b2.segs 0 4 rfl)) rfl rfl rfl rfl rfl c46 ?_
          obtain ⟨t47, k48, j41⟩ := bs j41
          refine ol_gop (by exact opv_call rfl cal41 (ac rfl (ac rfl an)) (rickyardref08_Ahead.ok fu _ a1 a0 _ k48)) rfl rfl rfl rfl rfl c46 ?_
          rintro _ w50 ⟨rfl, q49⟩
          have fB := fB.gr q49
          refine ol_gval (v := .bool (!decide ((decide (t27 > 0)) = t47))) (by exact xr_neB rfl Try.underlying4 rfl rfl) rfl rfl rfl rfl rfl c46 ?_
          refine ol_val (v := .bool (!decide ((decide (t27 > 0)) = t47))) (by exact xr_pickF rfl rfl c46 rfl) rfl rfl rfl ?_
          refine ol_val (v := .bool (!decide ((decide (t27 > 0)) = t47))) (by exact xr_move rfl rfl) rfl rfl rfl ?_
          rcases is j41 with ⟨c51, j41⟩ | ⟨c51, j41⟩
          · skip
            refine ol_gskip rfl rfl rfl rfl rfl c51 ?_
            refine ol_gskip rfl rfl rfl rfl rfl c51 ?_
            refine ol_val (v := .bool true) (by exact xr_pickT rfl rfl c51 rfl) rfl rfl rfl ?_
            refine ol_val (v := .bool true) (by exact xr_move rfl rfl) rfl rfl rfl ?_
            refine ol_gskip rfl rfl rfl rfl rfl rfl ?_
            refine ol_gskip rfl rfl rfl rfl rfl rfl ?_
            refine ol_val (v := .bool true) (by exact xr_pickT rfl rfl rfl rfl) rfl rfl rfl ?_
            refine ol_nil ?_
            obtain rfl := Option.some.inj j41
            refine thn_i ?_
            exact ⟨rfl, rfl, rfl, rfl, (q44.gr q49)⟩
          · skip
            refine ol_gval (v := .int .i64 t27) (by exact xr_move rfl rfl) rfl rfl rfl rfl rfl c51 ?_
            refine ol_gval (v := .bool (decide (t27 < (-1)))) (by exact xr_lss rfl rfl rfl) rfl rfl rfl rfl rfl c51 ?_
            refine ol_val (v := .bool (decide (t27 < (-1)))) (by exact xr_pickF rfl rfl c51 rfl) rfl rfl rfl ?_
            refine ol_val (v := .bool (decide (t27 < (-1)))) (by exact xr_move rfl rfl) rfl rfl rfl ?_
            rcases is j41 with ⟨c52, j41⟩ | ⟨c52, j41⟩
            · skip
              refine ol_gskip rfl rfl rfl rfl rfl c52 ?_
              refine ol_gskip rfl rfl rfl rfl rfl c52 ?_
              refine ol_val (v := .bool true) (by exact xr_pickT rfl rfl c52 rfl) rfl rfl rfl ?_
              refine ol_nil ?_
              obtain rfl := Option.some.inj j41
              refine thn_i ?_
              exact ⟨rfl, rfl, rfl, rfl, (q44.gr q49)⟩
            · skip
              refine ol_gval (v := .int .i64 t27) (by exact xr_move rfl rfl) rfl rfl rfl rfl rfl c52 ?_
              refine ol_gval (v := .bool (decide (t27 > 1))) (by exact xr_gtr rfl rfl rfl) rfl rfl rfl rfl rfl c52 ?_
              refine ol_val (v := .bool (decide (t27 > 1))) (by exact xr_pickF rfl rfl c52 rfl) rfl rfl rfl ?_
              refine ol_nil ?_
              obtain rfl := Option.some.inj j41
              refine thn_i ?_
              exact ⟨rfl, rfl, rfl, rfl, (q44.gr q49)⟩
      · skip
        rintro ρ53 w54 ⟨e7, e8, e9, e42, q55⟩
        have fB := fB.gr q55
        rcases is h with ⟨c56, h⟩ | ⟨c56, h⟩
        · refine cw_condT e42 c56 ?_
          refine cw_seq ?_
          refine cw_region ?_
          refine ol_val (v := .bool false) (by exact xr_assign rfl rfl) rfl rfl rfl ?_
          refine ol_nil ?_
          refine cw_ret ?_
          repeat (first | with_reducible refine thn_r ?_ | with_reducible refine blk_r ?_)
          obtain rfl := Option.some.inj h
          refine fin_ret1 Try.results8 rfl ?_
          exact ⟨_, rfl, rfl, fB⟩
        · refine cw_condF e42 c56 ?_
          refine cw_skip ?_
          refine cw_seq ?_
          refine cw_mid (fun ρ' w' => ρ' 6 = .bool (if (decide (t27 ≤ 0)) = true then (if (!(decide (t30 ≤ 0))) = true then true else (if (decide (t36 ≤ 0)) = true then (if (decide (t27 = 0)) = true then (decide ((decide (t36 = 0)) = (decide (t30 = 0)))) else (decide ((decide (t36 = 0)) = false))) else false)) else (if (!false) = true then true else (if (decide (t36 ≤ 0)) = true then (if (decide (t27 = 0)) = true then (decide ((decide (t36 = 0)) = (decide (t30 = 0)))) else (decide ((decide (t36 = 0)) = false))) else false))) ∧ w54 = w') ?_ ?_
          · skip
            refine cw_region ?_
            refine ol_val (v := .int .i64 t27) (by exact xr_move rfl e7) rfl rfl rfl ?_
            refine ol_val (v := .bool (decide (t27 ≤ 0))) (by exact xr_leq rfl rfl rfl) rfl rfl rfl ?_
            refine ol_val (v := .bool (decide (t27 ≤ 0))) (by exact xr_move rfl rfl) rfl rfl rfl ?_
            rcases bt (decide (t27 ≤ 0)) with c57 | c57
            · skip
              refine ol_gval (v := .int .i64 t30) (by exact xr_move rfl e8) rfl rfl rfl rfl rfl c57 ?_
              refine ol_gval (v := .bool (decide (t30 ≤ 0))) (by exact xr_leq rfl rfl rfl) rfl rfl rfl rfl rfl c57 ?_
              refine ol_val (v := .bool (decide (t30 ≤ 0))) (by exact xr_pickT rfl rfl c57 rfl) rfl rfl rfl ?_
              refine ol_val (v := .bool (!(decide (t30 ≤ 0)))) (by exact xr_not rfl rfl) rfl rfl rfl ?_
              refine ol_val (v := .bool (!(decide (t30 ≤ 0)))) (by exact xr_move rfl rfl) rfl rfl rfl ?_
              rcases bt (!(decide (t30 ≤ 0))) with c58 | c58
              · skip
                refine ol_gskip rfl rfl rfl rfl rfl c58 ?_
                refine ol_gskip rfl rfl rfl rfl rfl c58 ?_
                refine ol_gskip rfl rfl rfl rfl rfl c58 ?_
                refine ol_uskip rfl rfl rfl rfl rfl ?_
                refine ol_uskip rfl rfl rfl rfl rfl ?_
                refine ol_uskip rfl rfl rfl rfl rfl ?_
                refine ol_uskip rfl rfl rfl rfl rfl ?_
                refine ol_uskip rfl rfl rfl rfl rfl ?_
                refine ol_uskip rfl rfl rfl rfl rfl ?_
                refine ol_uskip rfl rfl rfl rfl rfl ?_
                refine ol_uskip rfl rfl rfl rfl rfl ?_
                refine ol_uskip rfl rfl rfl rfl rfl ?_
                refine ol_gskip rfl rfl rfl rfl rfl c58 ?_
                refine ol_val (v := .bool true) (by exact xr_pickT rfl rfl c58 rfl) rfl rfl rfl ?_
                refine ol_val (v := .bool true) (by exact xr_assign rfl rfl) rfl rfl rfl ?_
                refine ol_nil ?_
                refine thn_i ?_
                exact ⟨(rfl).trans (congrArg (fun z => (.bool z : Value)) (show true = (if (decide (t27 ≤ 0)) = true then (if (!(decide (t30 ≤ 0))) = true then true else (if (decide (t36 ≤ 0)) = true then (if (decide (t27 = 0)) = true then (decide ((decide (t36 = 0)) = (decide (t30 = 0)))) else (decide ((decide (t36 = 0)) = false))) else false)) else (if (!false) = true then true else (if (decide (t36 ≤ 0)) = true then (if (decide (t27 = 0)) = true then (decide ((decide (t36 = 0)) = (decide (t30 = 0)))) else (decide ((decide (t36 = 0)) = false))) else false))) from by rw [ite_t c57, ite_t c58])), rfl⟩
              · skip
                refine ol_gval (v := .int .i64 t36) (by exact xr_move rfl e9) rfl rfl rfl rfl rfl c58 ?_
                refine ol_gval (v := .bool (decide (t36 ≤ 0))) (by exact xr_leq rfl rfl rfl) rfl rfl rfl rfl rfl c58 ?_
                refine ol_gval (v := .bool (decide (t36 ≤ 0))) (by exact xr_move rfl rfl) rfl rfl rfl rfl rfl c58 ?_
                rcases bt (decide (t36 ≤ 0)) with c59 | c59
                · skip
                  refine ol_gval (v := .int .i64 t36) (by exact xr_move rfl e9) rfl rfl rfl rfl rfl c59 ?_
                  refine ol_gval (v := .bool (decide (t36 = 0))) (by exact xr_eqI rfl Try.underlying3 rfl rfl rfl) rfl rfl rfl rfl rfl c59 ?_
                  refine ol_gval (v := .int .i64 t27) (by exact xr_move rfl e7) rfl rfl rfl rfl rfl c59 ?_
                  refine ol_gval (v := .bool (decide (t27 = 0))) (by exact xr_eqI rfl Try.underlying3 rfl rfl rfl) rfl rfl rfl rfl rfl c59 ?_
                  refine ol_gval (v := .bool (decide (t27 = 0))) (by exact xr_move rfl rfl) rfl rfl rfl rfl rfl c59 ?_
                  rcases bt (decide (t27 = 0)) with c60 | c60
                  · skip
                    refine ol_gval (v := .int .i64 t30) (by exact xr_move rfl e8) rfl rfl rfl rfl rfl c60 ?_
                    refine ol_gval (v := .bool (decide (t30 = 0))) (by exact xr_eqI rfl Try.underlying3 rfl rfl rfl) rfl rfl rfl rfl rfl c60 ?_
                    refine ol_gval (v := .bool (decide (t30 = 0))) (by exact xr_pickT rfl rfl c60 rfl) rfl rfl rfl rfl rfl c59 ?_
                    refine ol_gval (v := .bool (decide ((decide (t36 = 0)) = (decide (t30 = 0))))) (by exact xr_eqB rfl Try.underlying4 rfl rfl) rfl rfl rfl rfl rfl c59 ?_
                    refine ol_gval (v := .bool (decide ((decide (t36 = 0)) = (decide (t30 = 0))))) (by exact xr_pickT rfl rfl c59 rfl) rfl rfl rfl rfl rfl c58 ?_
                    refine ol_val (v := .bool (decide ((decide (t36 = 0)) = (decide (t30 = 0))))) (by exact xr_pickF rfl rfl c58 rfl) rfl rfl rfl ?_
                    refine ol_val (v := .bool (decide ((decide (t36 = 0)) = (decide (t30 = 0))))) (by exact xr_assign rfl rfl) rfl rfl rfl ?_
                    refine ol_nil ?_
                    refine thn_i ?_
                    exact ⟨(rfl).trans (congrArg (fun z => (.bool z : Value)) (show (decide ((decide (t36 = 0)) = (decide (t30 = 0)))) = (if (decide (t27 ≤ 0)) = true then (if (!(decide (t30 ≤ 0))) = true then true else (if (decide (t36 ≤ 0)) = true then (if (decide (t27 = 0)) = true then (decide ((decide (t36 = 0)) = (decide (t30 = 0)))) else (decide ((decide (t36 = 0)) = false))) else false)) else (if (!false) = true then true else (if (decide (t36 ≤ 0)) = true then (if (decide (t27 = 0)) = true then (decide ((decide (t36 = 0)) = (decide (t30 = 0)))) else (decide ((decide (t36 = 0)) = false))) else false))) from by rw [ite_t c57, ite_f c58, ite_t c59, ite_t c60])), rfl⟩
                  · skip
                    refine ol_gskip rfl rfl rfl rfl rfl c60 ?_
                    refine ol_gskip rfl rfl rfl rfl rfl c60 ?_
                    refine ol_gval (v := .bool false) (by exact xr_pickF rfl rfl c60 rfl) rfl rfl rfl rfl rfl c59 ?_
                    refine ol_gval (v := .bool (decide ((decide (t36 = 0)) = false))) (by exact xr_eqB rfl Try.underlying4 rfl rfl) rfl rfl rfl rfl rfl c59 ?_
                    refine ol_gval (v := .bool (decide ((decide (t36 = 0)) = false))) (by exact xr_pickT rfl rfl c59 rfl) rfl rfl rfl rfl rfl c58 ?_
                    refine ol_val (v := .bool (decide ((decide (t36 = 0)) = false))) (by exact xr_pickF rfl rfl c58 rfl) rfl rfl rfl ?_
                    refine ol_val (v := .bool (decide ((decide (t36 = 0)) = false))) (by exact xr_assign rfl rfl) rfl rfl rfl ?_
                    refine ol_nil ?_
                    refine thn_i ?_
                    exact ⟨(rfl).trans (congrArg (fun z => (.bool z : Value)) (show (decide ((decide (t36 = 0)) = false)) = (if (decide (t27 ≤ 0)) = true then (if (!(decide (t30 ≤ 0))) = true then true else (if (decide (t36 ≤ 0)) = true then (if (decide (t27 = 0)) = true then (decide ((decide (t36 = 0)) = (decide (t30 = 0)))) else (decide ((decide (t36 = 0)) = false))) else false)) else (if (!false) = true then true else (if (decide (t36 ≤ 0)) = true then (if (decide (t27 = 0)) = true then (decide ((decide (t36 = 0)) = (decide (t30 = 0)))) else (decide ((decide (t36 = 0)) = false))) else false))) from by rw [ite_t c57, ite_f c58, ite_t c59, ite_f c60])), rfl⟩
                · skip
                  refine ol_gskip rfl rfl rfl rfl rfl c59 ?_
                  refine ol_gskip rfl rfl rfl rfl rfl c59 ?_
                  refine ol_gskip rfl rfl rfl rfl rfl c59 ?_
                  refine ol_gskip rfl rfl rfl rfl rfl c59 ?_
                  refine ol_gskip rfl rfl rfl rfl rfl c59 ?_
                  refine ol_uskip rfl rfl rfl rfl rfl ?_
                  refine ol_uskip rfl rfl rfl rfl rfl ?_
                  refine ol_gskip rfl rfl rfl rfl rfl c59 ?_
                  refine ol_gskip rfl rfl rfl rfl rfl c59 ?_
                  refine ol_gval (v := .bool false) (by exact xr_pickF rfl rfl c59 rfl) rfl rfl rfl rfl rfl c58 ?_
                  refine ol_val (v := .bool false) (by exact xr_pickF rfl rfl c58 rfl) rfl rfl rfl ?_
                  refine ol_val (v := .bool false) (by exact xr_assign rfl rfl) rfl rfl rfl ?_
                  refine ol_nil ?_
                  refine thn_i ?_
                  exact ⟨(rfl).trans (congrArg (fun z => (.bool z : Value)) (show false = (if (decide (t27 ≤ 0)) = true then (if (!(decide (t30 ≤ 0))) = true then true else (if (decide (t36 ≤ 0)) = true then (if (decide (t27 = 0)) = true then (decide ((decide (t36 = 0)) = (decide (t30 = 0)))) else (decide ((decide (t36 = 0)) = false))) else false)) else (if (!false) = true then true else (if (decide (t36 ≤ 0)) = true then (if (decide (t27 = 0)) = true then (decide ((decide (t36 = 0)) = (decide (t30 = 0)))) else (decide ((decide (t36 = 0)) = false))) else false))) from by rw [ite_t c57, ite_f c58, ite_f c59])), rfl⟩
            · skip
              refine ol_gskip rfl rfl rfl rfl rfl c57 ?_
              refine ol_gskip rfl rfl rfl rfl rfl c57 ?_
              refine ol_val (v := .bool false) (by exact xr_pickF rfl rfl c57 rfl) rfl rfl rfl ?_
              refine ol_val (v := .bool (!false)) (by exact xr_not rfl rfl) rfl rfl rfl ?_
              refine ol_val (v := .bool (!false)) (by exact xr_move rfl rfl) rfl rfl rfl ?_
              rcases bt (!false) with c61 | c61
              · skip
                refine ol_gskip rfl rfl rfl rfl rfl c61 ?_
                refine ol_gskip rfl rfl rfl rfl rfl c61 ?_
                refine ol_gskip rfl rfl rfl rfl rfl c61 ?_
                refine ol_uskip rfl rfl rfl rfl rfl ?_
                refine ol_uskip rfl rfl rfl rfl rfl ?_
                refine ol_uskip rfl rfl rfl rfl rfl ?_
                refine ol_uskip rfl rfl rfl rfl rfl ?_
                refine ol_uskip rfl rfl rfl rfl rfl ?_
                refine ol_uskip rfl rfl rfl rfl rfl ?_
                refine ol_uskip rfl rfl rfl rfl rfl ?_
                refine ol_uskip rfl rfl rfl rfl rfl ?_
                refine ol_uskip rfl rfl rfl rfl rfl ?_
                refine ol_gskip rfl rfl rfl rfl rfl c61 ?_
                refine ol_val (v := .bool true) (by exact xr_pickT rfl rfl c61 rfl) rfl rfl rfl ?_
                refine ol_val (v := .bool true) (by exact xr_assign rfl rfl) rfl rfl rfl ?_
                refine ol_nil ?_
                refine thn_i ?_
                exact ⟨(rfl).trans (congrArg (fun z => (.bool z : Value)) (show true = (if (decide (t27 ≤ 0)) = true then (if (!(decide (t30 ≤ 0))) = true then true else (if (decide (t36 ≤ 0)) = true then (if (decide (t27 = 0)) = true then (decide ((decide (t36 = 0)) = (decide (t30 = 0)))) else (decide ((decide (t36 = 0)) = false))) else false)) else (if (!false) = true then true else (if (decide (t36 ≤ 0)) = true then (if (decide (t27 = 0)) = true then (decide ((decide (t36 = 0)) = (decide (t30 = 0)))) else (decide ((decide (t36 = 0)) = false))) else false))) from by rw [ite_f c57, ite_t c61])), rfl⟩
              · skip
                refine ol_gval (v := .int .i64 t36) (by exact xr_move rfl e9) rfl rfl rfl rfl rfl c61 ?_
                refine ol_gval (v := .bool (decide (t36 ≤ 0))) (by exact xr_leq rfl rfl rfl) rfl rfl rfl rfl rfl c61 ?_
                refine ol_gval (v := .bool (decide (t36 ≤ 0))) (by exact xr_move rfl rfl) rfl rfl rfl rfl rfl c61 ?_
                rcases bt (decide (t36 ≤ 0)) with c62 | c62
                · skip
                  refine ol_gval (v := .int .i64 t36) (by exact xr_move rfl e9) rfl rfl rfl rfl rfl c62 ?_
                  refine ol_gval (v := .bool (decide (t36 = 0))) (by exact xr_eqI rfl Try.underlying3 rfl rfl rfl) rfl rfl rfl rfl rfl c62 ?_
                  refine ol_gval (v := .int .i64 t27) (by exact xr_move rfl e7) rfl rfl rfl rfl rfl c62 ?_
                  refine ol_gval (v := .bool (decide (t27 = 0))) (by exact xr_eqI rfl Try.underlying3 rfl rfl rfl) rfl rfl rfl rfl rfl c62 ?_
                  refine ol_gval (v := .bool (decide (t27 = 0))) (by exact xr_move rfl rfl) rfl rfl rfl rfl rfl c62 ?_
                  rcases bt (decide (t27 = 0)) with c63 | c63
                  · skip
                    refine ol_gval (v := .int .i64 t30) (by exact xr_move rfl e8) rfl rfl rfl rfl rfl c63 ?_
                    refine ol_gval (v := .bool (decide (t30 = 0))) (by exact xr_eqI rfl Try.underlying3 rfl rfl rfl) rfl rfl rfl rfl rfl c63 ?_
                    refine ol_gval (v := .bool (decide (t30 = 0))) (by exact xr_pickT rfl rfl c63 rfl) rfl rfl rfl rfl rfl c62 ?_
                    refine ol_gval (v := .bool (decide ((decide (t36 = 0)) = (decide (t30 = 0))))) (by exact xr_eqB rfl Try.underlying4 rfl rfl) rfl rfl rfl rfl rfl c62 ?_
                    refine ol_gval (v := .bool (decide ((decide (t36 = 0)) = (decide (t30 = 0))))) (by exact xr_pickT rfl rfl c62 rfl) rfl rfl rfl rfl rfl c61 ?_
                    refine ol_val (v := .bool (decide ((decide (t36 = 0)) = (decide (t30 = 0))))) (by exact xr_pickF rfl rfl c61 rfl) rfl rfl rfl ?_
                    refine ol_val (v := .bool (decide ((decide (t36 = 0)) = (decide (t30 = 0))))) (by exact xr_assign rfl rfl) rfl rfl rfl ?_
                    refine ol_nil ?_
                    refine thn_i ?_
                    exact ⟨(rfl).trans (congrArg (fun z => (.bool z : Value)) (show (decide ((decide (t36 = 0)) = (decide (t30 = 0)))) = (if (decide (t27 ≤ 0)) = true then (if (!(decide (t30 ≤ 0))) = true then true else (if (decide (t36 ≤ 0)) = true then (if (decide (t27 = 0)) = true then (decide ((decide (t36 = 0)) = (decide (t30 = 0)))) else (decide ((decide (t36 = 0)) = false))) else false)) else (if (!false) = true then true else (if (decide (t36 ≤ 0)) = true then (if (decide (t27 = 0)) = true then (decide ((decide (t36 = 0)) = (decide (t30 = 0)))) else (decide ((decide (t36 = 0)) = false))) else false))) from by rw [ite_f c57, ite_f c61, ite_t c62, ite_t c63])), rfl⟩
                  · skip
                    refine ol_gskip rfl rfl rfl rfl rfl c63 ?_
                    refine ol_gskip rfl rfl rfl rfl rfl c63 ?_
                    refine ol_gval (v := .bool false) (by exact xr_pickF rfl rfl c63 rfl) rfl rfl rfl rfl rfl c62 ?_
                    refine ol_gval (v := .bool (decide ((decide (t36 = 0)) = false))) (by exact xr_eqB rfl Try.underlying4 rfl rfl) rfl rfl rfl rfl rfl c62 ?_
                    refine ol_gval (v := .bool (decide ((decide (t36 = 0)) = false))) (by exact xr_pickT rfl rfl c62 rfl) rfl rfl rfl rfl rfl c61 ?_
                    refine ol_val (v := .bool (decide ((decide (t36 = 0)) = false))) (by exact xr_pickF rfl rfl c61 rfl) rfl rfl rfl ?_
                    refine ol_val (v := .bool (decide ((decide (t36 = 0)) = false))) (by exact xr_assign rfl rfl) rfl rfl rfl ?_
                    refine ol_nil ?_
                    refine thn_i ?_
                    exact ⟨(rfl).trans (congrArg (fun z => (.bool z : Value)) (show (decide ((decide (t36 = 0)) = false)) = (if (decide (t27 ≤ 0)) = true then (if (!(decide (t30 ≤ 0))) = true then true else (if (decide (t36 ≤ 0)) = true then (if (decide (t27 = 0)) = true then (decide ((decide (t36 = 0)) = (decide (t30 = 0)))) else (decide ((decide (t36 = 0)) = false))) else false)) else (if (!false) = true then true else (if (decide (t36 ≤ 0)) = true then (if (decide (t27 = 0)) = true then (decide ((decide (t36 = 0)) = (decide (t30 = 0)))) else (decide ((decide (t36 = 0)) = false))) else false))) from by rw [ite_f c57, ite_f c61, ite_t c62, ite_f c63])), rfl⟩
                · skip
                  refine ol_gskip rfl rfl rfl rfl rfl c62 ?_
                  refine ol_gskip rfl rfl rfl rfl rfl c62 ?_
                  refine ol_gskip rfl rfl rfl rfl rfl c62 ?_
                  refine ol_gskip rfl rfl rfl rfl rfl c62 ?_
                  refine ol_gskip rfl rfl rfl rfl rfl c62 ?_
                  refine ol_uskip rfl rfl rfl rfl rfl ?_
                  refine ol_uskip rfl rfl rfl rfl rfl ?_
                  refine ol_gskip rfl rfl rfl rfl rfl c62 ?_
                  refine ol_gskip rfl rfl rfl rfl rfl c62 ?_
                  refine ol_gval (v := .bool false) (by exact xr_pickF rfl rfl c62 rfl) rfl rfl rfl rfl rfl c61 ?_
                  refine ol_val (v := .bool false) (by exact xr_pickF rfl rfl c61 rfl) rfl rfl rfl ?_
                  refine ol_val (v := .bool false) (by exact xr_assign rfl rfl) rfl rfl rfl ?_
                  refine ol_nil ?_
                  refine thn_i ?_
                  exact ⟨(rfl).trans (congrArg (fun z => (.bool z : Value)) (show false = (if (decide (t27 ≤ 0)) = true then (if (!(decide (t30 ≤ 0))) = true then true else (if (decide (t36 ≤ 0)) = true then (if (decide (t27 = 0)) = true then (decide ((decide (t36 = 0)) = (decide (t30 = 0)))) else (decide ((decide (t36 = 0)) = false))) else false)) else (if (!false) = true then true else (if (decide (t36 ≤ 0)) = true then (if (decide (t27 = 0)) = true then (decide ((decide (t36 = 0)) = (decide (t30 = 0)))) else (decide ((decide (t36 = 0)) = false))) else false))) from by rw [ite_f c57, ite_f c61, ite_f c62])), rfl⟩
          · skip
            rintro ρ64 _ ⟨e6, rfl⟩
            refine cw_ret ?_
            repeat (first | with_reducible refine thn_r ?_ | with_reducible refine blk_r ?_)
            obtain rfl := Option.some.inj h
            refine fin_ret1 Try.results8 e6 ?_
            exact ⟨_, rfl, rfl, fB⟩
end Go.Proofs.Ytjhajfkfhdnciaa

/- What a row's arguments are: the readings of arguments opened into records, lists and their facts. -/
set_option linter.unusedVariables false
set_option linter.unusedSimpArgs false
namespace Go.Xw
open Go
variable {P : Program} {w : World}
def Opn {α : Type} (P : Program) (w : World) (T : TypeId) (K : Kd α) (ok : α → Prop) : Prop :=
  ∀ {H : Type} (enc : TypeId × Value → H) (base : Nat) (sp : Nat → Bool) (held : Bool) (fuel : Nat) (cs : List Value) (x : DataW H × List MemPlace), DataW.trod enc P w base sp held fuel T cs = some x → ∃ a : α, cs = K.enc a ∧ ok a
theorem opn_int {T : TypeId} {k : IntKind} (ht : P.underlying T = some (.int k)) : Opn P w T (kI k) (fun n => (Lit.int k n).wf = true) := by
  intro H enc base sp held fuel cs x h
  obtain ⟨n, rfl, _, hw⟩ := DataW.trod_int ht h
  exact ⟨n, rfl, hw⟩
theorem opn_bool {T : TypeId} (ht : P.underlying T = some .bool) : Opn P w T kB (fun _ => True) := by
  intro H enc base sp held fuel cs x h
  obtain ⟨b, rfl, _⟩ := DataW.trod_bool ht h
  exact ⟨b, rfl, trivial⟩
theorem opn_str {T : TypeId} (ht : P.underlying T = some .string) : Opn P w T kS (fun l => l.length ≤ maxLen) := by
  intro H enc base sp held fuel cs x h
  obtain ⟨⟨⟨l⟩⟩, rfl, _, hs⟩ := DataW.trod_string ht h
  exact ⟨l, rfl, by simpa [ByteArray.size] using hs⟩
theorem chunks {α : Type} (K : Kd α) (ok : α → Prop) : ∀ (n : Nat) (cs : List Value), cs.length = n * K.size → (∀ i, i < n → ∃ a, (cs.drop (i * K.size)).take K.size = K.enc a ∧ ok a) → ∃ l : List α, l.length = n ∧ cs = l.flatMap K.enc ∧ ∀ a ∈ l, ok a
  | 0, cs, hl, _ => ⟨[], rfl, by simpa using hl, by simp⟩
  | n + 1, cs, hl, h => by
    obtain ⟨a, ha, hok⟩ := h 0 (by omega)
    rw [Nat.zero_mul, List.drop_zero] at ha
    have hl' : cs.length = n * K.size + K.size := by rw [hl, Nat.succ_mul]
    obtain ⟨l, h1, h2, h3⟩ := chunks K ok n (cs.drop K.size) (by rw [List.length_drop]; omega) (fun i hi => by
      have := h (i + 1) (by omega)
      rw [List.drop_drop, Nat.add_comm, ← Nat.succ_mul]
      exact this)
    refine ⟨a :: l, by simp [h1], ?_, ?_⟩
    · rw [List.flatMap_cons, ← h2, ← ha, List.take_append_drop]
    · intro b hb
      rcases List.mem_cons.1 hb with rfl | hb
      · exact hok
      · exact h3 b hb
theorem ms_len {α β : Type} {f : α → Option β} : ∀ {l : List α} {ys : List β}, l.mapM f = some ys → ys.length = l.length
  | [], ys, h => by simp at h; subst h; rfl
  | a :: l, ys, h => by
    rw [List.mapM_cons] at h
    obtain ⟨b, _, h⟩ := Option.bind_eq_some_iff.1 h
    obtain ⟨bs, hb, h⟩ := Option.bind_eq_some_iff.1 h
    simp at h
    subst h
    simp [ms_len hb]
theorem ms_get {α β : Type} {f : α → Option β} : ∀ {l : List α} {ys : List β}, l.mapM f = some ys → ∀ (i : Nat) (a : α), l[i]? = some a → ∃ y, ys[i]? = some y ∧ f a = some y
  | [], ys, h, i, a, ha => by simp at ha
  | b :: l, ys, h, i, a, ha => by
    rw [List.mapM_cons] at h
    obtain ⟨c, hc, h⟩ := Option.bind_eq_some_iff.1 h
    obtain ⟨bs, hb, h⟩ := Option.bind_eq_some_iff.1 h
    simp at h
    subst h
    cases i with
    | zero =>
      simp at ha
      subst ha
      exact ⟨c, rfl, hc⟩
    | succ i =>
      simp at ha
      obtain ⟨y, h1, h2⟩ := ms_get hb i a ha
      exact ⟨y, by simpa using h1, h2⟩
theorem trod_arr {H : Type} {enc : TypeId × Value → H} {base : Nat} {sp : Nat → Bool} {held : Bool} {fuel : Nat} {T e : TypeId} {n : Nat} {cs : List Value} {x : DataW H × List MemPlace} (ht : P.underlying T = some (.array n e)) (h : DataW.trod enc P w base sp held fuel T cs = some x) :
    cs.length = P.cellsOf T ∧ ∃ m, ∀ i, i < n → ∃ y, DataW.trod enc P w base sp held m e ((cs.drop (i * P.cellsOf e)).take (P.cellsOf e)) = some y := by
  cases fuel with
  | zero => simp [DataW.trod] at h
  | succ m =>
    unfold DataW.trod at h
    rw [ht] at h
    simp only at h
    split at h
    · rename_i hl
      refine ⟨hl, m, fun i hi => ?_⟩
      obtain ⟨xs, hx, _⟩ := Option.map_eq_some_iff.1 h
      obtain ⟨y, _, hy⟩ := ms_get hx i i (by simp [hi])
      exact ⟨y, hy⟩
    · cases h
theorem opn_arr {α : Type} {K : Kd α} {ok : α → Prop} {T e : TypeId} {n : Nat} (ht : P.underlying T = some (.array n e)) (hc : P.cellsOf T = n * P.cellsOf e) (he : P.cellsOf e = K.size) (ho : Opn P w e K ok) : Opn P w T (kA n K) (fun a => ∀ x ∈ a.l, ok x) := by
  intro H enc base sp held fuel cs x h
  obtain ⟨hl, m, hm⟩ := trod_arr ht h
  obtain ⟨l, h1, h2, h3⟩ := chunks K ok n cs (by rw [hl, hc, he]) (fun i hi => by
    obtain ⟨y, hy⟩ := hm i hi
    obtain ⟨a, ha⟩ := ho enc base sp held m _ y hy
    rw [he] at ha
    exact ⟨a, ha⟩)
  exact ⟨⟨l, h1⟩, h2, h3⟩
/-- The fields of a struct, one behind another. -/
theorem fld_cons {cs : List Value} {o n : Nat} {c r : List Value} (h : (cs.drop o).take n = c) (hr : cs.drop (o + n) = r) : cs.drop o = c ++ r := by
  rw [← h, ← hr, ← List.drop_drop, List.take_append_drop]
theorem trod_st {H : Type} {enc : TypeId × Value → H} {base : Nat} {sp : Nat → Bool} {held : Bool} {fuel : Nat} {T : TypeId} {fs : Array Field} {cs : List Value} {x : DataW H × List MemPlace} (ht : P.underlying T = some (.struct fs)) (h : DataW.trod enc P w base sp held fuel T cs = some x) :
    cs.length = P.cellsOf T ∧ ∃ m, ∀ (i : Nat) (f : Field), fs[i]? = some f → ∃ y, DataW.trod enc P w base sp held m f.type ((cs.drop f.offset).take (P.cellsOf f.type)) = some y := by
  obtain ⟨xs, m, _, _, hl, hn, hf⟩ := DataW.trod_struct ht h
  refine ⟨hl, m, fun i f hi => ?_⟩
  have hx : i < xs.length := by rw [hn]; exact (Array.getElem?_eq_some_iff.1 hi).1
  exact ⟨xs[i], by rw [hf i f hi, List.getElem?_eq_getElem hx]⟩
/-- Slices: a cell that reads as a list. -/
def OpnS {α : Type} (P : Program) (w : World) (T : TypeId) (K : Kd α) (ok : α → Prop) : Prop :=
  ∀ {H : Type} (enc : TypeId × Value → H) (base : Nat) (sp : Nat → Bool) (held : Bool) (fuel : Nat) (cs : List Value) (x : DataW H × List MemPlace), DataW.trod enc P w base sp held fuel T cs = some x → ∃ (l : List α) (V : Value), cs = [V] ∧ Rd K w V l ∧ (∀ a ∈ l, ok a) ∧ l.length ≤ maxLen ∧ (sb V < w.heap.size ∨ l = [])
theorem cells_get {base : Nat} {a : Addr} {n : Nat} {cs : List Value} (h : w.cells? base a n = some cs) : cs.length = n ∧ ∀ j, j < n → w.cell? (a.add j) = cs[j]? := by
  unfold World.cells? at h
  split at h
  · refine ⟨by simpa using ms_len h, fun j hj => ?_⟩
    obtain ⟨y, h1, h2⟩ := ms_get h j j (by simp [hj])
    rw [h1, h2]
  · cases h
theorem opn_slice {α : Type} {K : Kd α} {ok : α → Prop} {T e : TypeId} (ht : P.underlying T = some (.slice e)) (he : P.cellsOf e = K.size) (hk : 0 < K.size) (ho : Opn P w e K ok) : OpnS P w T K ok := by
  intro H enc base sp held fuel cs x h
  rcases DataW.trod_slice ht h with ⟨rfl, _⟩ | ⟨a, len, cap, elems, rest, n, rfl, rfl, _, _, hl, hm, hlen, hel, _, _⟩
  · exact ⟨[], _, rfl, Rd.nil K w, by simp, by simp, .inr rfl⟩
  · have hex : ∀ i, i < len → ∃ b, (∀ j z, (K.enc b)[j]? = some z → w.cell? (a.add (i * K.size + j)) = some z) ∧ ok b := by
      intro i hi
      have h1 := hel i hi
      rw [List.getElem?_eq_getElem (by omega)] at h1
      obtain ⟨cs, h2, h3⟩ := Option.bind_eq_some_iff.1 h1
      obtain ⟨b, rfl, hb⟩ := ho enc base sp held n cs _ h3
      obtain ⟨h4, h5⟩ := cells_get h2
      rw [he] at h4 h5
      refine ⟨b, fun j z hz => ?_, hb⟩
      have hj : j < K.size := by rw [← h4]; exact (List.getElem?_eq_some_iff.1 hz).1
      have := h5 j hj
      rw [hz] at this
      rw [← this]
      congr 1
      unfold Addr.add
      by_cases hi0 : i * K.size = 0
      · by_cases hj0 : j = 0
        · simp [hi0, hj0]
        · simp [hi0, hj0]
      · by_cases hj0 : j = 0
        · simp [hi0, hj0]
        · have : i * K.size + j ≠ 0 := by omega
          simp [hi0, hj0, this, Nat.add_assoc]
    have hlist : ∀ m, m ≤ len → ∃ l : List α, l.length = m ∧ (∀ b ∈ l, ok b) ∧ ∀ j z, (l.flatMap K.enc)[j]? = some z → w.cell? (a.add j) = some z := by
      intro m
      induction m with
      | zero => intro _; exact ⟨[], rfl, by simp, by simp⟩
      | succ m ih =>
        intro hm
        obtain ⟨l, h1, h2, h3⟩ := ih (by omega)
        obtain ⟨b, h4, h5⟩ := hex m (by omega)
        refine ⟨l ++ [b], by simp [h1], ?_, ?_⟩
        · intro c hc
          rcases List.mem_append.1 hc with hc | hc
          · exact h2 c hc
          · obtain rfl := List.mem_singleton.1 hc
            exact h5
        · intro j z hz
          have hL : (l.flatMap K.enc).length = m * K.size := by rw [len_flat, h1]
          simp only [List.flatMap_append, List.flatMap_cons, List.flatMap_nil, List.append_nil] at hz
          by_cases hj : j < m * K.size
          · rw [List.getElem?_append_left (by omega)] at hz
            exact h3 j z hz
          · rw [List.getElem?_append_right (by omega), hL] at hz
            have := h4 (j - m * K.size) z hz
            rwa [show m * K.size + (j - m * K.size) = j from by omega] at this
    obtain ⟨l, h1, h2, h3⟩ := hlist len (Nat.le_refl _)
    have hpos : 0 < l.length → ∃ z, w.cell? a = some z := by
      intro hp
      cases l with
      | nil => simp at hp
      | cons b l =>
        have hb : (K.enc b).length = K.size := K.len b
        have : ∃ z, ((b :: l).flatMap K.enc)[0]? = some z := ⟨_, List.getElem?_eq_getElem (by simp [List.flatMap_cons, hb]; omega)⟩
        obtain ⟨z, hz⟩ := this
        have := h3 0 z hz
        exact ⟨z, by simpa [Addr.add] using this⟩
    refine ⟨l, _, rfl, ⟨some a, cap, by rw [h1], by omega, fun hp => ?_⟩, h2, by omega, ?_⟩
    · obtain ⟨z, hz⟩ := hpos hp
      obtain ⟨b, o, s⟩ := a
      have hs : s = none := by
        unfold World.cell? at hz
        split at hz
        · cases s with
          | none => rfl
          | some _ => simp at hz
        · cases hz
      subst hs
      refine ⟨b, o, rfl, fun j v hv => ?_⟩
      have := h3 j v hv
      rwa [Addr.add_lit] at this
    · rcases Nat.eq_zero_or_pos l.length with h0 | hp
      · exact .inr (List.eq_nil_of_length_eq_zero h0)
      · obtain ⟨z, hz⟩ := hpos hp
        refine .inl ?_
        unfold World.cell? at hz
        split at hz
        · rename_i hh
          exact (Array.getElem?_eq_some_iff.1 hh).1
        · cases hz
theorem agg_of {T : TypeId} {v : Value} {cs : List Value} {base : Nat} (h : aggB P T = some true) (hv : Value.okWide P w .any base T v) (hc : v.cells.toList = cs) : v = .agg cs.toArray := by
  unfold aggB at h
  obtain ⟨d, hu, hd⟩ := Option.map_eq_some_iff.1 h
  unfold Value.okWide at hv
  rw [hu] at hv
  cases d <;> simp at hd <;> (obtain ⟨c2, rfl, _⟩ := hv; subst hc; simp [Value.cells])
end Go.Xw

/- What the laws' arguments open into: written by rows.py. -/
set_option linter.unusedVariables false
set_option linter.unusedSimpArgs false
namespace Go.Proofs.Ytjhajfkfhdnciaa
open Go Go.Xw
def ok_api_Handle (a : S_api_Handle) : Prop := (Lit.int .i64 a.Slot).wf = true ∧ (Lit.int .i64 a.Gen).wf = true
theorem opn_api_Handle {w : World} : Opn Try.prog w 42 k_api_Handle ok_api_Handle := by
  intro H enc base sp held fuel cs x h
  obtain ⟨hl, m, hf⟩ := trod_st Try.underlying42 h
  obtain ⟨y0, h0⟩ := hf 0 _ rfl
  have c0 : Try.prog.cellsOf 3 = 1 := by kernel_rfl
  obtain ⟨b0, e0, o0⟩ := (opn_int Try.underlying3) enc base sp held m _ y0 h0
  have e0 : (cs.drop 0).take 1 = (kI .i64).enc b0 := (congrArg (fun n => (cs.drop 0).take n) c0).symm.trans e0
  obtain ⟨y1, h1⟩ := hf 1 _ rfl
  have c1 : Try.prog.cellsOf 3 = 1 := by kernel_rfl
  obtain ⟨b1, e1, o1⟩ := (opn_int Try.underlying3) enc base sp held m _ y1 h1
  have e1 : (cs.drop 1).take 1 = (kI .i64).enc b1 := (congrArg (fun n => (cs.drop 1).take n) c1).symm.trans e1
  have hn : cs.drop 2 = [] := List.drop_eq_nil_of_le (by rw [hl]; exact Nat.le_of_eq (by kernel_rfl))
  have hc : cs = (kI .i64).enc b0 ++ ((kI .i64).enc b1 ++ []) := (fld_cons (o := 0) (n := 1) e0 (fld_cons (o := 1) (n := 1) e1 hn))
  refine ⟨⟨b0, b1⟩, ?_, o0, o1⟩
  rw [hc]
  simp [kA, kI, kB, kS, kT, cellsOf, Seg.cell, Kd.seg, k_api_Handle, k_api_Entry, segs_api_Handle, segs_api_Entry]
def ok_api_Entry (a : S_api_Entry) : Prop := ok_api_Handle a.Handle ∧ (Lit.int .i64 a.Key).wf = true ∧ (Lit.int .i64 a.Value).wf = true
theorem opn_api_Entry {w : World} : Opn Try.prog w 44 k_api_Entry ok_api_Entry := by
  intro H enc base sp held fuel cs x h
  obtain ⟨hl, m, hf⟩ := trod_st Try.underlying44 h
  obtain ⟨y0, h0⟩ := hf 0 _ rfl
  have c0 : Try.prog.cellsOf 42 = 2 := by kernel_rfl
  obtain ⟨b0, e0, o0⟩ := (opn_api_Handle (w := w)) enc base sp held m _ y0 h0
  have e0 : (cs.drop 0).take 2 = k_api_Handle.enc b0 := (congrArg (fun n => (cs.drop 0).take n) c0).symm.trans e0
  obtain ⟨y1, h1⟩ := hf 1 _ rfl
  have c1 : Try.prog.cellsOf 3 = 1 := by kernel_rfl
  obtain ⟨b1, e1, o1⟩ := (opn_int Try.underlying3) enc base sp held m _ y1 h1
  have e1 : (cs.drop 2).take 1 = (kI .i64).enc b1 := (congrArg (fun n => (cs.drop 2).take n) c1).symm.trans e1
  obtain ⟨y2, h2⟩ := hf 2 _ rfl
  have c2 : Try.prog.cellsOf 3 = 1 := by kernel_rfl
  obtain ⟨b2, e2, o2⟩ := (opn_int Try.underlying3) enc base sp held m _ y2 h2
  have e2 : (cs.drop 3).take 1 = (kI .i64).enc b2 := (congrArg (fun n => (cs.drop 3).take n) c2).symm.trans e2
  have hn : cs.drop 4 = [] := List.drop_eq_nil_of_le (by rw [hl]; exact Nat.le_of_eq (by kernel_rfl))
  have hc : cs = k_api_Handle.enc b0 ++ ((kI .i64).enc b1 ++ ((kI .i64).enc b2 ++ [])) := (fld_cons (o := 0) (n := 2) e0 (fld_cons (o := 2) (n := 1) e1 (fld_cons (o := 3) (n := 1) e2 hn)))
  refine ⟨⟨b0, b1, b2⟩, ?_, o0, o1, o2⟩
  rw [hc]
  simp [kA, kI, kB, kS, kT, cellsOf, Seg.cell, Kd.seg, k_api_Handle, k_api_Entry, segs_api_Handle, segs_api_Entry]
def ok_api_Node (a : S_api_Node) : Prop := ok_api_Entry a.Entry ∧ ((∀ x ∈ a.Kids, (Lit.int .i64 x).wf = true) ∧ List.length a.Kids ≤ maxLen)
theorem opn_api_Node {w : World} {H : Type} (enc : TypeId × Value → H) (base : Nat) (sp : Nat → Bool) (held : Bool) (fuel : Nat) (cs : List Value) (x : DataW H × List MemPlace) (h : DataW.trod enc Try.prog w base sp held fuel 47 cs = some x) : ∃ a : S_api_Node, ∃ V0 : Value, ∃ R0 : Rd (kI .i64) w V0 a.Kids, cs = cellsOf [Seg.cell (.int .i64 a.Entry.Handle.Slot), Seg.cell (.int .i64 a.Entry.Handle.Gen), Seg.cell (.int .i64 a.Entry.Key), Seg.cell (.int .i64 a.Entry.Value), Seg.cell V0 R0.one] ∧ ok_api_Node a := by
  obtain ⟨hl, m, hf⟩ := trod_st Try.underlying47 h
  obtain ⟨y0, h0⟩ := hf 0 _ rfl
  have c0 : Try.prog.cellsOf 44 = 4 := by kernel_rfl
  obtain ⟨b0, e0, o0⟩ := (opn_api_Entry (w := w)) enc base sp held m _ y0 h0
  have e0 : (cs.drop 0).take 4 = k_api_Entry.enc b0 := (congrArg (fun n => (cs.drop 0).take n) c0).symm.trans e0
  obtain ⟨y1, h1⟩ := hf 1 _ rfl
  have c1 : Try.prog.cellsOf 45 = 1 := by kernel_rfl
  obtain ⟨b1, W1, e1, r1, o1, l1, _⟩ := (opn_slice (K := (kI .i64)) Try.underlying45 (by kernel_rfl) (by decide) (opn_int Try.underlying3)) enc base sp held m _ y1 h1
  have e1 : (cs.drop 4).take 1 = [W1] := (congrArg (fun n => (cs.drop 4).take n) c1).symm.trans e1
  have hn : cs.drop 5 = [] := List.drop_eq_nil_of_le (by rw [hl]; exact Nat.le_of_eq (by kernel_rfl))
  have hc : cs = k_api_Entry.enc b0 ++ ([W1] ++ []) := (fld_cons (o := 0) (n := 4) e0 (fld_cons (o := 4) (n := 1) e1 hn))
  refine ⟨⟨b0, b1⟩, W1, r1, ?_, o0, ⟨o1, l1⟩⟩
  rw [hc]
  simp [kA, kI, kB, kS, kT, cellsOf, Seg.cell, Kd.seg, k_api_Handle, k_api_Entry, segs_api_Handle, segs_api_Entry]
end Go.Proofs.Ytjhajfkfhdnciaa

/- Plain words on the models: rounds, numbers that fit, lists. -/
set_option linter.unusedVariables false
set_option linter.unusedSimpArgs false
namespace Go.Xw
open Go
theorem w64 {n : Int} (h1 : -9223372036854775808 ≤ n) (h2 : n ≤ 9223372036854775807) : IntKind.i64.wrap n = n := by
  unfold IntKind.wrap
  simp only [IntKind.signed, IntKind.bits]
  simp
  split <;> omega
theorem wu8 {n : Int} (h1 : 0 ≤ n) (h2 : n ≤ 255) : IntKind.u8.wrap n = n := by
  unfold IntKind.wrap
  simp only [IntKind.signed, IntKind.bits]
  simp
  omega
theorem wu64 {n : Int} (h1 : 0 ≤ n) (h2 : n ≤ 18446744073709551615) : IntKind.u64.wrap n = n := by
  unfold IntKind.wrap
  simp only [IntKind.signed, IntKind.bits]
  simp
  omega
theorem wu32 {n : Int} (h1 : 0 ≤ n) (h2 : n ≤ 4294967295) : IntKind.u32.wrap n = n := by
  unfold IntKind.wrap
  simp only [IntKind.signed, IntKind.bits]
  simp
  omega
theorem wf64 {n : Int} : (Lit.int .i64 n).wf = true ↔ -9223372036854775808 ≤ n ∧ n ≤ 9223372036854775807 := by
  simp only [Lit.wf, IntKind.min, IntKind.max, IntKind.signed, IntKind.bits, Bool.and_eq_true, decide_eq_true_eq]
  simp
theorem wfu64 {n : Int} : (Lit.int .u64 n).wf = true ↔ 0 ≤ n ∧ n ≤ 18446744073709551615 := by
  simp only [Lit.wf, IntKind.min, IntKind.max, IntKind.signed, IntKind.bits, Bool.and_eq_true, decide_eq_true_eq]
  simp
theorem wf8 {n : Int} : (Lit.int .u8 n).wf = true ↔ 0 ≤ n ∧ n ≤ 255 := by
  simp only [Lit.wf, IntKind.min, IntKind.max, IntKind.signed, IntKind.bits, Bool.and_eq_true, decide_eq_true_eq]
  simp
theorem loopM_from {σ ε : Type} {step : σ → Option (Sum ε σ)} (S : Nat → σ) (n : Nat) (e : ε) (h : ∀ j, j < n → step (S j) = some (.inr (S (j + 1)))) (he : step (S n) = some (.inl e)) : ∀ k m, m ≤ n → n - m < k → loopM step k (S m) = some e
  | 0, m, _, hk => by omega
  | k + 1, m, hm, hk => by
    unfold loopM
    by_cases e1 : m = n
    · subst e1
      rw [he]
    · rw [h m (by omega)]
      exact loopM_from S n e h he k (m + 1) (by omega) (by omega)
theorem loopM_run {σ ε : Type} {step : σ → Option (Sum ε σ)} (S : Nat → σ) (n : Nat) {e : ε} {k : Nat} {s : σ} (hs : S 0 = s) (h : ∀ j, j < n → step (S j) = some (.inr (S (j + 1)))) (he : step (S n) = some (.inl e)) (hk : n < k) : loopM step k s = some e := by
  subst hs
  exact loopM_from S n e h he k 0 (by omega) (by omega)
theorem loopM_bad {σ ε : Type} {step : σ → Option (Sum ε σ)} (S : Nat → σ) (N : Nat) (good : Nat → Prop) {e : ε} {k : Nat} {s : σ} (hs : S 0 = s) (hex : ∃ j, j < N ∧ ¬ good j)
    (h : ∀ j, j < N → (∀ i, i < j → good i) → good j → step (S j) = some (.inr (S (j + 1)))) (hb : ∀ j, j < N → (∀ i, i < j → good i) → ¬ good j → step (S j) = some (.inl e)) (hk : N < k) : loopM step k s = some e := by
  have hmin : ∀ m j, j ≤ m → (j < N ∧ ¬ good j) → ∃ n, (n < N ∧ ¬ good n) ∧ ∀ i, i < n → good i := by
    intro m
    induction m with
    | zero =>
      intro j hj hjj
      exact ⟨j, hjj, fun i hi => by omega⟩
    | succ m ih =>
      intro j hj hjj
      by_cases hx : ∃ i, i < j ∧ ¬ good i
      · obtain ⟨i, hi, hgi⟩ := hx
        exact ih i (by omega) ⟨by omega, hgi⟩
      · exact ⟨j, hjj, fun i hi => Classical.byContradiction fun hg => hx ⟨i, hi, hg⟩⟩
  obtain ⟨j, hj⟩ := hex
  obtain ⟨n, ⟨hn, hg⟩, hall⟩ := hmin j j (Nat.le_refl _) hj
  exact loopM_run S n hs (fun i hi => h i (by omega) (fun q hq => hall q (by omega)) (hall i hi)) (hb n hn hall hg) (by omega)
end Go.Xw

/- rickyard/rickyardref02.Step: its model, and that the Go function computes it: written by gen.py. -/
set_option linter.unusedVariables false
namespace Go.Proofs.Ytjhajfkfhdnciaa
open Go Go.Xw
def rickyardref02_Step.f (fu : Nat) (a0 : Int) : Option Int := (if (decide ((Int.tmod a0 2) = 1)) = true then some ((bXor .u32 (IntKind.u32.wrap (Int.tdiv a0 2)) 2197175160)) else some ((IntKind.u32.wrap (Int.tdiv a0 2))))
set_option maxRecDepth 100000 in
set_option maxHeartbeats 400000 in
theorem rickyardref02_Step.ok (fu : Nat) (w : World) (a0 : Int) (r : Int) (h : rickyardref02_Step.f fu a0 = some r) :
    Calls Try.prog 146 (([.int .u32 a0] : List Value).toArray) w (fun e w' => ∃ v, e = .returned v ∧ v = .int .u32 r ∧ Gr w w') := by
  unfold rickyardref02_Step.f at h
  have fB : Gr w w := Fr.refl _ _
  refine calls_cw Try.func146 rfl Try.ntmps146 rfl ?_
  refine cw_seq ?_
  refine cw_region ?_
  refine ol_val (v := .int .u32 0) (by exact xr_assign rfl rfl) rfl rfl rfl ?_
  refine ol_nil ?_
  refine cw_seq ?_
  refine cw_seq ?_
  refine cw_region ?_
  refine ol_val (v := .int .u32 a0) (by exact xr_move rfl rfl) rfl rfl rfl ?_
  refine ol_val (v := .int .u32 (Int.tmod a0 2)) (by exact xr_rem rfl rfl rfl (by decide)) rfl rfl rfl ?_
  refine ol_val (v := .bool (decide ((Int.tmod a0 2) = 1))) (by exact xr_eqI rfl Try.underlying36 rfl rfl rfl) rfl rfl rfl ?_
  refine ol_nil ?_
  rcases is h with ⟨c1, h⟩ | ⟨c1, h⟩
  · refine cw_condT rfl c1 ?_
    refine cw_seq ?_
    refine cw_region ?_
    refine ol_val (v := .int .u32 a0) (by exact xr_move rfl rfl) rfl rfl rfl ?_
    refine ol_val (v := .int .u32 (IntKind.u32.wrap (Int.tdiv a0 2))) (by exact xr_quo rfl rfl rfl (by decide)) rfl rfl rfl ?_
    refine ol_val (v := .int .u32 (bXor .u32 (IntKind.u32.wrap (Int.tdiv a0 2)) 2197175160)) (by exact xr_xor rfl rfl rfl) rfl rfl rfl ?_
    refine ol_val (v := .int .u32 (bXor .u32 (IntKind.u32.wrap (Int.tdiv a0 2)) 2197175160)) (by exact xr_assign rfl rfl) rfl rfl rfl ?_
    refine ol_nil ?_
    refine cw_ret ?_
    repeat (first | with_reducible refine thn_r ?_ | with_reducible refine blk_r ?_)
    obtain rfl := Option.some.inj h
    refine fin_ret1 Try.results146 rfl ?_
    exact ⟨_, rfl, rfl, fB⟩
  · refine cw_condF rfl c1 ?_
    refine cw_skip ?_
    refine cw_seq ?_
    refine cw_region ?_
    refine ol_val (v := .int .u32 a0) (by exact xr_move rfl rfl) rfl rfl rfl ?_
    refine ol_val (v := .int .u32 (IntKind.u32.wrap (Int.tdiv a0 2))) (by exact xr_quo rfl rfl rfl (by decide)) rfl rfl rfl ?_
    refine ol_val (v := .int .u32 (IntKind.u32.wrap (Int.tdiv a0 2))) (by exact xr_assign rfl rfl) rfl rfl rfl ?_
    refine ol_nil ?_
    refine cw_ret ?_
    repeat (first | with_reducible refine thn_r ?_ | with_reducible refine blk_r ?_)
    obtain rfl := Option.some.inj h
    refine fin_ret1 Try.results146 rfl ?_
    exact ⟨_, rfl, rfl, fB⟩
end Go.Proofs.Ytjhajfkfhdnciaa

/- rickyard/rickyardref02.Steps: its model, and that the Go function computes it: written by gen.py. -/
set_option linter.unusedVariables false
namespace Go.Proofs.Ytjhajfkfhdnciaa
open Go Go.Xw
def rickyardref02_Steps.s0 (fu : Nat) (a1 : Int) : (Int × Int) → Option (Sum Int (Int × Int)) := fun s1 => (if (decide (s1.2 < a1)) = true then ((rickyardref02_Step.f fu s1.1 : Option Int).bind fun t9 => some (Sum.inr (t9, (IntKind.i64.wrap (s1.2 + 1))))) else some (Sum.inl (s1.1)))
def rickyardref02_Steps.f (fu : Nat) (a0 : Int) (a1 : Int) : Option Int := ((loopM (rickyardref02_Steps.s0 fu a1) fu (a0, 0)).bind fun e2 => some (e2))
set_option maxRecDepth 100000 in
set_option maxHeartbeats 400000 in
theorem rickyardref02_Steps.ok (fu : Nat) (w : World) (a0 : Int) (a1 : Int) (r : Int) (h : rickyardref02_Steps.f fu a0 a1 = some r) :
    Calls Try.prog 133 (([.int .u32 a0, .int .i64 a1] : List Value).toArray) w (fun e w' => ∃ v, e = .returned v ∧ v = .int .u32 r ∧ Gr w w') := by
  unfold rickyardref02_Steps.f at h
  have fB : Gr w w := Fr.refl _ _
  refine calls_cw Try.func133 rfl Try.ntmps133 rfl ?_
  refine cw_seq ?_
  refine cw_region ?_
  refine ol_val (v := .int .u32 0) (by exact xr_assign rfl rfl) rfl rfl rfl ?_
  refine ol_nil ?_
  refine cw_seq ?_
  refine cw_seq ?_
  refine cw_region ?_
  refine ol_val (v := .int .i64 0) (by exact xr_assign rfl rfl) rfl rfl rfl ?_
  refine ol_nil ?_
  obtain ⟨e2, l3, h4⟩ := bs h
  refine cw_mid (fun ρ' w' => ρ' 0 = .int .u32 e2 ∧ Gr w w') ?_ ?_
  · refine cw_block ?_
    refine cw_round (fun (s1 : Int × Int) ρ' w' => ρ' 0 = .int .u32 s1.1 ∧ ρ' 1 = .int .i64 a1 ∧ ρ' 5 = .int .i64 s1.2 ∧ Gr w w') l3 ?_ ?_
    · skip
      exact ⟨rfl, rfl, rfl, fB⟩
    · rintro s1 x7 ρ5 w6 ⟨e0, e1, e5, fB⟩ h
      unfold rickyardref02_Steps.s0 at h
      refine cw_seq ?_
      refine cw_seq ?_
      refine cw_region ?_
      refine ol_val (v := .int .i64 s1.2) (by exact xr_move rfl e5) rfl rfl rfl ?_
      refine ol_val (v := .int .i64 a1) (by exact xr_move rfl e1) rfl rfl rfl ?_
      refine ol_val (v := .bool (decide (s1.2 < a1))) (by exact xr_lss rfl rfl rfl) rfl rfl rfl ?_
      refine ol_nil ?_
      rcases is h with ⟨c8, h⟩ | ⟨c8, h⟩
      · refine cw_condT rfl c8 ?_
        refine cw_skip ?_
        refine cw_seq ?_
        refine cw_block ?_
        refine cw_region ?_
        refine ol_val (v := .int .u32 s1.1) (by exact xr_move rfl e0) rfl rfl rfl ?_
        obtain ⟨t9, k10, h⟩ := bs h
        refine ol_op (by exact opv_call rfl cal146 (ac rfl an) (rickyardref02_Step.ok fu _ s1.1 _ k10)) rfl rfl rfl ?_
        rintro _ w12 ⟨rfl, q11⟩
        have fB := fB.gr q11
        refine ol_val (v := .int .u32 t9) (by exact xr_assign rfl rfl) rfl rfl rfl ?_
        refine ol_nil ?_
        refine blk_i ?_
        refine cw_region ?_
        refine ol_val (v := .int .i64 s1.2) (by exact xr_move rfl e5) rfl rfl rfl ?_
        refine ol_val (v := .int .i64 (IntKind.i64.wrap (s1.2 + 1))) (by exact xr_add rfl rfl rfl) rfl rfl rfl ?_
        refine ol_val (v := .int .i64 (IntKind.i64.wrap (s1.2 + 1))) (by exact xr_assign rfl rfl) rfl rfl rfl ?_
        refine ol_nil ?_
        obtain rfl := Option.some.inj h
        refine lp_in ?_
        exact ⟨rfl, e1, rfl, fB⟩
      · refine cw_condF rfl c8 ?_
        refine cw_exit ?_
        repeat (first | with_reducible refine thn_e ?_ | with_reducible refine blk_e rfl ?_)
        obtain rfl := Option.some.inj h
        refine lp_exit ?_
        rintro rfl
        refine thn_x ?_
        exact ⟨e0, fB⟩
  · rintro ρ13 w14 ⟨e0, fB⟩
    have h := h4
    refine cw_seq ?_
    refine cw_region ?_
    refine ol_val (v := .int .u32 e2) (by exact xr_move rfl e0) rfl rfl rfl ?_
    refine ol_val (v := .int .u32 e2) (by exact xr_assign rfl rfl) rfl rfl rfl ?_
    refine ol_nil ?_
    refine cw_ret ?_
    repeat (first | with_reducible refine thn_r ?_ | with_reducible refine blk_r ?_)
    obtain rfl := Option.some.inj h
    refine fin_ret1 Try.results133 rfl ?_
    exact ⟨_, rfl, rfl, fB⟩
end Go.Proofs.Ytjhajfkfhdnciaa

/- rickyard/rickyardref02.Sum: its model, and that the Go function computes it: written by gen.py. -/
set_option linter.unusedVariables false
namespace Go.Proofs.Ytjhajfkfhdnciaa
open Go Go.Xw
def rickyardref02_Sum.s0 (fu : Nat) (a0 : List Int) : (Int × Int) → Option (Sum Int (Int × Int)) := fun s1 => (if (decide (s1.2 < (List.length a0 : Int))) = true then (if 0 ≤ s1.2 ∧ s1.2 < (List.length a0 : Int) then ((rickyardref02_Steps.f fu (bXor .u32 s1.1 (IntKind.u32.wrap (ix a0 s1.2))) 8 : Option Int).bind fun t10 => some (Sum.inr (t10, (IntKind.i64.wrap (s1.2 + 1))))) else none) else some (Sum.inl (s1.1)))
def rickyardref02_Sum.f (fu : Nat) (a0 : List Int) : Option Int := ((loopM (rickyardref02_Sum.s0 fu a0) fu (4294967295, 0)).bind fun e2 => some ((IntKind.u32.wrap (4294967295 - e2))))
set_option maxRecDepth 100000 in
set_option maxHeartbeats 400000 in
theorem rickyardref02_Sum.ok (fu : Nat) (w : World) (a0 : List Int) (V0_0 : Value) (R0_0 : Rd (kI .u8) w V0_0 a0) (r : Int) (h : rickyardref02_Sum.f fu a0 = some r) :
    Calls Try.prog 100 (([V0_0] : List Value).toArray) w (fun e w' => ∃ v, e = .returned v ∧ v = .int .u32 r ∧ Gr w w') := by
  unfold rickyardref02_Sum.f at h
  have fB : Gr w w := Fr.refl _ _
  refine calls_cw Try.func100 rfl Try.ntmps100 rfl ?_
  refine cw_seq ?_
  refine cw_region ?_
  refine ol_val (v := .int .u32 0) (by exact xr_assign rfl rfl) rfl rfl rfl ?_
  refine ol_nil ?_
  refine cw_seq ?_
  refine cw_region ?_
  refine ol_val (v := .int .u32 4294967295) (by exact xr_assign rfl rfl) rfl rfl rfl ?_
  refine ol_nil ?_
  refine cw_seq ?_
  refine cw_seq ?_
  refine cw_region ?_
  refine ol_val (v := .int .i64 0) (by exact xr_assign rfl rfl) rfl rfl rfl ?_
  refine ol_nil ?_
  obtain ⟨e2, l3, h4⟩ := bs h
  refine cw_mid (fun ρ' w' => ρ' 3 = .int .u32 e2 ∧ Gr w w') ?_ ?_
  · refine cw_block ?_
    refine cw_round (fun (s1 : Int × Int) ρ' w' => ρ' 0 = V0_0 ∧ ρ' 3 = .int .u32 s1.1 ∧ ρ' 4 = .int .i64 s1.2 ∧ Gr w w') l3 ?_ ?_
    · skip
      exact ⟨rfl, rfl, rfl, fB⟩
    · rintro s1 x7 ρ5 w6 ⟨e0, e3, e4, fB⟩ h
      unfold rickyardref02_Sum.s0 at h
      refine cw_seq ?_
      refine cw_seq ?_
      refine cw_region ?_
      refine ol_val (v := .int .i64 s1.2) (by exact xr_move rfl e4) rfl rfl rfl ?_
      refine ol_val (v := V0_0) (by exact xr_move rfl e0) rfl rfl rfl ?_
      refine ol_val (v := .int .i64 (List.length a0 : Int)) (by exact xr_lenR rfl Try.underlying22 rfl (R0_0.gr fB)) rfl rfl rfl ?_
      refine ol_val (v := .bool (decide (s1.2 < (List.length a0 : Int)))) (by exact xr_lss rfl rfl rfl) rfl rfl rfl ?_
      refine ol_nil ?_
      rcases is h with ⟨c8, h⟩ | ⟨c8, h⟩
      · refine cw_condT rfl c8 ?_
        refine cw_skip ?_
        refine cw_seq ?_
        refine cw_block ?_
        refine cw_region ?_
        refine ol_val (v := .int .u32 s1.1) (by exact xr_move rfl e3) rfl rfl rfl ?_
        refine ol_val (v := V0_0) (by exact xr_move rfl e0) rfl rfl rfl ?_
        refine ol_val (v := .int .i64 s1.2) (by exact xr_move rfl e4) rfl rfl rfl ?_
        obtain ⟨g9, h⟩ := gs h
        refine ol_val (v := .pointer (some ⟨(sb V0_0), so V0_0 + Int.toNat s1.2 * 1, none⟩)) (by exact xr_indexR (K := (kI .u8)) (v := V0_0) rfl Try.underlying22 sz5 rfl (R0_0.gr fB) rfl g9.1 g9.2) rfl rfl rfl ?_
        refine ol_val (v := .int .u8 (ix a0 s1.2)) (by exact xr_load1 (v := .int .u8 (ix a0 s1.2)) rfl ag5 rfl ((R0_0.gr fB).elem g9.1 g9.2)) rfl rfl rfl ?_
        refine ol_val (v := .int .u32 (IntKind.u32.wrap (ix a0 s1.2))) (by exact xr_conv rfl Try.underlying5 Try.underlying36 rfl) rfl rfl rfl ?_
        refine ol_val (v := .int .u32 (bXor .u32 s1.1 (IntKind.u32.wrap (ix a0 s1.2)))) (by exact xr_xor rfl rfl rfl) rfl rfl rfl ?_
        obtain ⟨t10, k11, h⟩ := bs h
        refine ol_op (by exact opv_call rfl cal133 (ac rfl (ac rfl an)) (rickyardref02_Steps.ok fu _ (bXor .u32 s1.1 (IntKind.u32.wrap (ix a0 s1.2))) 8 _ k11)) rfl rfl rfl ?_
        rintro _ w13 ⟨rfl, q12⟩
        have fB := fB.gr q12
        refine ol_val (v := .int .u32 t10) (by exact xr_assign rfl rfl) rfl rfl rfl ?_
        refine ol_nil ?_
        refine blk_i ?_
        refine cw_region ?_
        refine ol_val (v := .int .i64 s1.2) (by exact xr_move rfl e4) rfl rfl rfl ?_
        refine ol_val (v := .int .i64 (IntKind.i64.wrap (s1.2 + 1))) (by exact xr_add rfl rfl rfl) rfl rfl rfl ?_
        refine ol_val (v := .int .i64 (IntKind.i64.wrap (s1.2 + 1))) (by exact xr_assign rfl rfl) rfl rfl rfl ?_
        refine ol_nil ?_
        obtain rfl := Option.some.inj h
        refine lp_in ?_
        exact ⟨e0, rfl, rfl, fB⟩
      · refine cw_condF rfl c8 ?_
        refine cw_exit ?_
        repeat (first | with_reducible refine thn_e ?_ | with_reducible refine blk_e rfl ?_)
        obtain rfl := Option.some.inj h
        refine lp_exit ?_
        rintro rfl
        refine thn_x ?_
        exact ⟨e3, fB⟩
  · rintro ρ14 w15 ⟨e3, fB⟩
    have h := h4
    refine cw_seq ?_
    refine cw_region ?_
    refine ol_val (v := .int .u32 e2) (by exact xr_move rfl e3) rfl rfl rfl ?_
    refine ol_val (v := .int .u32 (IntKind.u32.wrap (4294967295 - e2))) (by exact xr_sub rfl rfl rfl) rfl rfl rfl ?_
    refine ol_val (v := .int .u32 (IntKind.u32.wrap (4294967295 - e2))) (by exact xr_assign rfl rfl) rfl rfl rfl ?_
    refine ol_nil ?_
    refine cw_ret ?_
    repeat (first | with_reducible refine thn_r ?_ | with_reducible refine blk_r ?_)
    obtain rfl := Option.some.inj h
    refine fin_ret1 Try.results100 rfl ?_
    exact ⟨_, rfl, rfl, fB⟩
end Go.Proofs.Ytjhajfkfhdnciaa

/- Sums in plain words: steps of one bit over words of 32 bits; the program's halves of octets and the document's single steps tell the same. -/
set_option linter.unusedVariables false
set_option linter.unusedSimpArgs false
namespace Go.Proofs.Ytjhajfkfhdnciaa.Pure
open Go Go.Xw
def I32 (x : BitVec 32) : Int := (x.toNat : Int)
theorem I32_lt (x : BitVec 32) : 0 ≤ I32 x ∧ I32 x ≤ 4294967295 := by
  unfold I32
  have := x.isLt
  omega
theorem ofI (x : BitVec 32) : BitVec.ofInt 32 (I32 x) = x := by
  unfold I32
  rw [BitVec.ofInt_natCast, BitVec.ofNat_toNat, BitVec.setWidth_eq]
theorem I32_of {n : Int} (h0 : 0 ≤ n) (h1 : n ≤ 4294967295) : n = I32 (BitVec.ofNat 32 n.toNat) := by
  unfold I32
  rw [BitVec.toNat_ofNat, Nat.mod_eq_of_lt (by omega)]
  omega
theorem wI32 (x : BitVec 32) : IntKind.u32.wrap (I32 x) = I32 x := wu32 (I32_lt x).1 (I32_lt x).2
theorem bx32 (x y : BitVec 32) : bXor .u32 (I32 x) (I32 y) = I32 (x ^^^ y) := by
  unfold bXor
  show IntKind.u32.wrap (((BitVec.ofInt 32 (I32 x) ^^^ BitVec.ofInt 32 (I32 y)).toNat : Nat) : Int) = _
  rw [ofI, ofI]
  exact wI32 _
theorem ba32 (x y : BitVec 32) : bAnd .u32 (I32 x) (I32 y) = I32 (x &&& y) := by
  unfold bAnd
  show IntKind.u32.wrap (((BitVec.ofInt 32 (I32 x) &&& BitVec.ofInt 32 (I32 y)).toNat : Nat) : Int) = _
  rw [ofI, ofI]
  exact wI32 _
theorem sr32 (x : BitVec 32) (n : Nat) (hn : n ≤ 32) : shR .u32 (I32 x) (n : Int) = I32 (x >>> n) := by
  unfold shR I32
  rw [BitVec.toNat_ushiftRight, Nat.shiftRight_eq_div_pow]
  show Int.fdiv (x.toNat : Int) (2 ^ min ((n : Int).toNat) 32) = _
  rw [Int.toNat_natCast, Nat.min_eq_left hn, Int.fdiv_eq_ediv_of_nonneg _ (Int.le_of_lt (Int.pow_pos (by decide)))]
  simp
def poly : BitVec 32 := 2197175160#32
def stp (x : BitVec 32) : BitVec 32 := (x >>> 1) ^^^ (if x.getLsbD 0 then poly else 0#32)
theorem lsb_and (x : BitVec 32) : (I32 (x &&& 1#32) = 1) ↔ x.getLsbD 0 = true := by
  unfold I32
  rw [BitVec.toNat_and]
  show ((x.toNat &&& 1 : Nat) : Int) = 1 ↔ x.toNat.testBit 0 = true
  rw [Nat.and_one_is_mod, Nat.testBit_zero]
  simp
  omega
theorem step_eq (fu : Nat) (x : BitVec 32) : crc_step.f fu (I32 x) = some (I32 (stp x)) := by
  unfold crc_step.f stp
  have e1 : bAnd .u32 (I32 x) 1 = I32 (x &&& 1#32) := ba32 x 1#32
  have e2 : shR .u32 (I32 x) 1 = I32 (x >>> 1) := sr32 x 1 (by decide)
  have e3 : bXor .u32 (I32 (x >>> 1)) 2197175160 = I32 (x >>> 1 ^^^ poly) := bx32 (x >>> 1) poly
  rw [e1, e2, e3]
  by_cases h : x.getLsbD 0 = true
  · rw [if_pos (by simpa using (lsb_and x).2 h), if_pos h]
  · rw [if_neg (by simpa using fun e => h ((lsb_and x).1 e)), if_neg h]
    simp
theorem rstep_eq (fu : Nat) (x : BitVec 32) : rickyardref02_Step.f fu (I32 x) = some (I32 (stp x)) := by
  unfold rickyardref02_Step.f stp
  have hb := I32_lt x
  have e1 : Int.tmod (I32 x) 2 = I32 (x &&& 1#32) := by
    rw [Int.tmod_eq_emod_of_nonneg hb.1]
    unfold I32
    rw [BitVec.toNat_and]
    show ((x.toNat : Int)) % 2 = ((x.toNat &&& 1 : Nat) : Int)
    rw [Nat.and_one_is_mod]
    omega
  have e2 : Int.tdiv (I32 x) 2 = I32 (x >>> 1) := by
    rw [Int.tdiv_eq_ediv_of_nonneg hb.1]
    unfold I32
    rw [BitVec.toNat_ushiftRight, Nat.shiftRight_eq_div_pow]
    omega
  have e3 : bXor .u32 (I32 (x >>> 1)) 2197175160 = I32 (x >>> 1 ^^^ poly) := bx32 (x >>> 1) poly
  rw [e1, e2, wI32, e3]
  by_cases h : x.getLsbD 0 = true
  · rw [if_pos (by simpa using (lsb_and x).2 h), if_pos h]
  · rw [if_neg (by simpa using fun e => h ((lsb_and x).1 e)), if_neg h]
    simp
theorem xor4 (a b p q : BitVec 32) : (a ^^^ b) ^^^ (p ^^^ q) = (a ^^^ p) ^^^ (b ^^^ q) := by
  rw [BitVec.xor_assoc, ← BitVec.xor_assoc b, BitVec.xor_comm b p, BitVec.xor_assoc p, ← BitVec.xor_assoc]
theorem sel_xor (a b : Bool) (p : BitVec 32) : (if (a ^^ b) = true then p else 0#32) = (if a = true then p else 0#32) ^^^ (if b = true then p else 0#32) := by
  cases a <;> cases b <;> simp
theorem stp_xor (x y : BitVec 32) : stp (x ^^^ y) = stp x ^^^ stp y := by
  unfold stp
  rw [BitVec.ushiftRight_xor_distrib, BitVec.getLsbD_xor, sel_xor, xor4]
def stps : Nat → BitVec 32 → BitVec 32
  | 0, x => x
  | n + 1, x => stps n (stp x)
theorem stps_xor : ∀ (n : Nat) (x y : BitVec 32), stps n (x ^^^ y) = stps n x ^^^ stps n y
  | 0, x, y => rfl
  | n + 1, x, y => by
    unfold stps
    rw [stp_xor, stps_xor n]
theorem stps_add (m : Nat) : ∀ (n : Nat) (x : BitVec 32), stps (n + m) x = stps m (stps n x)
  | 0, x => by simp [stps]
  | n + 1, x => by
    rw [Nat.add_right_comm]
    show stps (n + m) (stp x) = stps m (stps n (stp x))
    exact stps_add m n (stp x)
theorem stps_succ (n : Nat) (x : BitVec 32) : stps (n + 1) x = stp (stps n x) := stps_add 1 n x
theorem stp_even {x : BitVec 32} (h : x.getLsbD 0 = false) : stp x = x >>> 1 := by
  unfold stp
  rw [h]
  simp
theorem stps_high (x : BitVec 32) : ∀ n, (∀ j, j < n → x.getLsbD j = false) → stps n x = x >>> n
  | 0, _ => by simp [stps]
  | n + 1, h => by
    rw [stps_succ, stps_high x n fun j hj => h j (by omega)]
    rw [stp_even (by rw [BitVec.getLsbD_ushiftRight]; exact h (n + 0) (by omega)), ← BitVec.shiftRight_add]
theorem low_bit (n j : Nat) (hj : j < n) (hn : n ≤ 32) : (BitVec.ofNat 32 (2 ^ n - 1)).getLsbD j = true := by
  rw [BitVec.getLsbD_ofNat, Nat.testBit_two_pow_sub_one]
  simp
  omega
theorem high_bit (n j : Nat) (hj : n ≤ j) : (BitVec.ofNat 32 (2 ^ n - 1)).getLsbD j = false := by
  rw [BitVec.getLsbD_ofNat, Nat.testBit_two_pow_sub_one]
  simp
  omega
/-- n steps: what is above the lowest n bits moves down, the lowest n bits make the rest. -/
theorem stps_split (n : Nat) (hn : n ≤ 32) (x : BitVec 32) : stps n x = (x >>> n) ^^^ stps n (x &&& BitVec.ofNat 32 (2 ^ n - 1)) := by
  have e : x = (x &&& ~~~ BitVec.ofNat 32 (2 ^ n - 1)) ^^^ (x &&& BitVec.ofNat 32 (2 ^ n - 1)) := by
    apply BitVec.eq_of_getLsbD_eq
    intro i hi
    rw [BitVec.getLsbD_xor, BitVec.getLsbD_and, BitVec.getLsbD_and, BitVec.getLsbD_not]
    cases x.getLsbD i <;> cases (BitVec.ofNat 32 (2 ^ n - 1)).getLsbD i <;> simp [hi]
  conv => lhs; rw [e]
  rw [stps_xor, stps_high]
  · congr 1
    apply BitVec.eq_of_getLsbD_eq
    intro i hi
    rw [BitVec.getLsbD_ushiftRight, BitVec.getLsbD_ushiftRight, BitVec.getLsbD_and, BitVec.getLsbD_not, high_bit n (n + i) (by omega)]
    by_cases h : n + i < 32
    · simp [h]
    · have : x.getLsbD (n + i) = false := BitVec.getLsbD_of_ge _ _ (by omega)
      simp [this]
  · intro j hj
    rw [BitVec.getLsbD_and, BitVec.getLsbD_not, low_bit n j hj hn]
    simp
/-- Steps lose nothing. -/
theorem stp_inj0 {x : BitVec 32} (h : stp x = 0#32) : x = 0#32 := by
  unfold stp at h
  have hp : poly.getLsbD 31 = true := by decide
  have h31 : (stp x).getLsbD 31 = x.getLsbD 0 := by
    unfold stp
    rw [BitVec.getLsbD_xor, BitVec.getLsbD_ushiftRight, BitVec.getLsbD_of_ge x (1 + 31) (by omega)]
    cases x.getLsbD 0 <;> simp [hp]
  have h0 : x.getLsbD 0 = false := by
    rw [← h31]
    unfold stp
    rw [h]
    simp
  simp only [h0] at h
  apply BitVec.eq_of_getLsbD_eq
  intro i hi
  cases i with
  | zero => rw [h0]; simp
  | succ i =>
    have := congrArg (fun z => z.getLsbD i) h
    simp [BitVec.getLsbD_ushiftRight] at this
    rw [Nat.add_comm] at this
    simpa using this
theorem stps_inj0 : ∀ (n : Nat) {x : BitVec 32}, stps n x = 0#32 → x = 0#32
  | 0, x, h => h
  | n + 1, x, h => stp_inj0 (stps_inj0 n h)
def Bytes (l : List Int) : Prop := ∀ x ∈ l, 0 ≤ x ∧ x ≤ 255
def b32 (c : Int) : BitVec 32 := BitVec.ofNat 32 c.toNat
theorem b32_eq {c : Int} (h : 0 ≤ c ∧ c ≤ 255) : IntKind.u32.wrap c = I32 (b32 c) := by
  rw [wu32 h.1 (by omega)]
  exact I32_of h.1 (by omega)
def take8 (x : BitVec 32) (c : Int) : BitVec 32 := stps 8 (x ^^^ b32 c)
def regs (x : BitVec 32) (l : List Int) : BitVec 32 := l.foldl take8 x
def tabL : List Int := (List.range 16).map fun i => I32 (stps 4 (BitVec.ofNat 32 i))
def tabA : Arr 16 Int := ⟨tabL, rfl⟩
theorem table_at (n : Nat) : crc_Table.f (n + 20) = some tabA := by kernel_rfl
theorem table_eq {fu : Nat} (h : 20 ≤ fu) : crc_Table.f fu = some tabA := by
  obtain ⟨n, rfl⟩ : ∃ n, fu = n + 20 := ⟨fu - 20, by omega⟩
  exact table_at n
theorem tab_get : ∀ i : Fin 16, Arr.get tabA ((i : Nat) : Int) = I32 (stps 4 (BitVec.ofNat 32 (i : Nat))) := by decide +kernel
theorem nib (x : BitVec 32) : bXor .u32 (shR .u32 (I32 x) 4) (Arr.get tabA (bAnd .u32 (I32 x) 15)) = I32 (stps 4 x) := by
  have e1 : bAnd .u32 (I32 x) 15 = I32 (x &&& 15#32) := ba32 x 15#32
  have e2 : shR .u32 (I32 x) 4 = I32 (x >>> 4) := sr32 x 4 (by decide)
  have hlt : (x &&& 15#32).toNat < 16 := by
    rw [BitVec.toNat_and]
    exact Nat.lt_of_le_of_lt Nat.and_le_right (by decide)
  have e3 : Arr.get tabA (I32 (x &&& 15#32)) = I32 (stps 4 (x &&& 15#32)) := by
    have := tab_get ⟨(x &&& 15#32).toNat, hlt⟩
    simp only [BitVec.ofNat_toNat, BitVec.setWidth_eq] at this
    exact this
  rw [e1, e2, e3, bx32]
  exact congrArg I32 (stps_split 4 (by decide) x).symm
theorem nib_in (x : BitVec 32) : 0 ≤ bAnd .u32 (I32 x) 15 ∧ bAnd .u32 (I32 x) 15 < 16 := by
  have e1 : bAnd .u32 (I32 x) 15 = I32 (x &&& 15#32) := ba32 x 15#32
  have hlt : (x &&& 15#32).toNat < 16 := by
    rw [BitVec.toNat_and]
    exact Nat.lt_of_le_of_lt Nat.and_le_right (by decide)
  rw [e1]
  unfold I32
  omega
theorem ix_nat {α : Type} [Inhabited α] {l : List α} {j : Nat} (h : j < l.length) : ix l (j : Int) = l[j] := by
  simp [ix, List.getD_eq_getElem?_getD, List.getElem?_eq_getElem h]
theorem take_next {α : Type} {l : List α} {j : Nat} (h : j < l.length) : l.take (j + 1) = l.take j ++ [l[j]] := by
  rw [List.take_add_one, List.getElem?_eq_getElem h]
  rfl
theorem reg_eq {fu : Nat} {x : BitVec 32} {l : List Int} (hb : Bytes l) (hl : l.length ≤ 9000000000000000000) (hf : l.length < fu) : crc_register.f fu tabA (I32 x) l = some (I32 (regs x l)) := by
  unfold crc_register.f
  have : loopM (crc_register.s0 fu tabA l) fu (I32 x, 0) = some (I32 (regs x l)) := by
    refine loopM_run (S := fun j => (I32 (regs x (l.take j)), (j : Int))) l.length (by simp [regs]) ?_ ?_ hf
    · intro j hj
      unfold crc_register.s0
      have h1 : (j : Int) < (l.length : Int) := by omega
      have w3 : IntKind.i64.wrap ((j : Int) + 1) = ((j + 1 : Nat) : Int) := by rw [w64 (by omega) (by omega)]; omega
      have hc := hb _ (List.getElem_mem hj)
      have e1 : bXor .u32 (I32 (regs x (l.take j))) (IntKind.u32.wrap (ix l (j : Int))) = I32 (regs x (l.take j) ^^^ b32 l[j]) := by
        rw [ix_nat hj, b32_eq hc, bx32]
      have e2 : regs x (l.take (j + 1)) = stps 4 (stps 4 (regs x (l.take j) ^^^ b32 l[j])) := by
        rw [take_next hj]
        unfold regs
        rw [List.foldl_append]
        exact stps_add 4 4 _
      simp only [h1, decide_true, if_true, e1, nib, w3, e2]
      rw [if_pos ⟨by omega, trivial⟩, if_pos (nib_in _), if_pos (nib_in _)]
    · unfold crc_register.s0
      simp
  rw [this]
  rfl
def ones : BitVec 32 := 4294967295#32
def crc (l : List Int) : BitVec 32 := regs ones l ^^^ ones
theorem regs_append (x : BitVec 32) (a b : List Int) : regs x (a ++ b) = regs (regs x a) b := by
  unfold regs
  rw [List.foldl_append]
theorem sum_eq {fu : Nat} {l : List Int} (hb : Bytes l) (hl : l.length ≤ 9000000000000000000) (hf : l.length + 20 < fu) : crc_Sum.f fu [l] = some (I32 (crc l)) := by
  unfold crc_Sum.f
  rw [table_eq (by omega)]
  have : loopM (crc_Sum.s0 fu [l] tabA) fu (4294967295, 0) = some (I32 (regs ones l)) := by
    refine loopM_run (S := fun j => (if j = 0 then I32 ones else I32 (regs ones l), (j : Int))) 1 rfl ?_ ?_ (by omega)
    · intro j hj
      obtain rfl : j = 0 := by omega
      unfold crc_Sum.s0
      have e0 : ix [l] ((0 : Nat) : Int) = l := rfl
      have w3 : IntKind.i64.wrap (((0 : Nat) : Int) + 1) = ((0 + 1 : Nat) : Int) := by decide
      simp only [e0, w3, if_true, reg_eq hb hl (by omega : l.length < fu)]
      simp
    · unfold crc_Sum.s0
      simp
  simp only [Option.bind_some]
  rw [this]
  simp only [Option.bind_some]
  exact congrArg some (bx32 _ ones)
theorem rsteps_eq {fu : Nat} {x : BitVec 32} (hf : 8 < fu) : rickyardref02_Steps.f fu (I32 x) 8 = some (I32 (stps 8 x)) := by
  unfold rickyardref02_Steps.f
  have : loopM (rickyardref02_Steps.s0 fu 8) fu (I32 x, 0) = some (I32 (stps 8 x)) := by
    refine loopM_run (S := fun j => (I32 (stps j x), (j : Int))) 8 rfl ?_ ?_ hf
    · intro j hj
      unfold rickyardref02_Steps.s0
      have h1 : (j : Int) < 8 := by omega
      have w3 : IntKind.i64.wrap ((j : Int) + 1) = ((j + 1 : Nat) : Int) := by rw [w64 (by omega) (by omega)]; omega
      simp only [h1, decide_true, if_true, rstep_eq, w3, stps_succ]
      rfl
    · unfold rickyardref02_Steps.s0
      simp
  rw [this]
  rfl
theorem rsum_eq {fu : Nat} {l : List Int} (hb : Bytes l) (hl : l.length ≤ 9000000000000000000) (hf : l.length + 20 < fu) : rickyardref02_Sum.f fu l = some (I32 (crc l)) := by
  unfold rickyardref02_Sum.f
  have : loopM (rickyardref02_Sum.s0 fu l) fu (4294967295, 0) = some (I32 (regs ones l)) := by
    refine loopM_run (S := fun j => (I32 (regs ones (l.take j)), (j : Int))) l.length (by simp [regs]; rfl) ?_ ?_ (by omega)
    · intro j hj
      unfold rickyardref02_Sum.s0
      have h1 : (j : Int) < (l.length : Int) := by omega
      have w3 : IntKind.i64.wrap ((j : Int) + 1) = ((j + 1 : Nat) : Int) := by rw [w64 (by omega) (by omega)]; omega
      have hc := hb _ (List.getElem_mem hj)
      have e1 : bXor .u32 (I32 (regs ones (l.take j))) (IntKind.u32.wrap (ix l (j : Int))) = I32 (regs ones (l.take j) ^^^ b32 l[j]) := by
        rw [ix_nat hj, b32_eq hc, bx32]
      have e2 : regs ones (l.take (j + 1)) = stps 8 (regs ones (l.take j) ^^^ b32 l[j]) := by
        rw [take_next hj]
        unfold regs
        rw [List.foldl_append]
        rfl
      simp only [h1, decide_true, if_true, e1, w3, e2, rsteps_eq (by omega : 8 < fu)]
      rw [if_pos ⟨by omega, trivial⟩]
      rfl
    · unfold rickyardref02_Sum.s0
      simp
  rw [this]
  have e : IntKind.u32.wrap (4294967295 - I32 (regs ones l)) = I32 (crc l) := by
    have hlt := (regs ones l).isLt
    have h2 : (crc l).toNat = 4294967295 - (regs ones l).toNat := by
      unfold crc
      have : regs ones l ^^^ ones = ~~~ (regs ones l) := by
        apply BitVec.eq_of_getLsbD_eq
        intro i hi
        have ho : ones.getLsbD i = true := by
          have := low_bit 32 i hi (by decide)
          exact this
        rw [BitVec.getLsbD_xor, BitVec.getLsbD_not, ho]
        simp [hi]
      rw [this, BitVec.toNat_not]
    unfold I32
    rw [h2, wu32 (by omega) (by omega)]
    omega
  simp only [Option.bind_some, e]
end Go.Proofs.Ytjhajfkfhdnciaa.Pure

/- rickyard/rickyardref01.Octet: its model, and that the Go function computes it: written by gen.py. -/
set_option linter.unusedVariables false
namespace Go.Proofs.Ytjhajfkfhdnciaa
open Go Go.Xw
def rickyardref01_Octet.s0 (fu : Nat) (a1 : Int) : (Int × Int) → Option (Sum Int (Int × Int)) := fun s1 => (if (decide (s1.2 < a1)) = true then some (Sum.inr ((IntKind.u64.wrap (Int.tdiv s1.1 256)), (IntKind.i64.wrap (s1.2 + 1)))) else some (Sum.inl (s1.1)))
def rickyardref01_Octet.f (fu : Nat) (a0 : Int) (a1 : Int) : Option Int := ((loopM (rickyardref01_Octet.s0 fu a1) fu (a0, 0)).bind fun e2 => some ((IntKind.u8.wrap (Int.tmod e2 256))))
set_option maxRecDepth 100000 in
set_option maxHeartbeats 400000 in
theorem rickyardref01_Octet.ok (fu : Nat) (w : World) (a0 : Int) (a1 : Int) (r : Int) (h : rickyardref01_Octet.f fu a0 a1 = some r) :
    Calls Try.prog 132 (([.int .u64 a0, .int .i64 a1] : List Value).toArray) w (fun e w' => ∃ v, e = .returned v ∧ v = .int .u8 r ∧ Gr w w') := by
  unfold rickyardref01_Octet.f at h
  have fB : Gr w w := Fr.refl _ _
  refine calls_cw Try.func132 rfl Try.ntmps132 rfl ?_
  refine cw_seq ?_
  refine cw_region ?_
  refine ol_val (v := .int .u8 0) (by exact xr_assign rfl rfl) rfl rfl rfl ?_
  refine ol_nil ?_
  refine cw_seq ?_
  refine cw_seq ?_
  refine cw_region ?_
  refine ol_val (v := .int .i64 0) (by exact xr_assign rfl rfl) rfl rfl rfl ?_
  refine ol_nil ?_
  obtain ⟨e2, l3, h4⟩ := bs h
  refine cw_mid (fun ρ' w' => ρ' 0 = .int .u64 e2 ∧ Gr w w') ?_ ?_
  · refine cw_block ?_
    refine cw_round (fun (s1 : Int × Int) ρ' w' => ρ' 0 = .int .u64 s1.1 ∧ ρ' 1 = .int .i64 a1 ∧ ρ' 5 = .int .i64 s1.2 ∧ Gr w w') l3 ?_ ?_
    · skip
      exact ⟨rfl, rfl, rfl, fB⟩
    · rintro s1 x7 ρ5 w6 ⟨e0, e1, e5, fB⟩ h
      unfold rickyardref01_Octet.s0 at h
      refine cw_seq ?_
      refine cw_seq ?_
      refine cw_region ?_
      refine ol_val (v := .int .i64 s1.2) (by exact xr_move rfl e5) rfl rfl rfl ?_
      refine ol_val (v := .int .i64 a1) (by exact xr_move rfl e1) rfl rfl rfl ?_
      refine ol_val (v := .bool (decide (s1.2 < a1))) (by exact xr_lss rfl rfl rfl) rfl rfl rfl ?_
      refine ol_nil ?_
      rcases is h with ⟨c8, h⟩ | ⟨c8, h⟩
      · refine cw_condT rfl c8 ?_
        refine cw_skip ?_
        refine cw_seq ?_
        refine cw_block ?_
        refine cw_region ?_
        refine ol_val (v := .int .u64 s1.1) (by exact xr_move rfl e0) rfl rfl rfl ?_
        refine ol_val (v := .int .u64 (IntKind.u64.wrap (Int.tdiv s1.1 256))) (by exact xr_quo rfl rfl rfl (by decide)) rfl rfl rfl ?_
        refine ol_val (v := .int .u64 (IntKind.u64.wrap (Int.tdiv s1.1 256))) (by exact xr_assign rfl rfl) rfl rfl rfl ?_
        refine ol_nil ?_
        refine blk_i ?_
        refine cw_region ?_
        refine ol_val (v := .int .i64 s1.2) (by exact xr_move rfl e5) rfl rfl rfl ?_
        refine ol_val (v := .int .i64 (IntKind.i64.wrap (s1.2 + 1))) (by exact xr_add rfl rfl rfl) rfl rfl rfl ?_
        refine ol_val (v := .int .i64 (IntKind.i64.wrap (s1.2 + 1))) (by exact xr_assign rfl rfl) rfl rfl rfl ?_
        refine ol_nil ?_
        obtain rfl := Option.some.inj h
        refine lp_in ?_
        exact ⟨rfl, e1, rfl, fB⟩
      · refine cw_condF rfl c8 ?_
        refine cw_exit ?_
        repeat (first | with_reducible refine thn_e ?_ | with_reducible refine blk_e rfl ?_)
        obtain rfl := Option.some.inj h
        refine lp_exit ?_
        rintro rfl
        refine thn_x ?_
        exact ⟨e0, fB⟩
  · rintro ρ9 w10 ⟨e0, fB⟩
    have h := h4
    refine cw_seq ?_
    refine cw_region ?_
    refine ol_val (v := .int .u64 e2) (by exact xr_move rfl e0) rfl rfl rfl ?_
    refine ol_val (v := .int .u64 (Int.tmod e2 256)) (by exact xr_rem rfl rfl rfl (by decide)) rfl rfl rfl ?_
    refine ol_val (v := .int .u8 (IntKind.u8.wrap (Int.tmod e2 256))) (by exact xr_conv rfl Try.underlying129 Try.underlying5 rfl) rfl rfl rfl ?_
    refine ol_val (v := .int .u8 (IntKind.u8.wrap (Int.tmod e2 256))) (by exact xr_assign rfl rfl) rfl rfl rfl ?_
    refine ol_nil ?_
    refine cw_ret ?_
    repeat (first | with_reducible refine thn_r ?_ | with_reducible refine blk_r ?_)
    obtain rfl := Option.some.inj h
    refine fin_ret1 Try.results132 rfl ?_
    exact ⟨_, rfl, rfl, fB⟩
end Go.Proofs.Ytjhajfkfhdnciaa

/- rickyard/rickyardref01.Lay: its model, and that the Go function computes it: written by gen.py. -/
set_option linter.unusedVariables false
namespace Go.Proofs.Ytjhajfkfhdnciaa
open Go Go.Xw
def rickyardref01_Lay.s0 (fu : Nat) (a0 : Int) (a1 : Int) : ((List UInt8) × Int) → Option (Sum (List UInt8) ((List UInt8) × Int)) := fun s1 => (if (decide (s1.2 < a1)) = true then ((rickyardref01_Octet.f fu a0 s1.2 : Option Int).bind fun t9 => (if List.length s1.1 + List.length (List.map toB [t9]) ≤ LIM then some (Sum.inr ((s1.1 ++ (List.map toB [t9])), (IntKind.i64.wrap (s1.2 + 1)))) else none)) else some (Sum.inl (s1.1)))
def rickyardref01_Lay.f (fu : Nat) (a0 : Int) (a1 : Int) : Option (List UInt8) := ((loopM (rickyardref01_Lay.s0 fu a0 a1) fu ([], 0)).bind fun e2 => some (e2))
set_option maxRecDepth 100000 in
set_option maxHeartbeats 400000 in
theorem rickyardref01_Lay.ok (fu : Nat) (w : World) (a0 : Int) (a1 : Int) (r : (List UInt8)) (h : rickyardref01_Lay.f fu a0 a1 = some r) :
    Calls Try.prog 99 (([.int .u64 a0, .int .i64 a1] : List Value).toArray) w (fun e w' => ∃ v, e = .returned v ∧ v = sv r ∧ Gr w w') := by
  unfold rickyardref01_Lay.f at h
  have fB : Gr w w := Fr.refl _ _
  refine calls_cw Try.func99 rfl Try.ntmps99 rfl ?_
  refine cw_seq ?_
  refine cw_region ?_
  refine ol_val (v := sv []) (by exact xr_assign rfl rfl) rfl rfl rfl ?_
  refine ol_nil ?_
  refine cw_seq ?_
  refine cw_region ?_
  refine ol_val (v := sv []) (by exact xr_assign rfl rfl) rfl rfl rfl ?_
  refine ol_nil ?_
  refine cw_seq ?_
  refine cw_seq ?_
  refine cw_region ?_
  refine ol_val (v := .int .i64 0) (by exact xr_assign rfl rfl) rfl rfl rfl ?_
  refine ol_nil ?_
  obtain ⟨e2, l3, h4⟩ := bs h
  refine cw_mid (fun ρ' w' => ρ' 5 = sv e2 ∧ Gr w w') ?_ ?_
  · refine cw_block ?_
    refine cw_round (fun (s1 : (List UInt8) × Int) ρ' w' => ρ' 0 = .int .u64 a0 ∧ ρ' 1 = .int .i64 a1 ∧ ρ' 5 = sv s1.1 ∧ ρ' 6 = .int .i64 s1.2 ∧ Gr w w') l3 ?_ ?_
    · skip
      exact ⟨rfl, rfl, rfl, rfl, fB⟩
    · rintro s1 x7 ρ5 w6 ⟨e0, e1, e5, e6, fB⟩ h
      unfold rickyardref01_Lay.s0 at h
      refine cw_seq ?_
      refine cw_seq ?_
      refine cw_region ?_
      refine ol_val (v := .int .i64 s1.2) (by exact xr_move rfl e6) rfl rfl rfl ?_
      refine ol_val (v := .int .i64 a1) (by exact xr_move rfl e1) rfl rfl rfl ?_
      refine ol_val (v := .bool (decide (s1.2 < a1))) (by exact xr_lss rfl rfl rfl) rfl rfl rfl ?_
      refine ol_nil ?_
      rcases is h with ⟨c8, h⟩ | ⟨c8, h⟩
      · refine cw_condT rfl c8 ?_
        refine cw_skip ?_
        refine cw_seq ?_
        refine cw_block ?_
        refine cw_region ?_
        refine ol_val (v := sv s1.1) (by exact xr_move rfl e5) rfl rfl rfl ?_
        refine ol_val (v := .int .u64 a0) (by exact xr_move rfl e0) rfl rfl rfl ?_
        refine ol_val (v := .int .i64 s1.2) (by exact xr_move rfl e6) rfl rfl rfl ?_
        obtain ⟨t9, k10, h⟩ := bs h
        refine ol_op (by exact opv_call rfl cal132 (ac rfl (ac rfl an)) (rickyardref01_Octet.ok fu _ a0 s1.2 _ k10)) rfl rfl rfl ?_
        rintro _ w12 ⟨rfl, q11⟩
        have fB := fB.gr q11
        refine ol_op (by exact opv_buildSlice (K := (kI .u8)) (xs := [t9]) (vals := [.int .u8 t9]) rfl Try.underlying22 el5 rfl rfl ⟨rfl, rfl, trivial⟩ rfl rfl rfl fB.size) rfl rfl rfl ?_
        rintro v13 w18 ⟨o15, q14, z16⟩
        have fB := fB.gr q14
        refine ol_val (v := sv (List.map toB [t9])) (by exact xr_toStr rfl Try.underlying22 Try.underlying5 Try.underlying9 rfl o15.rd) rfl rfl rfl ?_
        obtain ⟨g19, h⟩ := gs h
        refine ol_val (v := sv (s1.1 ++ (List.map toB [t9]))) (by exact xr_addStr rfl rfl rfl g19) rfl rfl rfl ?_
        refine ol_val (v := sv (s1.1 ++ (List.map toB [t9]))) (by exact xr_assign rfl rfl) rfl rfl rfl ?_
        refine ol_nil ?_
        refine blk_i ?_
        refine cw_region ?_
        refine ol_val (v := .int .i64 s1.2) (by exact xr_move rfl e6) rfl rfl rfl ?_
        refine ol_val (v := .int .i64 (IntKind.i64.wrap (s1.2 + 1))) (by exact xr_add rfl rfl rfl) rfl rfl rfl ?_
        refine ol_val (v := .int .i64 (IntKind.i64.wrap (s1.2 + 1))) (by exact xr_assign rfl rfl) rfl rfl rfl ?_
        refine ol_nil ?_
        obtain rfl := Option.some.inj h
        refine lp_in ?_
        exact ⟨e0, e1, rfl, rfl, fB⟩
      · refine cw_condF rfl c8 ?_
        refine cw_exit ?_
        repeat (first | with_reducible refine thn_e ?_ | with_reducible refine blk_e rfl ?_)
        obtain rfl := Option.some.inj h
        refine lp_exit ?_
        rintro rfl
        refine thn_x ?_
        exact ⟨e5, fB⟩
  · rintro ρ20 w21 ⟨e5, fB⟩
    have h := h4
    refine cw_seq ?_
    refine cw_region ?_
    refine ol_val (v := sv e2) (by exact xr_move rfl e5) rfl rfl rfl ?_
    refine ol_val (v := sv e2) (by exact xr_assign rfl rfl) rfl rfl rfl ?_
    refine ol_nil ?_
    refine cw_ret ?_
    repeat (first | with_reducible refine thn_r ?_ | with_reducible refine blk_r ?_)
    obtain rfl := Option.some.inj h
    refine fin_ret1 Try.results99 rfl ?_
    exact ⟨_, rfl, rfl, fB⟩
end Go.Proofs.Ytjhajfkfhdnciaa
