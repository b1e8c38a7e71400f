/- PageLeaves: texts merged, part 3 of 5. The last part proves that the law PageLeaves holds for every input. -/
import Derived.Test.YtjhajfkfhdnciaaPkPageLeaves2
import Derived.ProofKit
import Derived.OpenShut
import Derived.ChangeOld
import Derived.Below
import Derived.SizedLaws
import Derived.WalkKit
/- rickyard/page.GetLeaf: its model, and that the Go function computes it: written by gen.py. -/
set_option linter.unusedVariables false
namespace Go.Proofs.Ytjhajfkfhdnciaa
open Go Go.Xw
def page_GetLeaf.s0 (fu : Nat) (t7 : Int × Int × (List Int) × Bool) : (Int × S_api_Leaf) → Option (Sum (Sum (S_api_Leaf × Bool) S_api_Leaf) (Int × S_api_Leaf)) := fun s27 => (if (decide (s27.1 < 7)) = true then (if (0 : Int) ≤ (IntKind.i64.wrap (8 * s27.1)) ∧ (IntKind.i64.wrap (8 * s27.1)) ≤ (IntKind.i64.wrap (8 * (IntKind.i64.wrap (s27.1 + 1)))) ∧ (IntKind.i64.wrap (8 * (IntKind.i64.wrap (s27.1 + 1)))) ≤ (List.length t7.2.2.1 : Int) then (if 0 ≤ s27.1 then (if (4 : Int) ≤ (List.length (cut t7.2.2.1 (IntKind.i64.wrap (8 * s27.1)) (IntKind.i64.wrap (8 * (IntKind.i64.wrap (s27.1 + 1))))) : Int) then ((octet_Read.f fu (cut (cut t7.2.2.1 (IntKind.i64.wrap (8 * s27.1)) (IntKind.i64.wrap (8 * (IntKind.i64.wrap (s27.1 + 1))))) 0 4) : Option Int).bind fun t42 => (if (4 : Int) ≤ (List.length (cut t7.2.2.1 (IntKind.i64.wrap (8 * s27.1)) (IntKind.i64.wrap (8 * (IntKind.i64.wrap (s27.1 + 1))))) : Int) then ((octet_Read.f fu (cut (cut t7.2.2.1 (IntKind.i64.wrap (8 * s27.1)) (IntKind.i64.wrap (8 * (IntKind.i64.wrap (s27.1 + 1))))) 4 (List.length (cut t7.2.2.1 (IntKind.i64.wrap (8 * s27.1)) (IntKind.i64.wrap (8 * (IntKind.i64.wrap (s27.1 + 1))))) : Int)) : Option Int).bind fun t48 => ((page_RightSeat.f fu (⟨(decide ((bAnd .i64 (shR .i64 t7.2.1 s27.1) 1) = 1)), (IntKind.i64.wrap t42), (IntKind.i64.wrap t48)⟩ : S_api_Seat) : Option Bool).bind fun t67 => (if (!t67) = true then some (Sum.inl (Sum.inl ((⟨(Arr.rep 7 (⟨false, (0 : Int), (0 : Int)⟩ : S_api_Seat))⟩ : S_api_Leaf), false))) else (if 0 ≤ s27.1 ∧ s27.1 < 7 then some (Sum.inr ((IntKind.i64.wrap (s27.1 + 1)), (⟨(Arr.set s27.2.Seats s27.1 (⟨(decide ((bAnd .i64 (shR .i64 t7.2.1 s27.1) 1) = 1)), (IntKind.i64.wrap t42), (IntKind.i64.wrap t48)⟩ : S_api_Seat))⟩ : S_api_Leaf))) else none)))) else none)) else none) else none) else none) else some (Sum.inl (Sum.inr (s27.2))))
def page_GetLeaf.f (fu : Nat) (a0 : List Int) : Option (S_api_Leaf × Bool) := ((block_Open.f fu a0 : Option (Int × Int × (List Int) × Bool)).bind fun t7 => (if (if (!t7.2.2.2) = true then true else (if (!decide (t7.1 = 2)) = true then true else (decide (t7.2.1 ≥ 128)))) = true then some ((⟨(Arr.rep 7 (⟨false, (0 : Int), (0 : Int)⟩ : S_api_Seat))⟩ : S_api_Leaf), false) else ((loopM (page_GetLeaf.s0 fu t7) fu (0, (⟨(Arr.rep 7 (⟨false, (0 : Int), (0 : Int)⟩ : S_api_Seat))⟩ : S_api_Leaf))).bind fun e28 => match e28 with | Sum.inl p => some p | Sum.inr x31 => some (x31, true))))
set_option maxRecDepth 100000 in
set_option maxHeartbeats 400000 in
theorem page_GetLeaf.ok (fu : Nat) (w : World) (a0 : List Int) (V0_0 : Value) (R0_0 : Rd (kI .u8) w V0_0 a0) (r : S_api_Leaf × Bool) (h : page_GetLeaf.f fu a0 = some r) :
    Calls Try.prog 51 (([V0_0] : List Value).toArray) w (fun e w' => ∃ v, e = .returned v ∧ v = .tuple #[aggV [Kd.seg (kA 7 k_api_Seat) r.1.Seats], .bool r.2] ∧ Gr w w') := by
  unfold page_GetLeaf.f at h
  have fB : Gr w w := Fr.refl _ _
  refine calls_cw Try.func51 rfl Try.ntmps51 rfl ?_
  refine cw_seq ?_
  refine cw_region ?_
  refine ol_op (by exact opv_alloc (ss := [Kd.seg (kA 7 k_api_Seat) (Arr.rep 7 (⟨false, (0 : Int), (0 : Int)⟩ : S_api_Seat))]) rfl ze61 rfl) rfl rfl rfl ?_
  rintro _ w6 ⟨G1, rfl, b2, q3, z4⟩
  have z4 := Nat.le_trans fB.size z4
  have fB := fB.gr q3
  refine ol_val (v := .bool false) (by exact xr_assign rfl rfl) rfl rfl rfl ?_
  refine ol_nil ?_
  refine cw_seq ?_
  refine cw_region ?_
  refine ol_val (v := V0_0) (by exact xr_move rfl rfl) rfl rfl rfl ?_
  obtain ⟨t7, k8, h⟩ := bs h
  refine ol_op (by exact opv_call rfl cal29 (ac rfl an) (block_Open.ok fu _ a0 V0_0 (R0_0.gr fB) _ k8)) rfl rfl rfl ?_
  rintro _ w13 ⟨u9, o10, rfl, q12⟩
  have o10 := Own.base o10 fB.size
  have b2 := b2.gr q12
  have fB := fB.gr q12
  refine ol_val (v := .tuple #[.int .i64 t7.1, .int .i64 t7.2.1, u9, .bool t7.2.2.2]) (by exact xr_move rfl rfl) rfl rfl rfl ?_
  refine ol_val (v := .int .i64 t7.1) (by exact xr_extract rfl rfl rfl) rfl rfl rfl ?_
  refine ol_val (v := .int .i64 t7.2.1) (by exact xr_extract rfl rfl rfl) rfl rfl rfl ?_
  refine ol_val (v := u9) (by exact xr_extract rfl rfl rfl) rfl rfl rfl ?_
  refine ol_val (v := .bool t7.2.2.2) (by exact xr_extract rfl rfl rfl) rfl rfl rfl ?_
  refine ol_val (v := .int .i64 t7.1) (by exact xr_assign rfl rfl) rfl rfl rfl ?_
  refine ol_val (v := .int .i64 t7.2.1) (by exact xr_assign rfl rfl) rfl rfl rfl ?_
  refine ol_val (v := u9) (by exact xr_assign rfl rfl) rfl rfl rfl ?_
  refine ol_val (v := .bool t7.2.2.2) (by exact xr_assign rfl rfl) rfl rfl rfl ?_
  refine ol_nil ?_
  refine cw_seq ?_
  refine cw_seq ?_
  refine cw_mid (fun ρ' w' => ρ' 2 = .pointer (some ⟨G1, 0, none⟩) ∧ ρ' 5 = .int .i64 t7.2.1 ∧ ρ' 6 = u9 ∧ ρ' 28 = .bool (if (!t7.2.2.2) = true then true else (if (!decide (t7.1 = 2)) = true then true else (decide (t7.2.1 ≥ 128)))) ∧ w13 = w') ?_ ?_
  · skip
    refine cw_region ?_
    refine ol_val (v := .bool t7.2.2.2) (by exact xr_move rfl rfl) rfl rfl rfl ?_
    refine ol_val (v := .bool (!t7.2.2.2)) (by exact xr_not rfl rfl) rfl rfl rfl ?_
    refine ol_val (v := .bool (!t7.2.2.2)) (by exact xr_move rfl rfl) rfl rfl rfl ?_
    rcases bt (!t7.2.2.2) with c14 | c14
    · skip
      refine ol_gskip rfl rfl rfl rfl rfl c14 ?_
      refine ol_gskip rfl rfl rfl rfl rfl c14 ?_
      refine ol_val (v := .bool true) (by exact xr_pickT rfl rfl c14 rfl) rfl rfl rfl ?_
      refine ol_val (v := .bool true) (by exact xr_move rfl rfl) rfl rfl rfl ?_
      refine ol_gskip rfl rfl rfl rfl rfl rfl ?_
      refine ol_gskip rfl rfl rfl rfl rfl rfl ?_
      refine ol_val (v := .bool true) (by exact xr_pickT rfl rfl rfl rfl) rfl rfl rfl ?_
      refine ol_nil ?_
      refine thn_i ?_
      exact ⟨rfl, rfl, rfl, (rfl).trans (congrArg (fun z => (.bool z : Value)) (show true = (if (!t7.2.2.2) = true then true else (if (!decide (t7.1 = 2)) = true then true else (decide (t7.2.1 ≥ 128)))) from by rw [ite_t c14])), rfl⟩
    · skip
      refine ol_gval (v := .int .i64 t7.1) (by exact xr_move rfl rfl) rfl rfl rfl rfl rfl c14 ?_
      refine ol_gval (v := .bool (!decide (t7.1 = 2))) (by exact xr_neI rfl Try.underlying3 rfl rfl rfl) rfl rfl rfl rfl rfl c14 ?_
      refine ol_val (v := .bool (!decide (t7.1 = 2))) (by exact xr_pickF rfl rfl c14 rfl) rfl rfl rfl ?_
      refine ol_val (v := .bool (!decide (t7.1 = 2))) (by exact xr_move rfl rfl) rfl rfl rfl ?_
      rcases bt (!decide (t7.1 = 2)) with c15 | c15
      · skip
        refine ol_gskip rfl rfl rfl rfl rfl c15 ?_
        refine ol_gskip rfl rfl rfl rfl rfl c15 ?_
        refine ol_val (v := .bool true) (by exact xr_pickT rfl rfl c15 rfl) rfl rfl rfl ?_
        refine ol_nil ?_
        refine thn_i ?_
        exact ⟨rfl, rfl, rfl, (rfl).trans (congrArg (fun z => (.bool z : Value)) (show true = (if (!t7.2.2.2) = true then true else (if (!decide (t7.1 = 2)) = true then true else (decide (t7.2.1 ≥ 128)))) from by rw [ite_f c14, ite_t c15])), rfl⟩
      · skip
        refine ol_gval (v := .int .i64 t7.2.1) (by exact xr_move rfl rfl) rfl rfl rfl rfl rfl c15 ?_
        refine ol_gval (v := .bool (decide (t7.2.1 ≥ 128))) (by exact xr_geq rfl rfl rfl) rfl rfl rfl rfl rfl c15 ?_
        refine ol_val (v := .bool (decide (t7.2.1 ≥ 128))) (by exact xr_pickF rfl rfl c15 rfl) rfl rfl rfl ?_
        refine ol_nil ?_
        refine thn_i ?_
        exact ⟨rfl, rfl, rfl, (rfl).trans (congrArg (fun z => (.bool z : Value)) (show (decide (t7.2.1 ≥ 128)) = (if (!t7.2.2.2) = true then true else (if (!decide (t7.1 = 2)) = true then true else (decide (t7.2.1 ≥ 128)))) from by rw [ite_f c14, ite_f c15])), rfl⟩
  · skip
    rintro ρ16 _ ⟨e2, e5, e6, e28, rfl⟩
    rcases is h with ⟨c17, h⟩ | ⟨c17, h⟩
    · refine cw_condT e28 c17 ?_
      refine cw_seq ?_
      refine cw_region ?_
      refine ol_val (v := aggV [Kd.seg (kA 7 k_api_Seat) (Arr.rep 7 (⟨false, (0 : Int), (0 : Int)⟩ : S_api_Seat))]) (by exact xr_build (vals := []) rfl trivial (bl61_ _)) rfl rfl rfl ?_
      refine ol_op0 (by exact opv_store (ss' := [Kd.seg (kA 7 k_api_Seat) (Arr.rep 7 (⟨false, (0 : Int), (0 : Int)⟩ : S_api_Seat))]) (xs := cellsOf [Kd.seg (kA 7 k_api_Seat) (Arr.rep 7 (⟨false, (0 : Int), (0 : Int)⟩ : S_api_Seat))]) rfl sz61 e2 rfl rfl (len_cellsOf _) (one_cellsOf _) b2 (Spl.segs _ 0 1 [Kd.seg (kA 7 k_api_Seat) (Arr.rep 7 (⟨false, (0 : Int), (0 : Int)⟩ : S_api_Seat))] rfl rfl)) rfl rfl ?_
      rintro _ w19 ⟨b2, q18⟩
      have fB := fB.wr q18 z4
      refine ol_val (v := .bool false) (by exact xr_assign rfl rfl) rfl rfl rfl ?_
      refine ol_nil ?_
      refine cw_ret ?_
      repeat (first | with_reducible refine thn_r ?_ | with_reducible refine blk_r ?_)
      obtain rfl := Option.some.inj h
      refine fin_cell_tmp Try.results51 e2 ag61 sz61 b2 (by rfl) rfl ?_
      exact ⟨_, rfl, rfl, fB⟩
    · refine cw_condF e28 c17 ?_
      refine cw_skip ?_
      refine cw_seq ?_
      refine cw_region ?_
      refine ol_op (by exact opv_alloc (ss := [Kd.seg (kA 7 k_api_Seat) (Arr.rep 7 (⟨false, (0 : Int), (0 : Int)⟩ : S_api_Seat))]) rfl ze61 rfl) rfl rfl rfl ?_
      rintro _ w25 ⟨G20, rfl, b21, q22, z23⟩
      have n26 := Blk.ne b2 z23
      have z23 := Nat.le_trans fB.size z23
      have b2 := b2.gr q22
      have o10 := o10.gr q22
      have fB := fB.gr q22
      refine ol_nil ?_
      refine cw_seq ?_
      refine cw_seq ?_
      refine cw_region ?_
      refine ol_val (v := .int .i64 0) (by exact xr_move rfl rfl) rfl rfl rfl ?_
      refine ol_nil ?_
      obtain ⟨e28, l29, h30⟩ := bs h
      refine cw_mid (fun ρ' w' => ∃ x31, e28 = Sum.inr x31 ∧ ρ' 2 = .pointer (some ⟨G1, 0, none⟩) ∧ ρ' 8 = .pointer (some ⟨G20, 0, none⟩) ∧ Blk w' G1 61 [Kd.seg (kA 7 k_api_Seat) (Arr.rep 7 (⟨false, (0 : Int), (0 : Int)⟩ : S_api_Seat))] ∧ Blk w' G20 61 [Kd.seg (kA 7 k_api_Seat) x31.Seats] ∧ Gr w w') ?_ ?_
      · refine cw_block ?_
        refine cw_round (fun (s27 : Int × S_api_Leaf) ρ' w' => ∃ o10 : Own (kI .u8) 5 w' w.heap.size u9 t7.2.2.1, ρ' 2 = .pointer (some ⟨G1, 0, none⟩) ∧ ρ' 5 = .int .i64 t7.2.1 ∧ ρ' 6 = u9 ∧ ρ' 8 = .pointer (some ⟨G20, 0, none⟩) ∧ ρ' 30 = .int .i64 s27.1 ∧ Blk w' G1 61 [Kd.seg (kA 7 k_api_Seat) (Arr.rep 7 (⟨false, (0 : Int), (0 : Int)⟩ : S_api_Seat))] ∧ Blk w' G20 61 [Kd.seg (kA 7 k_api_Seat) s27.2.Seats] ∧ Gr w w') l29 ?_ ?_
        · skip
          exact ⟨o10, e2, e5, e6, rfl, rfl, b2, b21, fB⟩
        · rintro s27 x34 ρ32 w33 ⟨o10, e2, e5, e6, e8, e30, b2, b21, fB⟩ h
          unfold page_GetLeaf.s0 at h
          refine cw_seq ?_
          refine cw_region ?_
          refine ol_val (v := .bool (decide (s27.1 < 7))) (by exact xr_lss rfl e30 rfl) rfl rfl rfl ?_
          refine ol_nil ?_
          refine cw_seq ?_
          rcases is h with ⟨c35, h⟩ | ⟨c35, h⟩
          · refine cw_condT rfl c35 ?_
            refine cw_skip ?_
            refine cw_seq ?_
            refine cw_block ?_
            refine cw_seq ?_
            refine cw_region ?_
            refine ol_val (v := .int .i64 s27.1) (by exact xr_move rfl e30) rfl rfl rfl ?_
            refine ol_val (v := .int .i64 s27.1) (by exact xr_assign rfl rfl) rfl rfl rfl ?_
            refine ol_nil ?_
            refine cw_seq ?_
            refine cw_region ?_
            refine ol_val (v := u9) (by exact xr_move rfl e6) rfl rfl rfl ?_
            refine ol_val (v := .int .i64 s27.1) (by exact xr_move rfl rfl) rfl rfl rfl ?_
            refine ol_val (v := .int .i64 (IntKind.i64.wrap (8 * s27.1))) (by exact xr_mul rfl rfl rfl) rfl rfl rfl ?_
            refine ol_val (v := .int .i64 s27.1) (by exact xr_move rfl rfl) rfl rfl rfl ?_
            refine ol_val (v := .int .i64 (IntKind.i64.wrap (s27.1 + 1))) (by exact xr_add rfl rfl rfl) rfl rfl rfl ?_
            refine ol_val (v := .int .i64 (IntKind.i64.wrap (8 * (IntKind.i64.wrap (s27.1 + 1))))) (by exact xr_mul rfl rfl rfl) rfl rfl rfl ?_
            obtain ⟨g37, h⟩ := gs h
            refine ol_val (v := subv 1 u9 (Int.toNat (IntKind.i64.wrap (8 * s27.1))) (Int.toNat (IntKind.i64.wrap (8 * (IntKind.i64.wrap (s27.1 + 1)))))) (by exact xr_slice_lh (K := (kI .u8)) (v := u9) rfl Try.underlying22 sz5 rfl o10.rd rfl rfl g37.1 g37.2.1 g37.2.2) rfl rfl rfl ?_
            have r36 : Rd (kI .u8) w33 (subv 1 u9 (Int.toNat (IntKind.i64.wrap (8 * s27.1))) (Int.toNat (IntKind.i64.wrap (8 * (IntKind.i64.wrap (s27.1 + 1)))))) (cut t7.2.2.1 (IntKind.i64.wrap (8 * s27.1)) (IntKind.i64.wrap (8 * (IntKind.i64.wrap (s27.1 + 1))))) := o10.rd.cut (lo := (IntKind.i64.wrap (8 * s27.1))) (hi := (IntKind.i64.wrap (8 * (IntKind.i64.wrap (s27.1 + 1))))) g37.1 g37.2.1 g37.2.2
            refine ol_val (v := subv 1 u9 (Int.toNat (IntKind.i64.wrap (8 * s27.1))) (Int.toNat (IntKind.i64.wrap (8 * (IntKind.i64.wrap (s27.1 + 1)))))) (by exact xr_assign rfl rfl) rfl rfl rfl ?_
            refine ol_nil ?_
            refine cw_seq ?_
            obtain ⟨g38, h⟩ := gs h
            obtain ⟨g40, h⟩ := gs h
            obtain ⟨t42, k43, h⟩ := bs h
            obtain ⟨g46, h⟩ := gs h
            obtain ⟨t48, k49, h⟩ := bs h
            refine cw_drawL 15 [fun vz wz => vz = (.int .i64 t7.2.1 : Value), fun vz wz => vz = (.int .i64 s27.1 : Value), fun vz wz => vz = (.int .i64 (shR .i64 t7.2.1 s27.1) : Value), fun vz wz => vz = (.int .i64 (bAnd .i64 (shR .i64 t7.2.1 s27.1) 1) : Value), fun vz wz => vz = (.bool (decide ((bAnd .i64 (shR .i64 t7.2.1 s27.1) 1) = 1)) : Value), fun vz wz => vz = (subv 1 u9 (Int.toNat (IntKind.i64.wrap (8 * s27.1))) (Int.toNat (IntKind.i64.wrap (8 * (IntKind.i64.wrap (s27.1 + 1))))) : Value), fun vz wz => ∃ u41 : Value, ∃ r39 : Rd (kI .u8) wz u41 (cut (cut t7.2.2.1 (IntKind.i64.wrap (8 * s27.1)) (IntKind.i64.wrap (8 * (IntKind.i64.wrap (s27.1 + 1))))) 0 4), vz = (u41 : Value), fun vz wz => vz = (.int .u64 t42 : Value), fun vz wz => vz = (.int .i64 (IntKind.i64.wrap t42) : Value), fun vz wz => vz = (subv 1 u9 (Int.toNat (IntKind.i64.wrap (8 * s27.1))) (Int.toNat (IntKind.i64.wrap (8 * (IntKind.i64.wrap (s27.1 + 1))))) : Value), fun vz wz => ∃ u47 : Value, ∃ r45 : Rd (kI .u8) wz u47 (cut (cut t7.2.2.1 (IntKind.i64.wrap (8 * s27.1)) (IntKind.i64.wrap (8 * (IntKind.i64.wrap (s27.1 + 1))))) 4 (List.length (cut t7.2.2.1 (IntKind.i64.wrap (8 * s27.1)) (IntKind.i64.wrap (8 * (IntKind.i64.wrap (s27.1 + 1))))) : Int)), vz = (u47 : Value), fun vz wz => vz = (.int .u64 t48 : Value), fun vz wz => vz = (.int .i64 (IntKind.i64.wrap t48) : Value), fun vz wz => vz = (aggV [Seg.cell (.bool (decide ((bAnd .i64 (shR .i64 t7.2.1 s27.1) 1) = 1))), Seg.cell (.int .i64 (IntKind.i64.wrap t42)), Seg.cell (.int .i64 (IntKind.i64.wrap t48))] : Value), fun vz wz => ∃ G51 : Nat, ∃ b52 : Blk wz G51 58 [Seg.cell (.bool false), Seg.cell (.int .i64 (0 : Int)), Seg.cell (.int .i64 (0 : Int))], ∃ z54 : w33.heap.size ≤ G51, vz = (.pointer (some ⟨G51, 0, none⟩) : Value)] mo rfl ⟨fun _ _ _ h _ => h, fun _ _ _ h _ => h, fun _ _ _ h _ => h, fun _ _ _ h _ => h, fun _ _ _ h _ => h, fun _ _ _ h _ => h, fun _ _ _ ⟨u41, r39, h⟩ q => ⟨u41, r39.gr q, h⟩, fun _ _ _ h _ => h, fun _ _ _ h _ => h, fun _ _ _ h _ => h, fun _ _ _ ⟨u47, r45, h⟩ q => ⟨u47, r45.gr q, h⟩, fun _ _ _ h _ => h, fun _ _ _ h _ => h, fun _ _ _ h _ => h, fun _ _ _ ⟨G51, b52, z54, h⟩ q => ⟨G51, b52.gr q, z54, h⟩, trivial⟩ ?_ ?_
            · refine ⟨?_, ?_, ?_, ?_, ?_, ?_, ?_, ?_, ?_, ?_, ?_, ?_, ?_, ?_, ?_, trivial⟩
              · intro ρz wz hz hk hd
                exact sk_val (v := .int .i64 t7.2.1) (by exact xr_move rfl ((hk 5 rfl).trans e5)) rfl rfl
              · intro ρz wz hz hk hd
                exact sk_val (v := .int .i64 s27.1) (by exact xr_move rfl ((hk 9 rfl).trans rfl)) rfl rfl
              · intro ρz wz hz hk hd
                have d40 := hd 0 rfl 40 rfl
                have d41 := hd 1 rfl 41 rfl
                exact sk_val (v := .int .i64 (shR .i64 t7.2.1 s27.1)) (by exact xr_shr rfl d40 d41 g38) rfl rfl
              · intro ρz wz hz hk hd
                have d42 := hd 2 rfl 42 rfl
                exact sk_val (v := .int .i64 (bAnd .i64 (shR .i64 t7.2.1 s27.1) 1)) (by exact xr_and rfl d42 rfl) rfl rfl
              · intro ρz wz hz hk hd
                have d43 := hd 3 rfl 43 rfl
                exact sk_val (v := .bool (decide ((bAnd .i64 (shR .i64 t7.2.1 s27.1) 1) = 1))) (by exact xr_eqI rfl Try.underlying3 rfl d43 rfl) rfl rfl
              · intro ρz wz hz hk hd
                exact sk_val (by exact xr_move rfl ((hk 10 rfl).trans rfl)) rfl rfl
              · intro ρz wz hz hk hd
                have d45 := hd 5 rfl 45 rfl
                exact sk_val (by exact xr_slice_h (K := (kI .u8)) (v := subv 1 u9 (Int.toNat (IntKind.i64.wrap (8 * s27.1))) (Int.toNat (IntKind.i64.wrap (8 * (IntKind.i64.wrap (s27.1 + 1)))))) rfl Try.underlying22 sz5 d45 (r36.gr hz) rfl (by decide) g40) rfl ⟨_, (r36.gr hz).cut (lo := 0) (hi := 4) (by decide) (by decide) g40, rfl⟩
              · intro ρz wz hz hk hd
                obtain ⟨u41, r39, d46⟩ := hd 6 rfl 46 rfl
                refine sk_op (by exact opv_call rfl cal112 (ac d46 an) (octet_Read.ok fu _ (cut (cut t7.2.2.1 (IntKind.i64.wrap (8 * s27.1)) (IntKind.i64.wrap (8 * (IntKind.i64.wrap (s27.1 + 1))))) 0 4) u41 (r39) _ k43)) rfl ?_
                rintro _ wy ⟨rfl, q44⟩
                exact ⟨rfl, q44⟩
              · intro ρz wz hz hk hd
                have d47 := hd 7 rfl 47 rfl
                exact sk_val (v := .int .i64 (IntKind.i64.wrap t42)) (by exact xr_conv rfl Try.underlying129 Try.underlying3 d47) rfl rfl
              · intro ρz wz hz hk hd
                exact sk_val (by exact xr_move rfl ((hk 10 rfl).trans rfl)) rfl rfl
              · intro ρz wz hz hk hd
                have d49 := hd 9 rfl 49 rfl
                exact sk_val (by exact xr_slice_l (K := (kI .u8)) (v := subv 1 u9 (Int.toNat (IntKind.i64.wrap (8 * s27.1))) (Int.toNat (IntKind.i64.wrap (8 * (IntKind.i64.wrap (s27.1 + 1)))))) rfl Try.underlying22 sz5 d49 (r36.gr hz) rfl (by decide) g46) rfl ⟨_, (r36.gr hz).cut (lo := 4) (hi := (List.length (cut t7.2.2.1 (IntKind.i64.wrap (8 * s27.1)) (IntKind.i64.wrap (8 * (IntKind.i64.wrap (s27.1 + 1))))) : Int)) (by decide) g46 (Int.le_refl _), rfl⟩
              · intro ρz wz hz hk hd
                obtain ⟨u47, r45, d50⟩ := hd 10 rfl 50 rfl
                refine sk_op (by exact opv_call rfl cal112 (ac d50 an) (octet_Read.ok fu _ (cut (cut t7.2.2.1 (IntKind.i64.wrap (8 * s27.1)) (IntKind.i64.wrap (8 * (IntKind.i64.wrap (s27.1 + 1))))) 4 (List.length (cut t7.2.2.1 (IntKind.i64.wrap (8 * s27.1)) (IntKind.i64.wrap (8 * (IntKind.i64.wrap (s27.1 + 1))))) : Int)) u47 (r45) _ k49)) rfl ?_
                rintro _ wy ⟨rfl, q50⟩
                exact ⟨rfl, q50⟩
              · intro ρz wz hz hk hd
                have d51 := hd 11 rfl 51 rfl
                exact sk_val (v := .int .i64 (IntKind.i64.wrap t48)) (by exact xr_conv rfl Try.underlying129 Try.underlying3 d51) rfl rfl
              · intro ρz wz hz hk hd
                have d44 := hd 4 rfl 44 rfl
                have d48 := hd 8 rfl 48 rfl
                have d52 := hd 12 rfl 52 rfl
                exact sk_val (by exact xr_build (vals := [(0, .bool (decide ((bAnd .i64 (shR .i64 t7.2.1 s27.1) 1) = 1))), (1, .int .i64 (IntKind.i64.wrap t42)), (2, .int .i64 (IntKind.i64.wrap t48))]) rfl ⟨rfl, d44, ⟨rfl, d48, ⟨rfl, d52, trivial⟩⟩⟩ (bl58_0_1_2 (decide ((bAnd .i64 (shR .i64 t7.2.1 s27.1) 1) = 1)) (IntKind.i64.wrap t42) (IntKind.i64.wrap t48) _)) rfl rfl
              · intro ρz wz hz hk hd
                refine sk_op (by exact opv_alloc (ss := [Seg.cell (.bool false), Seg.cell (.int .i64 (0 : Int)), Seg.cell (.int .i64 (0 : Int))]) rfl ze58 rfl) rfl ?_
                rintro _ wy ⟨G51, rfl, b52, q53, z54⟩
                exact ⟨⟨G51, b52, Nat.le_trans hz.size z54, rfl⟩, q53⟩
            · intro ρ56 w57 q58 hk hd
              have e2 := (hk 2 rfl).trans e2
              have e5 := (hk 5 rfl).trans e5
              have e6 := (hk 6 rfl).trans e6
              have e8 := (hk 8 rfl).trans e8
              have e9 := (hk 9 rfl).trans rfl
              obtain ⟨G59, b60, z61, e11⟩ := hd 14 rfl 11 rfl
              have e30 := (hk 30 rfl).trans e30
              have e53 := hd 13 rfl 53 rfl
              have n62 := Blk.ne b2 z61
              have n63 := Blk.ne b21 z61
              have z61 := Nat.le_trans fB.size z61
              have b2 := b2.gr q58
              have b21 := b21.gr q58
              have o10 := o10.gr q58
              have fB := fB.gr q58
              have f65 := off_ty b60 o10 (by decide)
              refine ol_op0 (by exact opv_store (ss' := [Seg.cell (.bool (decide ((bAnd .i64 (shR .i64 t7.2.1 s27.1) 1) = 1))), Seg.cell (.int .i64 (IntKind.i64.wrap t42)), Seg.cell (.int .i64 (IntKind.i64.wrap t48))]) (xs := cellsOf [Seg.cell (.bool (decide ((bAnd .i64 (shR .i64 t7.2.1 s27.1) 1) = 1))), Seg.cell (.int .i64 (IntKind.i64.wrap t42)), Seg.cell (.int .i64 (IntKind.i64.wrap t48))]) rfl sz58 e11 e53 rfl (len_cellsOf _) (one_cellsOf _) b60 (Spl.segs _ 0 3 [Seg.cell (.bool (decide ((bAnd .i64 (shR .i64 t7.2.1 s27.1) 1) = 1))), Seg.cell (.int .i64 (IntKind.i64.wrap t42)), Seg.cell (.int .i64 (IntKind.i64.wrap t48))] rfl rfl)) rfl rfl ?_
              rintro _ w66 ⟨b60, q64⟩
              have b2 := b2.wr q64 n62
              have b21 := b21.wr q64 n63
              have o10 := o10.wr q64 f65
              have fB := fB.wr q64 z61
              refine ol_nil ?_
              refine cw_seq ?_
              refine cw_seq ?_
              refine cw_region ?_
              refine ol_val (v := aggV [Seg.cell (.bool (decide ((bAnd .i64 (shR .i64 t7.2.1 s27.1) 1) = 1))), Seg.cell (.int .i64 (IntKind.i64.wrap t42)), Seg.cell (.int .i64 (IntKind.i64.wrap t48))]) (by exact xr_loadS (ss := [Seg.cell (.bool (decide ((bAnd .i64 (shR .i64 t7.2.1 s27.1) 1) = 1))), Seg.cell (.int .i64 (IntKind.i64.wrap t42)), Seg.cell (.int .i64 (IntKind.i64.wrap t48))]) rfl ag58 sz58 rfl e11 (b60.segs 0 3 rfl)) rfl rfl rfl ?_
              obtain ⟨t67, k68, h⟩ := bs h
              refine ol_op (by exact opv_call rfl cal47 (ac rfl an) (page_RightSeat.ok fu _ (⟨(decide ((bAnd .i64 (shR .i64 t7.2.1 s27.1) 1) = 1)), (IntKind.i64.wrap t42), (IntKind.i64.wrap t48)⟩ : S_api_Seat) _ k68)) rfl rfl rfl ?_
              rintro _ w70 ⟨rfl, q69⟩
              have b2 := b2.gr q69
              have b21 := b21.gr q69
              have b60 := b60.gr q69
              have o10 := o10.gr q69
              have fB := fB.gr q69
              refine ol_val (v := .bool (!t67)) (by exact xr_not rfl rfl) rfl rfl rfl ?_
              refine ol_nil ?_
              rcases is h with ⟨c71, h⟩ | ⟨c71, h⟩
              · refine cw_condT rfl c71 ?_
                refine cw_seq ?_
                refine cw_region ?_
                refine ol_val (v := aggV [Kd.seg (kA 7 k_api_Seat) (Arr.rep 7 (⟨false, (0 : Int), (0 : Int)⟩ : S_api_Seat))]) (by exact xr_build (vals := []) rfl trivial (bl61_ _)) rfl rfl rfl ?_
                refine ol_op0 (by exact opv_store (ss' := [Kd.seg (kA 7 k_api_Seat) (Arr.rep 7 (⟨false, (0 : Int), (0 : Int)⟩ : S_api_Seat))]) (xs := cellsOf [Kd.seg (kA 7 k_api_Seat) (Arr.rep 7 (⟨false, (0 : Int), (0 : Int)⟩ : S_api_Seat))]) rfl sz61 e2 rfl rfl (len_cellsOf _) (one_cellsOf _) b2 (Spl.segs _ 0 1 [Kd.seg (kA 7 k_api_Seat) (Arr.rep 7 (⟨false, (0 : Int), (0 : Int)⟩ : S_api_Seat))] rfl rfl)) rfl rfl ?_
                rintro _ w73 ⟨b2, q72⟩
                have fB := fB.wr q72 z4
                refine ol_val (v := .bool false) (by exact xr_assign rfl rfl) rfl rfl rfl ?_
                refine ol_nil ?_
                refine cw_ret ?_
                repeat (first | with_reducible refine thn_r ?_ | with_reducible refine blk_r ?_)
                obtain rfl := Option.some.inj h
                refine lp_ret ?_
                rintro rfl
                repeat (first | with_reducible refine thn_r ?_ | with_reducible refine blk_r ?_)
                have h := h30
                obtain rfl := Option.some.inj h
                refine fin_cell_tmp Try.results51 e2 ag61 sz61 b2 (by rfl) rfl ?_
                exact ⟨_, rfl, rfl, fB⟩
              · refine cw_condF rfl c71 ?_
                refine cw_skip ?_
                refine cw_region ?_
                refine ol_val (v := .int .i64 s27.1) (by exact xr_move rfl e9) rfl rfl rfl ?_
                refine ol_val (v := aggV [Seg.cell (.bool (decide ((bAnd .i64 (shR .i64 t7.2.1 s27.1) 1) = 1))), Seg.cell (.int .i64 (IntKind.i64.wrap t42)), Seg.cell (.int .i64 (IntKind.i64.wrap t48))]) (by exact xr_loadS (ss := [Seg.cell (.bool (decide ((bAnd .i64 (shR .i64 t7.2.1 s27.1) 1) = 1))), Seg.cell (.int .i64 (IntKind.i64.wrap t42)), Seg.cell (.int .i64 (IntKind.i64.wrap t48))]) rfl ag58 sz58 rfl e11 (b60.segs 0 3 rfl)) rfl rfl rfl ?_
                refine ol_val (v := .pointer (some ⟨G20, 0, none⟩)) (by exact xr_fieldAddr (p := 0) (q := 0) rfl fl61_0 e8) rfl rfl rfl ?_
                obtain ⟨g74, h⟩ := gs h
                refine ol_val (v := .pointer (some ⟨G20, 0 + Int.toNat s27.1 * 3, none⟩)) (by exact xr_indexA (p := 0) (s := 3) rfl Try.underlying59 sz58 rfl rfl g74.1 g74.2) rfl rfl rfl ?_
                have f76 := off_ty b21 o10 (by decide)
                refine ol_op0 (by exact opv_store (ss' := [Kd.seg (kA 7 k_api_Seat) (Arr.set s27.2.Seats s27.1 (⟨(decide ((bAnd .i64 (shR .i64 t7.2.1 s27.1) 1) = 1)), (IntKind.i64.wrap t42), (IntKind.i64.wrap t48)⟩ : S_api_Seat))]) (xs := cellsOf [Seg.cell (.bool (decide ((bAnd .i64 (shR .i64 t7.2.1 s27.1) 1) = 1))), Seg.cell (.int .i64 (IntKind.i64.wrap t42)), Seg.cell (.int .i64 (IntKind.i64.wrap t48))]) rfl sz58 rfl rfl rfl (len_cellsOf _) (one_cellsOf _) b21 (Spl.seg_in _ 0 (Kd.seg (kA 7 k_api_Seat) (Arr.set s27.2.Seats s27.1 (⟨(decide ((bAnd .i64 (shR .i64 t7.2.1 s27.1) 1) = 1)), (IntKind.i64.wrap t42), (IntKind.i64.wrap t48)⟩ : S_api_Seat))) rfl rfl (Spl.arr s27.2.Seats s27.1 (⟨(decide ((bAnd .i64 (shR .i64 t7.2.1 s27.1) 1) = 1)), (IntKind.i64.wrap t42), (IntKind.i64.wrap t48)⟩ : S_api_Seat) g74.1 g74.2 (Spl.whole ((Kd.len _ _).trans (Kd.len _ _).symm))))) rfl rfl ?_
                rintro _ w77 ⟨b21, q75⟩
                have b2 := b2.wr q75 n26
                have o10 := o10.wr q75 f76
                have fB := fB.wr q75 z23
                refine ol_nil ?_
                refine blk_i ?_
                refine cw_region ?_
                refine ol_val (v := .int .i64 (IntKind.i64.wrap (s27.1 + 1))) (by exact xr_add rfl e30 rfl) rfl rfl rfl ?_
                refine ol_val (v := .int .i64 (IntKind.i64.wrap (s27.1 + 1))) (by exact xr_move rfl rfl) rfl rfl rfl ?_
                refine ol_nil ?_
                obtain rfl := Option.some.inj h
                refine lp_in ?_
                exact ⟨o10, e2, e5, e6, e8, rfl, b2, b21, fB⟩
          · refine cw_condF rfl c35 ?_
            refine cw_exit ?_
            repeat (first | with_reducible refine thn_e ?_ | with_reducible refine blk_e rfl ?_)
            obtain rfl := Option.some.inj h
            refine lp_exit ?_
            rintro rfl
            refine thn_x ?_
            exact ⟨_, rfl, e2, e8, b2, b21, fB⟩
      · rintro ρ78 w79 ⟨x31, rfl, e2, e8, b2, b21, fB⟩
        have h := h30
        refine cw_seq ?_
        refine cw_region ?_
        refine ol_val (v := aggV [Kd.seg (kA 7 k_api_Seat) x31.Seats]) (by exact xr_loadS (ss := [Kd.seg (kA 7 k_api_Seat) x31.Seats]) rfl ag61 sz61 rfl e8 (b21.segs 0 1 rfl)) rfl rfl rfl ?_
        refine ol_op0 (by exact opv_store (ss' := [Kd.seg (kA 7 k_api_Seat) x31.Seats]) (xs := cellsOf [Kd.seg (kA 7 k_api_Seat) x31.Seats]) rfl sz61 e2 rfl rfl (len_cellsOf _) (one_cellsOf _) b2 (Spl.segs _ 0 1 [Kd.seg (kA 7 k_api_Seat) x31.Seats] rfl rfl)) rfl rfl ?_
        rintro _ w81 ⟨b2, q80⟩
        have fB := fB.wr q80 z4
        refine ol_val (v := .bool true) (by exact xr_assign rfl rfl) rfl rfl rfl ?_
        refine ol_nil ?_
        refine cw_ret ?_
        repeat (first | with_reducible refine thn_r ?_ | with_reducible refine blk_r ?_)
        obtain rfl := Option.some.inj h
        refine fin_cell_tmp Try.results51 e2 ag61 sz61 b2 (by rfl) rfl ?_
        exact ⟨_, rfl, rfl, fB⟩
end Go.Proofs.Ytjhajfkfhdnciaa

/- rickyard/page.Lives: its model, and that the Go function computes it: written by gen.py. -/
set_option linter.unusedVariables false
namespace Go.Proofs.Ytjhajfkfhdnciaa
open Go Go.Xw
def page_Lives.s0 (fu : Nat) (a0 : S_api_Leaf) : (Int × Int) → Option (Sum Int (Int × Int)) := fun s7 => (if (decide (s7.2 < 7)) = true then (if 0 ≤ s7.2 ∧ s7.2 < 7 then (((if (Arr.get a0.Seats s7.2).Live = true then some ((IntKind.i64.wrap (s7.1 + 1))) else some (s7.1)) : Option Int).bind fun x24 => some (Sum.inr (x24, (IntKind.i64.wrap (s7.2 + 1))))) else none) else some (Sum.inl (s7.1)))
def page_Lives.f (fu : Nat) (a0 : S_api_Leaf) : Option Int := ((loopM (page_Lives.s0 fu a0) fu (0, 0)).bind fun e8 => some (e8))
set_option maxRecDepth 100000 in
set_option maxHeartbeats 400000 in
theorem page_Lives.ok (fu : Nat) (w : World) (a0 : S_api_Leaf) (r : Int) (h : page_Lives.f fu a0 = some r) :
    Calls Try.prog 52 (([aggV [Kd.seg (kA 7 k_api_Seat) a0.Seats]] : List Value).toArray) w (fun e w' => ∃ v, e = .returned v ∧ v = .int .i64 r ∧ Gr w w') := by
  unfold page_Lives.f at h
  have fB : Gr w w := Fr.refl _ _
  refine calls_cw Try.func52 rfl Try.ntmps52 rfl ?_
  refine cw_seq ?_
  refine cw_region ?_
  refine ol_op (by exact opv_box (ss := [Kd.seg (kA 7 k_api_Seat) a0.Seats]) rfl rfl rfl) rfl rfl rfl ?_
  rintro _ w6 ⟨G1, rfl, b2, q3, z4⟩
  have z4 := Nat.le_trans fB.size z4
  have fB := fB.gr q3
  refine ol_val (v := .int .i64 0) (by exact xr_assign rfl rfl) rfl rfl rfl ?_
  refine ol_nil ?_
  refine cw_seq ?_
  refine cw_region ?_
  refine ol_val (v := .int .i64 0) (by exact xr_assign rfl rfl) rfl rfl rfl ?_
  refine ol_nil ?_
  refine cw_seq ?_
  refine cw_seq ?_
  refine cw_region ?_
  refine ol_val (v := .pointer (some ⟨G1, 0, none⟩)) (by exact xr_fieldAddr (p := 0) (q := 0) rfl fl61_0 rfl) rfl rfl rfl ?_
  refine ol_val (v := aggV [Kd.seg (kA 7 k_api_Seat) a0.Seats]) (by exact xr_loadS (ss := [Kd.seg (kA 7 k_api_Seat) a0.Seats]) rfl ag59 sz59 rfl rfl (b2.segs 0 1 rfl)) rfl rfl rfl ?_
  refine ol_val (v := .int .i64 0) (by exact xr_move rfl rfl) rfl rfl rfl ?_
  refine ol_nil ?_
  obtain ⟨e8, l9, h10⟩ := bs h
  refine cw_mid (fun ρ' w' => ρ' 3 = .int .i64 e8 ∧ Gr w w') ?_ ?_
  · refine cw_block ?_
    refine cw_round (fun (s7 : Int × Int) ρ' w' => ρ' 3 = .int .i64 s7.1 ∧ ρ' 7 = aggV [Kd.seg (kA 7 k_api_Seat) a0.Seats] ∧ ρ' 8 = .int .i64 s7.2 ∧ Gr w w') l9 ?_ ?_
    · skip
      exact ⟨rfl, rfl, rfl, fB⟩
    · rintro s7 x13 ρ11 w12 ⟨e3, e7, e8, fB⟩ h
      unfold page_Lives.s0 at h
      refine cw_seq ?_
      refine cw_region ?_
      refine ol_val (v := .bool (decide (s7.2 < 7))) (by exact xr_lss rfl e8 rfl) rfl rfl rfl ?_
      refine ol_nil ?_
      refine cw_seq ?_
      rcases is h with ⟨c14, h⟩ | ⟨c14, h⟩
      · refine cw_condT rfl c14 ?_
        refine cw_skip ?_
        refine cw_seq ?_
        refine cw_block ?_
        refine cw_seq ?_
        refine cw_region ?_
        obtain ⟨g15, h⟩ := gs h
        refine ol_val (v := aggV [Seg.cell (.bool ((Arr.get a0.Seats s7.2).Live)), Seg.cell (.int .i64 ((Arr.get a0.Seats s7.2).Gen)), Seg.cell (.int .i64 ((Arr.get a0.Seats s7.2).Next))]) (by exact xr_indexArrS (K := k_api_Seat) (a := a0.Seats) (ss := [Seg.cell (.bool ((Arr.get a0.Seats s7.2).Live)), Seg.cell (.int .i64 ((Arr.get a0.Seats s7.2).Gen)), Seg.cell (.int .i64 ((Arr.get a0.Seats s7.2).Next))]) rfl Try.underlying59 ag58 sz58 e7 e8 rfl g15.1 g15.2 rfl) rfl rfl rfl ?_
        refine ol_op (by exact opv_alloc (ss := [Seg.cell (.bool false), Seg.cell (.int .i64 (0 : Int)), Seg.cell (.int .i64 (0 : Int))]) rfl ze58 rfl) rfl rfl rfl ?_
        rintro _ w21 ⟨G16, rfl, b17, q18, z19⟩
        have z19 := Nat.le_trans fB.size z19
        have fB := fB.gr q18
        refine ol_op0 (by exact opv_store (ss' := [Seg.cell (.bool ((Arr.get a0.Seats s7.2).Live)), Seg.cell (.int .i64 ((Arr.get a0.Seats s7.2).Gen)), Seg.cell (.int .i64 ((Arr.get a0.Seats s7.2).Next))]) (xs := cellsOf [Seg.cell (.bool ((Arr.get a0.Seats s7.2).Live)), Seg.cell (.int .i64 ((Arr.get a0.Seats s7.2).Gen)), Seg.cell (.int .i64 ((Arr.get a0.Seats s7.2).Next))]) rfl sz58 rfl rfl rfl (len_cellsOf _) (one_cellsOf _) b17 (Spl.segs _ 0 3 [Seg.cell (.bool ((Arr.get a0.Seats s7.2).Live)), Seg.cell (.int .i64 ((Arr.get a0.Seats s7.2).Gen)), Seg.cell (.int .i64 ((Arr.get a0.Seats s7.2).Next))] rfl rfl)) rfl rfl ?_
        rintro _ w23 ⟨b17, q22⟩
        have fB := fB.wr q22 z19
        refine ol_nil ?_
        refine cw_seq ?_
        refine cw_region ?_
        refine ol_val (v := .pointer (some ⟨G16, 0, none⟩)) (by exact xr_fieldAddr (p := 0) (q := 0) rfl fl58_0 rfl) rfl rfl rfl ?_
        refine ol_val (v := .bool ((Arr.get a0.Seats s7.2).Live)) (by exact xr_load1 (v := .bool ((Arr.get a0.Seats s7.2).Live)) rfl ag4 rfl (b17.seg 0 rfl rfl)) rfl rfl rfl ?_
        refine ol_nil ?_
        obtain ⟨x24, j25, h26⟩ := bs h
        refine cw_mid (fun ρ' w' => ρ' 3 = .int .i64 x24 ∧ ρ' 7 = aggV [Kd.seg (kA 7 k_api_Seat) a0.Seats] ∧ ρ' 8 = .int .i64 s7.2 ∧ Gr w w') ?_ ?_
        · have h := j25
          rcases is h with ⟨c27, h⟩ | ⟨c27, h⟩
          · refine cw_condT rfl c27 ?_
            refine cw_region ?_
            refine ol_val (v := .int .i64 s7.1) (by exact xr_move rfl e3) rfl rfl rfl ?_
            refine ol_val (v := .int .i64 (IntKind.i64.wrap (s7.1 + 1))) (by exact xr_add rfl rfl rfl) rfl rfl rfl ?_
            refine ol_val (v := .int .i64 (IntKind.i64.wrap (s7.1 + 1))) (by exact xr_assign rfl rfl) rfl rfl rfl ?_
            refine ol_nil ?_
            obtain rfl := Option.some.inj h
            refine thn_i ?_
            exact ⟨rfl, e7, e8, fB⟩
          · refine cw_condF rfl c27 ?_
            refine cw_skip ?_
            obtain rfl := Option.some.inj h
            refine thn_i ?_
            exact ⟨e3, e7, e8, fB⟩
        · rintro ρ28 w29 ⟨e3, e7, e8, fB⟩
          have h := h26
          refine blk_i ?_
          refine cw_region ?_
          refine ol_val (v := .int .i64 (IntKind.i64.wrap (s7.2 + 1))) (by exact xr_add rfl e8 rfl) rfl rfl rfl ?_
          refine ol_val (v := .int .i64 (IntKind.i64.wrap (s7.2 + 1))) (by exact xr_move rfl rfl) rfl rfl rfl ?_
          refine ol_nil ?_
          obtain rfl := Option.some.inj h
          refine lp_in ?_
          exact ⟨e3, e7, rfl, fB⟩
      · refine cw_condF rfl c14 ?_
        refine cw_exit ?_
        repeat (first | with_reducible refine thn_e ?_ | with_reducible refine blk_e rfl ?_)
        obtain rfl := Option.some.inj h
        refine lp_exit ?_
        rintro rfl
        refine thn_x ?_
        exact ⟨e3, fB⟩
  · rintro ρ30 w31 ⟨e3, fB⟩
    have h := h10
    refine cw_seq ?_
    refine cw_region ?_
    refine ol_val (v := .int .i64 e8) (by exact xr_move rfl e3) rfl rfl rfl ?_
    refine ol_val (v := .int .i64 e8) (by exact xr_assign rfl rfl) rfl rfl rfl ?_
    refine ol_nil ?_
    refine cw_ret ?_
    repeat (first | with_reducible refine thn_r ?_ | with_reducible refine blk_r ?_)
    obtain rfl := Option.some.inj h
    refine fin_ret1 Try.results52 rfl ?_
    exact ⟨_, rfl, rfl, fB⟩
end Go.Proofs.Ytjhajfkfhdnciaa

/- rickyard/page.rightFan: its model, and that the Go function computes it: written by gen.py. -/
set_option linter.unusedVariables false
namespace Go.Proofs.Ytjhajfkfhdnciaa
open Go Go.Xw
def page_rightFan.s0 (fu : Nat) (a0 : S_api_Fan) : Int → Option (Sum (Sum Bool Unit) Int) := fun s7 => (if (decide (s7 < 16)) = true then (if 0 ≤ s7 ∧ s7 < 16 then (((if (!decide ((Arr.get a0.Kids s7) = 0)) = true then ((page_within.f fu (Arr.get a0.Kids s7) 2 3071 : Option Bool).bind fun t20 => some ((!t20))) else some (false)) : Option Bool).bind fun x17 => (if x17 = true then some (Sum.inl (Sum.inl (false))) else some (Sum.inr ((IntKind.i64.wrap (s7 + 1)))))) else none) else some (Sum.inl (Sum.inr ())))
def page_rightFan.f (fu : Nat) (a0 : S_api_Fan) : Option Bool := ((loopM (page_rightFan.s0 fu a0) fu (0)).bind fun e8 => match e8 with | Sum.inl p => some p | Sum.inr x11 => some (true))
set_option maxRecDepth 100000 in
set_option maxHeartbeats 400000 in
theorem page_rightFan.ok (fu : Nat) (w : World) (a0 : S_api_Fan) (r : Bool) (h : page_rightFan.f fu a0 = some r) :
    Calls Try.prog 113 (([aggV [Kd.seg (kA 16 (kI .i64)) a0.Kids]] : List Value).toArray) w (fun e w' => ∃ v, e = .returned v ∧ v = .bool r ∧ Gr w w') := by
  unfold page_rightFan.f at h
  have fB : Gr w w := Fr.refl _ _
  refine calls_cw Try.func113 rfl Try.ntmps113 rfl ?_
  refine cw_seq ?_
  refine cw_region ?_
  refine ol_op (by exact opv_box (ss := [Kd.seg (kA 16 (kI .i64)) a0.Kids]) rfl rfl rfl) rfl rfl rfl ?_
  rintro _ w6 ⟨G1, rfl, b2, q3, z4⟩
  have z4 := Nat.le_trans fB.size z4
  have fB := fB.gr q3
  refine ol_val (v := .bool false) (by exact xr_assign rfl rfl) rfl rfl rfl ?_
  refine ol_nil ?_
  refine cw_seq ?_
  refine cw_seq ?_
  refine cw_region ?_
  refine ol_val (v := .pointer (some ⟨G1, 0, none⟩)) (by exact xr_fieldAddr (p := 0) (q := 0) rfl fl73_0 rfl) rfl rfl rfl ?_
  refine ol_val (v := aggV [Kd.seg (kA 16 (kI .i64)) a0.Kids]) (by exact xr_loadS (ss := [Kd.seg (kA 16 (kI .i64)) a0.Kids]) rfl ag71 sz71 rfl rfl (b2.segs 0 1 rfl)) rfl rfl rfl ?_
  refine ol_val (v := .int .i64 0) (by exact xr_move rfl rfl) rfl rfl rfl ?_
  refine ol_nil ?_
  obtain ⟨e8, l9, h10⟩ := bs h
  refine cw_mid (fun ρ' w' => ∃ x11, e8 = Sum.inr x11 ∧ Gr w w') ?_ ?_
  · refine cw_block ?_
    refine cw_round (fun (s7 : Int) ρ' w' => ρ' 6 = aggV [Kd.seg (kA 16 (kI .i64)) a0.Kids] ∧ ρ' 7 = .int .i64 s7 ∧ Gr w w') l9 ?_ ?_
    · skip
      exact ⟨rfl, rfl, fB⟩
    · rintro s7 x14 ρ12 w13 ⟨e6, e7, fB⟩ h
      unfold page_rightFan.s0 at h
      refine cw_seq ?_
      refine cw_region ?_
      refine ol_val (v := .bool (decide (s7 < 16))) (by exact xr_lss rfl e7 rfl) rfl rfl rfl ?_
      refine ol_nil ?_
      refine cw_seq ?_
      rcases is h with ⟨c15, h⟩ | ⟨c15, h⟩
      · refine cw_condT rfl c15 ?_
        refine cw_skip ?_
        refine cw_seq ?_
        refine cw_block ?_
        refine cw_seq ?_
        refine cw_region ?_
        obtain ⟨g16, h⟩ := gs h
        refine ol_val (v := .int .i64 (Arr.get a0.Kids s7)) (by exact xr_indexArr1 (K := (kI .i64)) (a := a0.Kids) (v := .int .i64 (Arr.get a0.Kids s7)) rfl Try.underlying71 ag3 sz3 e6 e7 rfl g16.1 g16.2 rfl) rfl rfl rfl ?_
        refine ol_val (v := .int .i64 (Arr.get a0.Kids s7)) (by exact xr_assign rfl rfl) rfl rfl rfl ?_
        refine ol_nil ?_
        refine cw_seq ?_
        obtain ⟨x17, j18, h⟩ := bs h
        refine cw_mid (fun ρ' w' => ρ' 6 = aggV [Kd.seg (kA 16 (kI .i64)) a0.Kids] ∧ ρ' 7 = .int .i64 s7 ∧ ρ' 16 = .bool x17 ∧ Gr w13 w') ?_ ?_
        · skip
          refine cw_region ?_
          refine ol_val (v := .int .i64 (Arr.get a0.Kids s7)) (by exact xr_move rfl rfl) rfl rfl rfl ?_
          refine ol_val (v := .bool (!decide ((Arr.get a0.Kids s7) = 0))) (by exact xr_neI rfl Try.underlying3 rfl rfl rfl) rfl rfl rfl ?_
          refine ol_val (v := .bool (!decide ((Arr.get a0.Kids s7) = 0))) (by exact xr_move rfl rfl) rfl rfl rfl ?_
          rcases is j18 with ⟨c19, j18⟩ | ⟨c19, j18⟩
          · skip
            refine ol_gval (v := .int .i64 (Arr.get a0.Kids s7)) (by exact xr_move rfl rfl) rfl rfl rfl rfl rfl c19 ?_
            obtain ⟨t20, k21, j18⟩ := bs j18
            refine ol_gop (by exact opv_call rfl cal111 (ac rfl (ac rfl (ac rfl an))) (page_within.ok fu _ (Arr.get a0.Kids s7) 2 3071 _ k21)) rfl rfl rfl rfl rfl c19 ?_
            rintro _ w23 ⟨rfl, q22⟩
            have fB := fB.gr q22
            refine ol_gval (v := .bool (!t20)) (by exact xr_not rfl rfl) rfl rfl rfl rfl rfl c19 ?_
            refine ol_val (v := .bool (!t20)) (by exact xr_pickT rfl rfl c19 rfl) rfl rfl rfl ?_
            refine ol_nil ?_
            obtain rfl := Option.some.inj j18
            refine thn_i ?_
            exact ⟨e6, e7, rfl, q22⟩
          · skip
            refine ol_gskip rfl rfl rfl rfl rfl c19 ?_
            refine ol_gskip rfl rfl rfl rfl rfl c19 ?_
            refine ol_gskip rfl rfl rfl rfl rfl c19 ?_
            refine ol_val (v := .bool false) (by exact xr_pickF rfl rfl c19 rfl) rfl rfl rfl ?_
            refine ol_nil ?_
            obtain rfl := Option.some.inj j18
            refine thn_i ?_
            exact ⟨e6, e7, rfl, Fr.refl _ _⟩
        · skip
          rintro ρ24 w25 ⟨e6, e7, e16, q26⟩
          have fB := fB.gr q26
          rcases is h with ⟨c27, h⟩ | ⟨c27, h⟩
          · refine cw_condT e16 c27 ?_
            refine cw_seq ?_
            refine cw_region ?_
            refine ol_val (v := .bool false) (by exact xr_assign rfl rfl) rfl rfl rfl ?_
            refine ol_nil ?_
            refine cw_ret ?_
            repeat (first | with_reducible refine thn_r ?_ | with_reducible refine blk_r ?_)
            obtain rfl := Option.some.inj h
            refine lp_ret ?_
            rintro rfl
            repeat (first | with_reducible refine thn_r ?_ | with_reducible refine blk_r ?_)
            have h := h10
            obtain rfl := Option.some.inj h
            refine fin_ret1 Try.results113 rfl ?_
            exact ⟨_, rfl, rfl, fB⟩
          · refine cw_condF e16 c27 ?_
            refine cw_skip ?_
            refine blk_i ?_
            refine cw_region ?_
            refine ol_val (v := .int .i64 (IntKind.i64.wrap (s7 + 1))) (by exact xr_add rfl e7 rfl) rfl rfl rfl ?_
            refine ol_val (v := .int .i64 (IntKind.i64.wrap (s7 + 1))) (by exact xr_move rfl rfl) rfl rfl rfl ?_
            refine ol_nil ?_
            obtain rfl := Option.some.inj h
            refine lp_in ?_
            exact ⟨e6, rfl, fB⟩
      · refine cw_condF rfl c15 ?_
        refine cw_exit ?_
        repeat (first | with_reducible refine thn_e ?_ | with_reducible refine blk_e rfl ?_)
        obtain rfl := Option.some.inj h
        refine lp_exit ?_
        rintro rfl
        refine thn_x ?_
        exact ⟨_, rfl, fB⟩
  · rintro ρ28 w29 ⟨x11, rfl, fB⟩
    have h := h10
    refine cw_seq ?_
    refine cw_region ?_
    refine ol_val (v := .bool true) (by exact xr_assign rfl rfl) rfl rfl rfl ?_
    refine ol_nil ?_
    refine cw_ret ?_
    repeat (first | with_reducible refine thn_r ?_ | with_reducible refine blk_r ?_)
    obtain rfl := Option.some.inj h
    refine fin_ret1 Try.results113 rfl ?_
    exact ⟨_, rfl, rfl, fB⟩
end Go.Proofs.Ytjhajfkfhdnciaa

/- rickyard/page.PutFan: its model, and that the Go function computes it: written by gen.py. -/
set_option linter.unusedVariables false
namespace Go.Proofs.Ytjhajfkfhdnciaa
open Go Go.Xw
def page_PutFan.s0 (fu : Nat) (a0 : S_api_Fan) : ((List Int) × Int) → Option (Sum (List Int) ((List Int) × Int)) := fun s15 => (if (decide (s15.2 < 16)) = true then (if 0 ≤ s15.2 ∧ s15.2 < 16 then ((octet_Lay.f fu (IntKind.u64.wrap (Arr.get a0.Kids s15.2)) 2 : Option (List Int)).bind fun t30 => (if List.length s15.1 + List.length t30 ≤ LIM then some (Sum.inr ((s15.1 ++ t30), (IntKind.i64.wrap (s15.2 + 1)))) else none)) else none) else some (Sum.inl (s15.1)))
def page_PutFan.f (fu : Nat) (a0 : S_api_Fan) : Option ((List Int) × Bool) := ((page_rightFan.f fu a0 : Option Bool).bind fun t10 => (if (!t10) = true then some ([], false) else ((loopM (page_PutFan.s0 fu a0) fu ([], 0)).bind fun e16 => ((block_Seal.f fu 3 0 e16 : Option ((List Int) × Bool)).bind fun t48 => some (t48.1, t48.2)))))
set_option maxRecDepth 100000 in
set_option maxHeartbeats 400000 in
theorem page_PutFan.ok (fu : Nat) (w : World) (a0 : S_api_Fan) (r : (List Int) × Bool) (h : page_PutFan.f fu a0 = some r) :
    Calls Try.prog 53 (([aggV [Kd.seg (kA 16 (kI .i64)) a0.Kids]] : List Value).toArray) w (fun e w' => ∃ v, e = .returned v ∧ ∃ u1 : Value, ∃ o2 : Own (kI .u8) 5 w' w.heap.size u1 r.1, v = .tuple #[u1, .bool r.2] ∧ Gr w w') := by
  unfold page_PutFan.f at h
  have fB : Gr w w := Fr.refl _ _
  refine calls_cw Try.func53 rfl Try.ntmps53 rfl ?_
  refine cw_seq ?_
  refine cw_region ?_
  refine ol_op (by exact opv_box (ss := [Kd.seg (kA 16 (kI .i64)) a0.Kids]) rfl rfl rfl) rfl rfl rfl ?_
  rintro _ w9 ⟨G4, rfl, b5, q6, z7⟩
  have z7 := Nat.le_trans fB.size z7
  have fB := fB.gr q6
  refine ol_val (v := .slice none 0 0) (by exact xr_assign rfl rfl) rfl rfl rfl ?_
  refine ol_val (v := .bool false) (by exact xr_assign rfl rfl) rfl rfl rfl ?_
  refine ol_nil ?_
  refine cw_seq ?_
  refine cw_seq ?_
  refine cw_region ?_
  refine ol_val (v := aggV [Kd.seg (kA 16 (kI .i64)) a0.Kids]) (by exact xr_loadS (ss := [Kd.seg (kA 16 (kI .i64)) a0.Kids]) rfl ag73 sz73 rfl rfl (b5.segs 0 1 rfl)) rfl rfl rfl ?_
  obtain ⟨t10, k11, h⟩ := bs h
  refine ol_op (by exact opv_call rfl cal113 (ac rfl an) (page_rightFan.ok fu _ a0 _ k11)) rfl rfl rfl ?_
  rintro _ w13 ⟨rfl, q12⟩
  have b5 := b5.gr q12
  have fB := fB.gr q12
  refine ol_val (v := .bool (!t10)) (by exact xr_not rfl rfl) rfl rfl rfl ?_
  refine ol_nil ?_
  rcases is h with ⟨c14, h⟩ | ⟨c14, h⟩
  · refine cw_condT rfl c14 ?_
    refine cw_seq ?_
    refine cw_region ?_
    refine ol_val (v := .slice none 0 0) (by exact xr_assign rfl rfl) rfl rfl rfl ?_
    refine ol_val (v := .bool false) (by exact xr_assign rfl rfl) rfl rfl rfl ?_
    refine ol_nil ?_
    refine cw_ret ?_
    repeat (first | with_reducible refine thn_r ?_ | with_reducible refine blk_r ?_)
    obtain rfl := Option.some.inj h
    refine fin_ret2 Try.results53 rfl rfl ?_
    exact ⟨_, rfl, (.slice none 0 0), Own.nil _ _ _ _, rfl, fB⟩
  · refine cw_condF rfl c14 ?_
    refine cw_skip ?_
    refine cw_seq ?_
    refine cw_region ?_
    refine ol_val (v := .slice none 0 0) (by exact xr_assign rfl rfl) rfl rfl rfl ?_
    refine ol_nil ?_
    refine cw_seq ?_
    refine cw_seq ?_
    refine cw_region ?_
    refine ol_val (v := .pointer (some ⟨G4, 0, none⟩)) (by exact xr_fieldAddr (p := 0) (q := 0) rfl fl73_0 rfl) rfl rfl rfl ?_
    refine ol_val (v := aggV [Kd.seg (kA 16 (kI .i64)) a0.Kids]) (by exact xr_loadS (ss := [Kd.seg (kA 16 (kI .i64)) a0.Kids]) rfl ag71 sz71 rfl rfl (b5.segs 0 1 rfl)) rfl rfl rfl ?_
    refine ol_val (v := .int .i64 0) (by exact xr_move rfl rfl) rfl rfl rfl ?_
    refine ol_nil ?_
    obtain ⟨e16, l17, h18⟩ := bs h
    refine cw_mid (fun ρ' w' => ∃ v19 : Value, ∃ o20 : Own (kI .u8) 5 w' w.heap.size v19 e16, ρ' 4 = v19 ∧ Gr w w') ?_ ?_
    · refine cw_block ?_
      refine cw_round (fun (s15 : (List Int) × Int) ρ' w' => ∃ v22 : Value, ∃ o23 : Own (kI .u8) 5 w' w.heap.size v22 s15.1, ρ' 4 = v22 ∧ ρ' 11 = aggV [Kd.seg (kA 16 (kI .i64)) a0.Kids] ∧ ρ' 12 = .int .i64 s15.2 ∧ Gr w w') l17 ?_ ?_
      · skip
        exact ⟨(.slice none 0 0), Own.nil _ _ _ _, rfl, rfl, rfl, fB⟩
      · rintro s15 x27 ρ25 w26 ⟨v22, o23, e4, e11, e12, fB⟩ h
        unfold page_PutFan.s0 at h
        refine cw_seq ?_
        refine cw_region ?_
        refine ol_val (v := .bool (decide (s15.2 < 16))) (by exact xr_lss rfl e12 rfl) rfl rfl rfl ?_
        refine ol_nil ?_
        refine cw_seq ?_
        rcases is h with ⟨c28, h⟩ | ⟨c28, h⟩
        · refine cw_condT rfl c28 ?_
          refine cw_skip ?_
          refine cw_seq ?_
          refine cw_block ?_
          refine cw_seq ?_
          refine cw_region ?_
          obtain ⟨g29, h⟩ := gs h
          refine ol_val (v := .int .i64 (Arr.get a0.Kids s15.2)) (by exact xr_indexArr1 (K := (kI .i64)) (a := a0.Kids) (v := .int .i64 (Arr.get a0.Kids s15.2)) rfl Try.underlying71 ag3 sz3 e11 e12 rfl g29.1 g29.2 rfl) rfl rfl rfl ?_
          refine ol_val (v := .int .i64 (Arr.get a0.Kids s15.2)) (by exact xr_assign rfl rfl) rfl rfl rfl ?_
          refine ol_nil ?_
          refine cw_region ?_
          refine ol_val (v := v22) (by exact xr_move rfl e4) rfl rfl rfl ?_
          refine ol_val (v := .int .i64 (Arr.get a0.Kids s15.2)) (by exact xr_move rfl rfl) rfl rfl rfl ?_
          refine ol_val (v := .int .u64 (IntKind.u64.wrap (Arr.get a0.Kids s15.2))) (by exact xr_conv rfl Try.underlying3 Try.underlying129 rfl) rfl rfl rfl ?_
          obtain ⟨t30, k31, h⟩ := bs h
          refine ol_op (by exact opv_call rfl cal95 (ac rfl (ac rfl an)) (octet_Lay.ok fu _ (IntKind.u64.wrap (Arr.get a0.Kids s15.2)) 2 _ k31)) rfl rfl rfl ?_
          rintro u32 w36 ⟨_, o33, rfl, q35⟩
          have a37 := OffV.call o23 o33
          have o33 := Own.base o33 fB.size
          have o23 := o23.gr q35
          have fB := fB.gr q35
          obtain ⟨g42, h⟩ := gs h
          have f44 := o23.geO
          refine ol_op (by exact opv_append (K := (kI .u8)) rfl Try.underlying22 el5 rfl rfl rfl rfl rfl o23 o33.rd g42 fB.size) rfl rfl rfl ?_
          rintro v38 w45 ⟨o39, q40, n41⟩
          have fB := fB.wrO q40 f44
          refine ol_val (v := v38) (by exact xr_assign rfl rfl) rfl rfl rfl ?_
          refine ol_nil ?_
          refine blk_i ?_
          refine cw_region ?_
          refine ol_val (v := .int .i64 (IntKind.i64.wrap (s15.2 + 1))) (by exact xr_add rfl e12 rfl) rfl rfl rfl ?_
          refine ol_val (v := .int .i64 (IntKind.i64.wrap (s15.2 + 1))) (by exact xr_move rfl rfl) rfl rfl rfl ?_
          refine ol_nil ?_
          obtain rfl := Option.some.inj h
          refine lp_in ?_
          exact ⟨v38, o39, rfl, e11, rfl, fB⟩
        · refine cw_condF rfl c28 ?_
          refine cw_exit ?_
          repeat (first | with_reducible refine thn_e ?_ | with_reducible refine blk_e rfl ?_)
          obtain rfl := Option.some.inj h
          refine lp_exit ?_
          rintro rfl
          refine thn_x ?_
          exact ⟨v22, o23, e4, fB⟩
    · rintro ρ46 w47 ⟨v19, o20, e4, fB⟩
      have h := h18
      refine cw_seq ?_
      refine cw_region ?_
      refine ol_val (v := v19) (by exact xr_move rfl e4) rfl rfl rfl ?_
      obtain ⟨t48, k49, h⟩ := bs h
      refine ol_op (by exact opv_call rfl cal28 (ac rfl (ac rfl (ac rfl an))) (block_Seal.ok fu _ 3 0 e16 v19 (o20.rd) _ k49)) rfl rfl rfl ?_
      rintro _ w54 ⟨u50, o51, rfl, q53⟩
      have o51 := Own.base o51 fB.size
      have fB := fB.gr q53
      refine ol_val (v := u50) (by exact xr_extract rfl rfl rfl) rfl rfl rfl ?_
      refine ol_val (v := .bool t48.2) (by exact xr_extract rfl rfl rfl) rfl rfl rfl ?_
      refine ol_val (v := u50) (by exact xr_assign rfl rfl) rfl rfl rfl ?_
      refine ol_val (v := .bool t48.2) (by exact xr_assign rfl rfl) rfl rfl rfl ?_
      refine ol_nil ?_
      refine cw_ret ?_
      repeat (first | with_reducible refine thn_r ?_ | with_reducible refine blk_r ?_)
      obtain rfl := Option.some.inj h
      refine fin_ret2 Try.results53 rfl rfl ?_
      exact ⟨_, rfl, u50, o51, rfl, fB⟩
end Go.Proofs.Ytjhajfkfhdnciaa

/- rickyard/page.Empty: its model, and that the Go function computes it: written by gen.py. -/
set_option linter.unusedVariables false
namespace Go.Proofs.Ytjhajfkfhdnciaa
open Go Go.Xw
def page_Empty.f (fu : Nat) (a0 : S_api_Fan) : Option Bool := some ((decide (a0.Kids = (Arr.rep 16 (0 : Int)))))
set_option maxRecDepth 100000 in
set_option maxHeartbeats 400000 in
theorem page_Empty.ok (fu : Nat) (w : World) (a0 : S_api_Fan) (r : Bool) (h : page_Empty.f fu a0 = some r) :
    Calls Try.prog 56 (([aggV [Kd.seg (kA 16 (kI .i64)) a0.Kids]] : List Value).toArray) w (fun e w' => ∃ v, e = .returned v ∧ v = .bool r ∧ Gr w w') := by
  unfold page_Empty.f at h
  have fB : Gr w w := Fr.refl _ _
  refine calls_cw Try.func56 rfl Try.ntmps56 rfl ?_
  refine cw_seq ?_
  refine cw_region ?_
  refine ol_op (by exact opv_box (ss := [Kd.seg (kA 16 (kI .i64)) a0.Kids]) rfl rfl rfl) rfl rfl rfl ?_
  rintro _ w6 ⟨G1, rfl, b2, q3, z4⟩
  have z4 := Nat.le_trans fB.size z4
  have fB := fB.gr q3
  refine ol_val (v := .bool false) (by exact xr_assign rfl rfl) rfl rfl rfl ?_
  refine ol_nil ?_
  refine cw_seq ?_
  refine cw_region ?_
  refine ol_val (v := .pointer (some ⟨G1, 0, none⟩)) (by exact xr_fieldAddr (p := 0) (q := 0) rfl fl73_0 rfl) rfl rfl rfl ?_
  refine ol_val (v := aggV [Kd.seg (kA 16 (kI .i64)) a0.Kids]) (by exact xr_loadS (ss := [Kd.seg (kA 16 (kI .i64)) a0.Kids]) rfl ag71 sz71 rfl rfl (b2.segs 0 1 rfl)) rfl rfl rfl ?_
  refine ol_val (v := aggV [Kd.seg (kA 16 (kI .i64)) (Arr.rep 16 (0 : Int))]) (by exact xr_buildA (vals := []) (res := [Kd.seg (kA 16 (kI .i64)) (Arr.rep 16 (0 : Int))]) rfl trivial Try.underlying71 ze71 sz3 fl_nil) rfl rfl rfl ?_
  refine ol_val (v := .bool (decide (a0.Kids = (Arr.rep 16 (0 : Int))))) (by exact xr_eqA (a := a0.Kids) (b := (Arr.rep 16 (0 : Int))) rfl eqa71 rfl Try.eqGuardType71 rfl rfl (aggV_seg _ _) (aggV_seg _ _)) rfl rfl rfl ?_
  refine ol_val (v := .bool (decide (a0.Kids = (Arr.rep 16 (0 : Int))))) (by exact xr_assign rfl rfl) rfl rfl rfl ?_
  refine ol_nil ?_
  refine cw_ret ?_
  repeat (first | with_reducible refine thn_r ?_ | with_reducible refine blk_r ?_)
  obtain rfl := Option.some.inj h
  refine fin_ret1 Try.results56 rfl ?_
  exact ⟨_, rfl, rfl, fB⟩
end Go.Proofs.Ytjhajfkfhdnciaa

/- rickyard/rickyardlaw09.awake: its model, and that the Go function computes it: written by gen.py. -/
set_option linter.unusedVariables false
namespace Go.Proofs.Ytjhajfkfhdnciaa
open Go Go.Xw
def rickyardlaw09_awake.f (fu : Nat) : Option Bool := ((page_PutLeaf.f fu (⟨(Arr.set (Arr.rep 7 (⟨false, (0 : Int), (0 : Int)⟩ : S_api_Seat)) 2 (⟨true, 1, 5⟩ : S_api_Seat))⟩ : S_api_Leaf) : Option ((List Int) × Bool)).bind fun t9 => ((page_GetLeaf.f fu t9.1 : Option (S_api_Leaf × Bool)).bind fun t16 => ((page_PutFan.f fu (⟨(Arr.rep 16 (0 : Int))⟩ : S_api_Fan) : Option ((List Int) × Bool)).bind fun t30 => (((if t9.2 = true then (if t16.2 = true then (if t30.2 = true then (if (decide ((List.length t9.1 : Int) = 64)) = true then (if (decide ((List.length t30.1 : Int) = 64)) = true then (if (decide (t16.1 = (⟨(Arr.set (Arr.rep 7 (⟨false, (0 : Int), (0 : Int)⟩ : S_api_Seat)) 2 (⟨true, 1, 5⟩ : S_api_Seat))⟩ : S_api_Leaf))) = true then ((page_Lives.f fu (⟨(Arr.set (Arr.rep 7 (⟨false, (0 : Int), (0 : Int)⟩ : S_api_Seat)) 2 (⟨true, 1, 5⟩ : S_api_Seat))⟩ : S_api_Leaf) : Option Int).bind fun t46 => (if (decide (t46 = 1)) = true then ((page_Empty.f fu (⟨(Arr.rep 16 (0 : Int))⟩ : S_api_Fan) : Option Bool).bind fun t51 => some (t51)) else some (false))) else some (false)) else some (false)) else some (false)) else some (false)) else some (false)) else some (false)) : Option Bool).bind fun x38 => some (x38)))))
set_option maxRecDepth 100000 in
set_option maxHeartbeats 400000 in
theorem rickyardlaw09_awake.ok (fu : Nat) (w : World)  (r : Bool) (h : rickyardlaw09_awake.f fu = some r) :
    Calls Try.prog 46 (([] : List Value).toArray) w (fun e w' => ∃ v, e = .returned v ∧ v = .bool r ∧ Gr w w') := by
  unfold rickyardlaw09_awake.f at h
  have fB : Gr w w := Fr.refl _ _
  refine calls_cw Try.func46 rfl Try.ntmps46 rfl ?_
  refine cw_seq ?_
  refine cw_region ?_
  refine ol_val (v := .bool false) (by exact xr_assign rfl rfl) rfl rfl rfl ?_
  refine ol_nil ?_
  refine cw_seq ?_
  refine cw_region ?_
  refine ol_op (by exact opv_alloc (ss := [Kd.seg (kA 7 k_api_Seat) (Arr.rep 7 (⟨false, (0 : Int), (0 : Int)⟩ : S_api_Seat))]) rfl ze61 rfl) rfl rfl rfl ?_
  rintro _ w6 ⟨G1, rfl, b2, q3, z4⟩
  have z4 := Nat.le_trans fB.size z4
  have fB := fB.gr q3
  refine ol_nil ?_
  refine cw_seq ?_
  refine cw_region ?_
  refine ol_val (v := aggV [Seg.cell (.bool true), Seg.cell (.int .i64 1), Seg.cell (.int .i64 5)]) (by exact xr_build (vals := [(0, .bool true), (1, .int .i64 1), (2, .int .i64 5)]) rfl ⟨rfl, rfl, ⟨rfl, rfl, ⟨rfl, rfl, trivial⟩⟩⟩ (bl58_0_1_2 true 1 5 _)) rfl rfl rfl ?_
  refine ol_val (v := .pointer (some ⟨G1, 0, none⟩)) (by exact xr_fieldAddr (p := 0) (q := 0) rfl fl61_0 rfl) rfl rfl rfl ?_
  refine ol_val (v := .pointer (some ⟨G1, 0 + Int.toNat 2 * 3, none⟩)) (by exact xr_indexA (p := 0) (s := 3) rfl Try.underlying59 sz58 rfl rfl (by decide) (by decide)) rfl rfl rfl ?_
  refine ol_op0 (by exact opv_store (ss' := [Kd.seg (kA 7 k_api_Seat) (Arr.set (Arr.rep 7 (⟨false, (0 : Int), (0 : Int)⟩ : S_api_Seat)) 2 (⟨true, 1, 5⟩ : S_api_Seat))]) (xs := cellsOf [Seg.cell (.bool true), Seg.cell (.int .i64 1), Seg.cell (.int .i64 5)]) rfl sz58 rfl rfl rfl (len_cellsOf _) (one_cellsOf _) b2 (Spl.seg_in _ 0 (Kd.seg (kA 7 k_api_Seat) (Arr.set (Arr.rep 7 (⟨false, (0 : Int), (0 : Int)⟩ : S_api_Seat)) 2 (⟨true, 1, 5⟩ : S_api_Seat))) rfl rfl (Spl.arr (Arr.rep 7 (⟨false, (0 : Int), (0 : Int)⟩ : S_api_Seat)) 2 (⟨true, 1, 5⟩ : S_api_Seat) (by decide) (by decide) (Spl.whole ((Kd.len _ _).trans (Kd.len _ _).symm))))) rfl rfl ?_
  rintro _ w8 ⟨b2, q7⟩
  have fB := fB.wr q7 z4
  refine ol_nil ?_
  refine cw_seq ?_
  refine cw_region ?_
  refine ol_val (v := aggV [Kd.seg (kA 7 k_api_Seat) (Arr.set (Arr.rep 7 (⟨false, (0 : Int), (0 : Int)⟩ : S_api_Seat)) 2 (⟨true, 1, 5⟩ : S_api_Seat))]) (by exact xr_loadS (ss := [Kd.seg (kA 7 k_api_Seat) (Arr.set (Arr.rep 7 (⟨false, (0 : Int), (0 : Int)⟩ : S_api_Seat)) 2 (⟨true, 1, 5⟩ : S_api_Seat))]) rfl ag61 sz61 rfl rfl (b2.segs 0 1 rfl)) rfl rfl rfl ?_
  obtain ⟨t9, k10, h⟩ := bs h
  refine ol_op (by exact opv_call rfl cal49 (ac rfl an) (page_PutLeaf.ok fu _ (⟨(Arr.set (Arr.rep 7 (⟨false, (0 : Int), (0 : Int)⟩ : S_api_Seat)) 2 (⟨true, 1, 5⟩ : S_api_Seat))⟩ : S_api_Leaf) _ k10)) rfl rfl rfl ?_
  rintro _ w15 ⟨u11, o12, rfl, q14⟩
  have o12 := Own.base o12 fB.size
  have b2 := b2.gr q14
  have fB := fB.gr q14
  refine ol_val (v := .tuple #[u11, .bool t9.2]) (by exact xr_move rfl rfl) rfl rfl rfl ?_
  refine ol_val (v := u11) (by exact xr_extract rfl rfl rfl) rfl rfl rfl ?_
  refine ol_val (v := .bool t9.2) (by exact xr_extract rfl rfl rfl) rfl rfl rfl ?_
  refine ol_val (v := u11) (by exact xr_assign rfl rfl) rfl rfl rfl ?_
  refine ol_val (v := .bool t9.2) (by exact xr_assign rfl rfl) rfl rfl rfl ?_
  refine ol_nil ?_
  refine cw_seq ?_
  refine cw_region ?_
  refine ol_val (v := u11) (by exact xr_move rfl rfl) rfl rfl rfl ?_
  obtain ⟨t16, k17, h⟩ := bs h
  refine ol_op (by exact opv_call rfl cal51 (ac rfl an) (page_GetLeaf.ok fu _ t9.1 u11 (o12.rd) _ k17)) rfl rfl rfl ?_
  rintro _ w19 ⟨rfl, q18⟩
  have b2 := b2.gr q18
  have o12 := o12.gr q18
  have fB := fB.gr q18
  refine ol_val (v := .tuple #[aggV [Kd.seg (kA 7 k_api_Seat) t16.1.Seats], .bool t16.2]) (by exact xr_move rfl rfl) rfl rfl rfl ?_
  refine ol_val (v := aggV [Kd.seg (kA 7 k_api_Seat) t16.1.Seats]) (by exact xr_extract rfl rfl rfl) rfl rfl rfl ?_
  refine ol_val (v := .bool t16.2) (by exact xr_extract rfl rfl rfl) rfl rfl rfl ?_
  refine ol_op (by exact opv_alloc (ss := [Kd.seg (kA 7 k_api_Seat) (Arr.rep 7 (⟨false, (0 : Int), (0 : Int)⟩ : S_api_Seat))]) rfl ze61 rfl) rfl rfl rfl ?_
  rintro _ w25 ⟨G20, rfl, b21, q22, z23⟩
  have n26 := Blk.ne b2 z23
  have z23 := Nat.le_trans fB.size z23
  have b2 := b2.gr q22
  have o12 := o12.gr q22
  have fB := fB.gr q22
  have f28 := off_ty b21 o12 (by decide)
  refine ol_op0 (by exact opv_store (ss' := [Kd.seg (kA 7 k_api_Seat) t16.1.Seats]) (xs := cellsOf [Kd.seg (kA 7 k_api_Seat) t16.1.Seats]) rfl sz61 rfl rfl rfl (len_cellsOf _) (one_cellsOf _) b21 (Spl.segs _ 0 1 [Kd.seg (kA 7 k_api_Seat) t16.1.Seats] rfl rfl)) rfl rfl ?_
  rintro _ w29 ⟨b21, q27⟩
  have b2 := b2.wr q27 n26
  have o12 := o12.wr q27 f28
  have fB := fB.wr q27 z23
  refine ol_val (v := .bool t16.2) (by exact xr_assign rfl rfl) rfl rfl rfl ?_
  refine ol_nil ?_
  refine cw_seq ?_
  refine cw_region ?_
  refine ol_val (v := aggV [Kd.seg (kA 16 (kI .i64)) (Arr.rep 16 (0 : Int))]) (by exact xr_build (vals := []) rfl trivial (bl73_ _)) rfl rfl rfl ?_
  obtain ⟨t30, k31, h⟩ := bs h
  refine ol_op (by exact opv_call rfl cal53 (ac rfl an) (page_PutFan.ok fu _ (⟨(Arr.rep 16 (0 : Int))⟩ : S_api_Fan) _ k31)) rfl rfl rfl ?_
  rintro _ w36 ⟨u32, o33, rfl, q35⟩
  have a37 := OffV.call o12 o33
  have o33 := Own.base o33 fB.size
  have b2 := b2.gr q35
  have b21 := b21.gr q35
  have o12 := o12.gr q35
  have fB := fB.gr q35
  refine ol_val (v := .tuple #[u32, .bool t30.2]) (by exact xr_move rfl rfl) rfl rfl rfl ?_
  refine ol_val (v := u32) (by exact xr_extract rfl rfl rfl) rfl rfl rfl ?_
  refine ol_val (v := .bool t30.2) (by exact xr_extract rfl rfl rfl) rfl rfl rfl ?_
  refine ol_val (v := u32) (by exact xr_assign rfl rfl) rfl rfl rfl ?_
  refine ol_val (v := .bool t30.2) (by exact xr_assign rfl rfl) rfl rfl rfl ?_
  refine ol_nil ?_
  refine cw_seq ?_
  obtain ⟨x38, j39, h⟩ := bs h
  refine cw_mid (fun ρ' w' => ρ' 0 = .bool x38 ∧ Gr w36 w') ?_ ?_
  · skip
    refine cw_region ?_
    refine ol_val (v := .bool t9.2) (by exact xr_move rfl rfl) rfl rfl rfl ?_
    refine ol_val (v := .bool t9.2) (by exact xr_move rfl rfl) rfl rfl rfl ?_
    rcases is j39 with ⟨c40, j39⟩ | ⟨c40, j39⟩
    · skip
      refine ol_gval (v := .bool t16.2) (by exact xr_move rfl rfl) rfl rfl rfl rfl rfl c40 ?_
      refine ol_val (v := .bool t16.2) (by exact xr_pickT rfl rfl c40 rfl) rfl rfl rfl ?_
      refine ol_val (v := .bool t16.2) (by exact xr_move rfl rfl) rfl rfl rfl ?_
      rcases is j39 with ⟨c41, j39⟩ | ⟨c41, j39⟩
      · skip
        refine ol_gval (v := .bool t30.2) (by exact xr_move rfl rfl) rfl rfl rfl rfl rfl c41 ?_
        refine ol_val (v := .bool t30.2) (by exact xr_pickT rfl rfl c41 rfl) rfl rfl rfl ?_
        refine ol_val (v := .bool t30.2) (by exact xr_move rfl rfl) rfl rfl rfl ?_
        rcases is j39 with ⟨c42, j39⟩ | ⟨c42, j39⟩
        · skip
          refine ol_gval (v := u11) (by exact xr_move rfl rfl) rfl rfl rfl rfl rfl c42 ?_
          refine ol_gval (v := .int .i64 (List.length t9.1 : Int)) (by exact xr_lenR rfl Try.underlying22 rfl o12.rd) rfl rfl rfl rfl rfl c42 ?_
          refine ol_gval (v := .bool (decide ((List.length t9.1 : Int) = 64))) (by exact xr_eqI rfl Try.underlying3 rfl rfl rfl) rfl rfl rfl rfl rfl c42 ?_
          refine ol_val (v := .bool (decide ((List.length t9.1 : Int) = 64))) (by exact xr_pickT rfl rfl c42 rfl) rfl rfl rfl ?_
          refine ol_val (v := .bool (decide ((List.length t9.1 : Int) = 64))) (by exact xr_move rfl rfl) rfl rfl rfl ?_
          rcases is j39 with ⟨c43, j39⟩ | ⟨c43, j39⟩
          · skip
            refine ol_gval (v := u32) (by exact xr_move rfl rfl) rfl rfl rfl rfl rfl c43 ?_
            refine ol_gval (v := .int .i64 (List.length t30.1 : Int)) (by exact xr_lenR rfl Try.underlying22 rfl o33.rd) rfl rfl rfl rfl rfl c43 ?_
            refine ol_gval (v := .bool (decide ((List.length t30.1 : Int) = 64))) (by exact xr_eqI rfl Try.underlying3 rfl rfl rfl) rfl rfl rfl rfl rfl c43 ?_
            refine ol_val (v := .bool (decide ((List.length t30.1 : Int) = 64))) (by exact xr_pickT rfl rfl c43 rfl) rfl rfl rfl ?_
            refine ol_val (v := .bool (decide ((List.length t30.1 : Int) = 64))) (by exact xr_move rfl rfl) rfl rfl rfl ?_
            rcases is j39 with ⟨c44, j39⟩ | ⟨c44, j39⟩
            · skip
              refine ol_gval (v := aggV [Kd.seg (kA 7 k_api_Seat) t16.1.Seats]) (by exact xr_loadS (ss := [Kd.seg (kA 7 k_api_Seat) t16.1.Seats]) rfl ag61 sz61 rfl rfl (b21.segs 0 1 rfl)) rfl rfl rfl rfl rfl c44 ?_
              refine ol_gval (v := aggV [Kd.seg (kA 7 k_api_Seat) (Arr.set (Arr.rep 7 (⟨false, (0 : Int), (0 : Int)⟩ : S_api_Seat)) 2 (⟨true, 1, 5⟩ : S_api_Seat))]) (by exact xr_loadS (ss := [Kd.seg (kA 7 k_api_Seat) (Arr.set (Arr.rep 7 (⟨false, (0 : Int), (0 : Int)⟩ : S_api_Seat)) 2 (⟨true, 1, 5⟩ : S_api_Seat))]) rfl ag61 sz61 rfl rfl (b2.segs 0 1 rfl)) rfl rfl rfl rfl rfl c44 ?_
              refine ol_gval (v := .bool (decide (t16.1 = (⟨(Arr.set (Arr.rep 7 (⟨false, (0 : Int), (0 : Int)⟩ : S_api_Seat)) 2 (⟨true, 1, 5⟩ : S_api_Seat))⟩ : S_api_Leaf)))) (by exact xr_eqA (a := t16.1) (b := (⟨(Arr.set (Arr.rep 7 (⟨false, (0 : Int), (0 : Int)⟩ : S_api_Seat)) 2 (⟨true, 1, 5⟩ : S_api_Seat))⟩ : S_api_Leaf)) rfl eqa61 rfl Try.eqGuardType60 rfl rfl rfl rfl) rfl rfl rfl rfl rfl c44 ?_
              refine ol_val (v := .bool (decide (t16.1 = (⟨(Arr.set (Arr.rep 7 (⟨false, (0 : Int), (0 : Int)⟩ : S_api_Seat)) 2 (⟨true, 1, 5⟩ : S_api_Seat))⟩ : S_api_Leaf)))) (by exact xr_pickT rfl rfl c44 rfl) rfl rfl rfl ?_
              refine ol_val (v := .bool (decide (t16.1 = (⟨(Arr.set (Arr.rep 7 (⟨false, (0 : Int), (0 : Int)⟩ : S_api_Seat)) 2 (⟨true, 1, 5⟩ : S_api_Seat))⟩ : S_api_Leaf)))) (by exact xr_move rfl rfl) rfl rfl rfl ?_
              rcases is j39 with ⟨c45, j39⟩ | ⟨c45, j39⟩
              · skip
                refine ol_gval (v := aggV [Kd.seg (kA 7 k_api_Seat) (Arr.set (Arr.rep 7 (⟨false, (0 : Int), (0 : Int)⟩ : S_api_Seat)) 2 (⟨true, 1, 5⟩ : S_api_Seat))]) (by exact xr_loadS (ss := [Kd.seg (kA 7 k_api_Seat) (Arr.set (Arr.rep 7 (⟨false, (0 : Int), (0 : Int)⟩ : S_api_Seat)) 2 (⟨true, 1, 5⟩ : S_api_Seat))]) rfl ag61 sz61 rfl rfl (b2.segs 0 1 rfl)) rfl rfl rfl rfl rfl c45 ?_
                obtain ⟨t46, k47, j39⟩ := bs j39
                refine ol_gop (by exact opv_call rfl cal52 (ac rfl an) (page_Lives.ok fu _ (⟨(Arr.set (Arr.rep 7 (⟨false, (0 : Int), (0 : Int)⟩ : S_api_Seat)) 2 (⟨true, 1, 5⟩ : S_api_Seat))⟩ : S_api_Leaf) _ k47)) rfl rfl rfl rfl rfl c45 ?_
                rintro _ w49 ⟨rfl, q48⟩
                have fB := fB.gr q48
                refine ol_gval (v := .bool (decide (t46 = 1))) (by exact xr_eqI rfl Try.underlying3 rfl rfl rfl) rfl rfl rfl rfl rfl c45 ?_
                refine ol_val (v := .bool (decide (t46 = 1))) (by exact xr_pickT rfl rfl c45 rfl) rfl rfl rfl ?_
                refine ol_val (v := .bool (decide (t46 = 1))) (by exact xr_move rfl rfl) rfl rfl rfl ?_
                rcases is j39 with ⟨c50, j39⟩ | ⟨c50, j39⟩
                · skip
                  refine ol_gval (v := aggV [Kd.seg (kA 16 (kI .i64)) (Arr.rep 16 (0 : Int))]) (by exact xr_build (vals := []) rfl trivial (bl73_ _)) rfl rfl rfl rfl rfl c50 ?_
                  obtain ⟨t51, k52, j39⟩ := bs j39
                  refine ol_gop (by exact opv_call rfl cal56 (ac rfl an) (page_Empty.ok fu _ (⟨(Arr.rep 16 (0 : Int))⟩ : S_api_Fan) _ k52)) rfl rfl rfl rfl rfl c50 ?_
                  rintro _ w54 ⟨rfl, q53⟩
                  have fB := fB.gr q53
                  refine ol_val (v := .bool t51) (by exact xr_pickT rfl rfl c50 rfl) rfl rfl rfl ?_
                  refine ol_val (v := .bool t51) (by exact xr_assign rfl rfl) rfl rfl rfl ?_
                  refine ol_nil ?_
                  obtain rfl := Option.some.inj j39
                  refine thn_i ?_
                  exact ⟨rfl, (q48.gr q53)⟩
                · skip
                  refine ol_gskip rfl rfl rfl rfl rfl c50 ?_
                  refine ol_gskip rfl rfl rfl rfl rfl c50 ?_
                  refine ol_val (v := .bool false) (by exact xr_pickF rfl rfl c50 rfl) rfl rfl rfl ?_
                  refine ol_val (v := .bool false) (by exact xr_assign rfl rfl) rfl rfl rfl ?_
                  refine ol_nil ?_
                  obtain rfl := Option.some.inj j39
                  refine thn_i ?_
                  exact ⟨rfl, q48⟩
              · skip
                refine ol_gskip rfl rfl rfl rfl rfl c45 ?_
                refine ol_gskip rfl rfl rfl rfl rfl c45 ?_
                refine ol_gskip rfl rfl rfl rfl rfl c45 ?_
                refine ol_val (v := .bool false) (by exact xr_pickF rfl rfl c45 rfl) rfl rfl rfl ?_
                refine ol_val (v := .bool false) (by exact xr_move rfl rfl) rfl rfl rfl ?_
                refine ol_gskip rfl rfl rfl rfl rfl rfl ?_
                refine ol_gskip rfl rfl rfl rfl rfl rfl ?_
                refine ol_val (v := .bool false) (by exact xr_pickF rfl rfl rfl rfl) rfl rfl rfl ?_
                refine ol_val (v := .bool false) (by exact xr_assign rfl rfl) rfl rfl rfl ?_
                refine ol_nil ?_
                obtain rfl := Option.some.inj j39
                refine thn_i ?_
                exact ⟨rfl, Fr.refl _ _⟩
            · skip
              refine ol_gskip rfl rfl rfl rfl rfl c44 ?_
              refine ol_gskip rfl rfl rfl rfl rfl c44 ?_
              refine ol_gskip rfl rfl rfl rfl rfl c44 ?_
              refine ol_val (v := .bool false) (by exact xr_pickF rfl rfl c44 rfl) rfl rfl rfl ?_
              refine ol_val (v := .bool false) (by exact xr_move rfl rfl) rfl rfl rfl ?_
              refine ol_gskip rfl rfl rfl rfl rfl rfl ?_
              refine ol_gskip rfl rfl rfl rfl rfl rfl ?_
              refine ol_gskip rfl rfl rfl rfl rfl rfl ?_
              refine ol_val (v := .bool false) (by exact xr_pickF rfl rfl rfl rfl) rfl rfl rfl ?_
              refine ol_val (v := .bool false) (by exact xr_move rfl rfl) rfl rfl rfl ?_
              refine ol_gskip rfl rfl rfl rfl rfl rfl ?_
              refine ol_gskip rfl rfl rfl rfl rfl rfl ?_
              refine ol_val (v := .bool false) (by exact xr_pickF rfl rfl rfl rfl) rfl rfl rfl ?_
              refine ol_val (v := .bool false) (by exact xr_assign rfl rfl) rfl rfl rfl ?_
              refine ol_nil ?_
              obtain rfl := Option.some.inj j39
              refine thn_i ?_
              exact ⟨rfl, Fr.refl _ _⟩
          · skip
            refine ol_gskip rfl rfl rfl rfl rfl c43 ?_
            refine ol_gskip rfl rfl rfl rfl rfl c43 ?_
            refine ol_gskip rfl rfl rfl rfl rfl c43 ?_
            refine ol_val (v := .bool false) (by exact xr_pickF rfl rfl c43 rfl) rfl rfl rfl ?_
            refine ol_val (v := .bool false) (by exact xr_move rfl rfl) rfl rfl rfl ?_
            refine ol_gskip rfl rfl rfl rfl rfl rfl ?_
            refine ol_gskip rfl rfl rfl rfl rfl rfl ?_
            refine ol_gskip rfl rfl rfl rfl rfl rfl ?_
            refine ol_val (v := .bool false) (by exact xr_pickF rfl rfl rfl rfl) rfl rfl rfl ?_
            refine ol_val (v := .bool false) (by exact xr_move rfl rfl) rfl rfl rfl ?_
            refine ol_gskip rfl rfl rfl rfl rfl rfl ?_
            refine ol_gskip rfl rfl rfl rfl rfl rfl ?_
            refine ol_gskip rfl rfl rfl rfl rfl rfl ?_
            refine ol_val (v := .bool false) (by exact xr_pickF rfl rfl rfl rfl) rfl rfl rfl ?_
            refine ol_val (v := .bool false) (by exact xr_move rfl rfl) rfl rfl rfl ?_
            refine ol_gskip rfl rfl rfl rfl rfl rfl ?_
            refine ol_gskip rfl rfl rfl rfl rfl rfl ?_
            refine ol_val (v := .bool false) (by exact xr_pickF rfl rfl rfl rfl) rfl rfl rfl ?_
            refine ol_val (v := .bool false) (by exact xr_assign rfl rfl) rfl rfl rfl ?_
            refine ol_nil ?_
            obtain rfl := Option.some.inj j39
            refine thn_i ?_
            exact ⟨rfl, Fr.refl _ _⟩
        · skip
          refine ol_gskip rfl rfl rfl rfl rfl c42 ?_
          refine ol_gskip rfl rfl rfl rfl rfl c42 ?_
          refine ol_gskip rfl rfl rfl rfl rfl c42 ?_
          refine ol_val (v := .bool false) (by exact xr_pickF rfl rfl c42 rfl) rfl rfl rfl ?_
          refine ol_val (v := .bool false) (by exact xr_move rfl rfl) rfl rfl rfl ?_
          refine ol_gskip rfl rfl rfl rfl rfl rfl ?_
          refine ol_gskip rfl rfl rfl rfl rfl rfl ?_
          refine ol_gskip rfl rfl rfl rfl rfl rfl ?_
          refine ol_val (v := .bool false) (by exact xr_pickF rfl rfl rfl rfl) rfl rfl rfl ?_
          refine ol_val (v := .bool false) (by exact xr_move rfl rfl) rfl rfl rfl ?_
          refine ol_gskip rfl rfl rfl rfl rfl rfl ?_
          refine ol_gskip rfl rfl rfl rfl rfl rfl ?_
          refine ol_gskip rfl rfl rfl rfl rfl rfl ?_
          refine ol_val (v := .bool false) (by exact xr_pickF rfl rfl rfl rfl) rfl rfl rfl ?_
          refine ol_val (v := .bool false) (by exact xr_move rfl rfl) rfl rfl rfl ?_
          refine ol_gskip rfl rfl rfl rfl rfl rfl ?_
          refine ol_gskip rfl rfl rfl rfl rfl rfl ?_
          refine ol_gskip rfl rfl rfl rfl rfl rfl ?_
          refine ol_val (v := .bool false) (by exact xr_pickF rfl rfl rfl rfl) rfl rfl rfl ?_
          refine ol_val (v := .bool false) (by exact xr_move rfl rfl) rfl rfl rfl ?_
          refine ol_gskip rfl rfl rfl rfl rfl rfl ?_
          refine ol_gskip rfl rfl rfl rfl rfl rfl ?_
          refine ol_val (v := .bool false) (by exact xr_pickF rfl rfl rfl rfl) rfl rfl rfl ?_
          refine ol_val (v := .bool false) (by exact xr_assign rfl rfl) rfl rfl rfl ?_
          refine ol_nil ?_
          obtain rfl := Option.some.inj j39
          refine thn_i ?_
          exact ⟨rfl, Fr.refl _ _⟩
      · skip
        refine ol_gskip rfl rfl rfl rfl rfl c41 ?_
        refine ol_val (v := .bool false) (by exact xr_pickF rfl rfl c41 rfl) rfl rfl rfl ?_
        refine ol_val (v := .bool false) (by exact xr_move rfl rfl) rfl rfl rfl ?_
        refine ol_gskip rfl rfl rfl rfl rfl rfl ?_
        refine ol_gskip rfl rfl rfl rfl rfl rfl ?_
        refine ol_gskip rfl rfl rfl rfl rfl rfl ?_
        refine ol_val (v := .bool false) (by exact xr_pickF rfl rfl rfl rfl) rfl rfl rfl ?_
        refine ol_val (v := .bool false) (by exact xr_move rfl rfl) rfl rfl rfl ?_
        refine ol_gskip rfl rfl rfl rfl rfl rfl ?_
        refine ol_gskip rfl rfl rfl rfl rfl rfl ?_
        refine ol_gskip rfl rfl rfl rfl rfl rfl ?_
        refine ol_val (v := .bool false) (by exact xr_pickF rfl rfl rfl rfl) rfl rfl rfl ?_
        refine ol_val (v := .bool false) (by exact xr_move rfl rfl) rfl rfl rfl ?_
        refine ol_gskip rfl rfl rfl rfl rfl rfl ?_
        refine ol_gskip rfl rfl rfl rfl rfl rfl ?_
        refine ol_gskip rfl rfl rfl rfl rfl rfl ?_
        refine ol_val (v := .bool false) (by exact xr_pickF rfl rfl rfl rfl) rfl rfl rfl ?_
        refine ol_val (v := .bool false) (by exact xr_move rfl rfl) rfl rfl rfl ?_
        refine ol_gskip rfl rfl rfl rfl rfl rfl ?_
        refine ol_gskip rfl rfl rfl rfl rfl rfl ?_
        refine ol_gskip rfl rfl rfl rfl rfl rfl ?_
        refine ol_val (v := .bool false) (by exact xr_pickF rfl rfl rfl rfl) rfl rfl rfl ?_
        refine ol_val (v := .bool false) (by exact xr_move rfl rfl) rfl rfl rfl ?_
        refine ol_gskip rfl rfl rfl rfl rfl rfl ?_
        refine ol_gskip rfl rfl rfl rfl rfl rfl ?_
        refine ol_val (v := .bool false) (by exact xr_pickF rfl rfl rfl rfl) rfl rfl rfl ?_
        refine ol_val (v := .bool false) (by exact xr_assign rfl rfl) rfl rfl rfl ?_
        refine ol_nil ?_
        obtain rfl := Option.some.inj j39
        refine thn_i ?_
        exact ⟨rfl, Fr.refl _ _⟩
    · skip
      refine ol_gskip rfl rfl rfl rfl rfl c40 ?_
      refine ol_val (v := .bool false) (by exact xr_pickF rfl rfl c40 rfl) rfl rfl rfl ?_
      refine ol_val (v := .bool false) (by exact xr_move rfl rfl) rfl rfl rfl ?_
      refine ol_gskip rfl rfl rfl rfl rfl rfl ?_
      refine ol_val (v := .bool false) (by exact xr_pickF rfl rfl rfl rfl) rfl rfl rfl ?_
      refine ol_val (v := .bool false) (by exact xr_move rfl rfl) rfl rfl rfl ?_
      refine ol_gskip rfl rfl rfl rfl rfl rfl ?_
      refine ol_gskip rfl rfl rfl rfl rfl rfl ?_
      refine ol_gskip rfl rfl rfl rfl rfl rfl ?_
      refine ol_val (v := .bool false) (by exact xr_pickF rfl rfl rfl rfl) rfl rfl rfl ?_
      refine ol_val (v := .bool false) (by exact xr_move rfl rfl) rfl rfl rfl ?_
      refine ol_gskip rfl rfl rfl rfl rfl rfl ?_
      refine ol_gskip rfl rfl rfl rfl rfl rfl ?_
      refine ol_gskip rfl rfl rfl rfl rfl rfl ?_
      refine ol_val (v := .bool false) (by exact xr_pickF rfl rfl rfl rfl) rfl rfl rfl ?_
      refine ol_val (v := .bool false) (by exact xr_move rfl rfl) rfl rfl rfl ?_
      refine ol_gskip rfl rfl rfl rfl rfl rfl ?_
      refine ol_gskip rfl rfl rfl rfl rfl rfl ?_
      refine ol_gskip rfl rfl rfl rfl rfl rfl ?_
      refine ol_val (v := .bool false) (by exact xr_pickF rfl rfl rfl rfl) rfl rfl rfl ?_
      refine ol_val (v := .bool false) (by exact xr_move rfl rfl) rfl rfl rfl ?_
      refine ol_gskip rfl rfl rfl rfl rfl rfl ?_
      refine ol_gskip rfl rfl rfl rfl rfl rfl ?_
      refine ol_gskip rfl rfl rfl rfl rfl rfl ?_
      refine ol_val (v := .bool false) (by exact xr_pickF rfl rfl rfl rfl) rfl rfl rfl ?_
      refine ol_val (v := .bool false) (by exact xr_move rfl rfl) rfl rfl rfl ?_
      refine ol_gskip rfl rfl rfl rfl rfl rfl ?_
      refine ol_gskip rfl rfl rfl rfl rfl rfl ?_
      refine ol_val (v := .bool false) (by exact xr_pickF rfl rfl rfl rfl) rfl rfl rfl ?_
      refine ol_val (v := .bool false) (by exact xr_assign rfl rfl) rfl rfl rfl ?_
      refine ol_nil ?_
      obtain rfl := Option.some.inj j39
      refine thn_i ?_
      exact ⟨rfl, Fr.refl _ _⟩
  · skip
    rintro ρ55 w56 ⟨e0, q57⟩
    have fB := fB.gr q57
    refine cw_ret ?_
    repeat (first | with_reducible refine thn_r ?_ | with_reducible refine blk_r ?_)
    obtain rfl := Option.some.inj h
    refine fin_ret1 Try.results46 e0 ?_
    exact ⟨_, rfl, rfl, fB⟩
end Go.Proofs.Ytjhajfkfhdnciaa

/- rickyard/rickyardref08.Block: its model, and that the Go function computes it: written by gen.py. -/
set_option linter.unusedVariables false
namespace Go.Proofs.Ytjhajfkfhdnciaa
open Go Go.Xw
def rickyardref08_Block.f (fu : Nat) (a0 : Int) : Option Bool := some ((if (decide (a0 ≥ 2)) = true then (decide (a0 ≤ 3071)) else false))
set_option maxRecDepth 100000 in
set_option maxHeartbeats 400000 in
theorem rickyardref08_Block.ok (fu : Nat) (w : World) (a0 : Int) (r : Bool) (h : rickyardref08_Block.f fu a0 = some r) :
    Calls Try.prog 107 (([.int .i64 a0] : List Value).toArray) w (fun e w' => ∃ v, e = .returned v ∧ v = .bool r ∧ Gr w w') := by
  unfold rickyardref08_Block.f at h
  have fB : Gr w w := Fr.refl _ _
  refine calls_cw Try.func107 rfl Try.ntmps107 rfl ?_
  refine cw_seq ?_
  refine cw_region ?_
  refine ol_val (v := .bool false) (by exact xr_assign rfl rfl) rfl rfl rfl ?_
  refine ol_nil ?_
  refine cw_seq ?_
  refine cw_mid (fun ρ' w' => ρ' 2 = .bool (if (decide (a0 ≥ 2)) = true then (decide (a0 ≤ 3071)) else false) ∧ w = w') ?_ ?_
  · skip
    refine cw_region ?_
    refine ol_val (v := .int .i64 a0) (by exact xr_move rfl rfl) rfl rfl rfl ?_
    refine ol_val (v := .bool (decide (a0 ≥ 2))) (by exact xr_geq rfl rfl rfl) rfl rfl rfl ?_
    refine ol_val (v := .bool (decide (a0 ≥ 2))) (by exact xr_move rfl rfl) rfl rfl rfl ?_
    rcases bt (decide (a0 ≥ 2)) with c1 | c1
    · skip
      refine ol_gval (v := .int .i64 a0) (by exact xr_move rfl rfl) rfl rfl rfl rfl rfl c1 ?_
      refine ol_gval (v := .bool (decide (a0 ≤ 3071))) (by exact xr_leq rfl rfl rfl) rfl rfl rfl rfl rfl c1 ?_
      refine ol_val (v := .bool (decide (a0 ≤ 3071))) (by exact xr_pickT rfl rfl c1 rfl) rfl rfl rfl ?_
      refine ol_val (v := .bool (decide (a0 ≤ 3071))) (by exact xr_assign rfl rfl) rfl rfl rfl ?_
      refine ol_nil ?_
      refine thn_i ?_
      exact ⟨(rfl).trans (congrArg (fun z => (.bool z : Value)) (show (decide (a0 ≤ 3071)) = (if (decide (a0 ≥ 2)) = true then (decide (a0 ≤ 3071)) else false) from by rw [ite_t c1])), rfl⟩
    · skip
      refine ol_gskip rfl rfl rfl rfl rfl c1 ?_
      refine ol_gskip rfl rfl rfl rfl rfl c1 ?_
      refine ol_val (v := .bool false) (by exact xr_pickF rfl rfl c1 rfl) rfl rfl rfl ?_
      refine ol_val (v := .bool false) (by exact xr_assign rfl rfl) rfl rfl rfl ?_
      refine ol_nil ?_
      refine thn_i ?_
      exact ⟨(rfl).trans (congrArg (fun z => (.bool z : Value)) (show false = (if (decide (a0 ≥ 2)) = true then (decide (a0 ≤ 3071)) else false) from by rw [ite_f c1])), rfl⟩
  · skip
    rintro ρ2 _ ⟨e2, rfl⟩
    refine cw_ret ?_
    repeat (first | with_reducible refine thn_r ?_ | with_reducible refine blk_r ?_)
    obtain rfl := Option.some.inj h
    refine fin_ret1 Try.results107 e2 ?_
    exact ⟨_, rfl, rfl, fB⟩
end Go.Proofs.Ytjhajfkfhdnciaa

/- rickyard/rickyardref09.Seat: its model, and that the Go function computes it: written by gen.py. -/
set_option linter.unusedVariables false
namespace Go.Proofs.Ytjhajfkfhdnciaa
open Go Go.Xw
def rickyardref09_Seat.f (fu : Nat) (a0 : S_api_Seat) : Option Bool := (if (if (decide (a0.Gen < 0)) = true then true else (decide (a0.Gen > 4294967295))) = true then some (false) else (if a0.Live = true then (((if (decide (a0.Gen > 0)) = true then ((rickyardref08_Block.f fu a0.Next : Option Bool).bind fun t14 => some (t14)) else some (false)) : Option Bool).bind fun x11 => some (x11)) else some ((if (decide (a0.Next ≥ 0)) = true then (if (decide (a0.Next ≤ 1792)) = true then (if (!decide (a0.Gen = 0)) = true then true else (decide (a0.Next = 0))) else false) else false))))
set_option maxRecDepth 100000 in
set_option maxHeartbeats 400000 in
theorem rickyardref09_Seat.ok (fu : Nat) (w : World) (a0 : S_api_Seat) (r : Bool) (h : rickyardref09_Seat.f fu a0 = some r) :
    Calls Try.prog 48 (([aggV [Seg.cell (.bool a0.Live), Seg.cell (.int .i64 a0.Gen), Seg.cell (.int .i64 a0.Next)]] : List Value).toArray) w (fun e w' => ∃ v, e = .returned v ∧ v = .bool r ∧ Gr w w') := by
  unfold rickyardref09_Seat.f at h
  have fB : Gr w w := Fr.refl _ _
  refine calls_cw Try.func48 rfl Try.ntmps48 rfl ?_
  refine cw_seq ?_
  refine cw_region ?_
  refine ol_op (by exact opv_box (ss := [Seg.cell (.bool a0.Live), Seg.cell (.int .i64 a0.Gen), Seg.cell (.int .i64 a0.Next)]) rfl rfl rfl) rfl rfl rfl ?_
  rintro _ w6 ⟨G1, rfl, b2, q3, z4⟩
  have z4 := Nat.le_trans fB.size z4
  have fB := fB.gr q3
  refine ol_val (v := .bool false) (by exact xr_assign rfl rfl) rfl rfl rfl ?_
  refine ol_nil ?_
  refine cw_seq ?_
  refine cw_seq ?_
  refine cw_mid (fun ρ' w' => ρ' 1 = .pointer (some ⟨G1, 0, none⟩) ∧ ρ' 10 = .bool (if (decide (a0.Gen < 0)) = true then true else (decide (a0.Gen > 4294967295))) ∧ w6 = w') ?_ ?_
  · skip
    refine cw_region ?_
    refine ol_val (v := .pointer (some ⟨G1, 1, none⟩)) (by exact xr_fieldAddr (p := 0) (q := 1) rfl fl58_1 rfl) rfl rfl rfl ?_
    refine ol_val (v := .int .i64 a0.Gen) (by exact xr_load1 (v := .int .i64 a0.Gen) rfl ag3 rfl (b2.seg 1 rfl rfl)) rfl rfl rfl ?_
    refine ol_val (v := .bool (decide (a0.Gen < 0))) (by exact xr_lss rfl rfl rfl) rfl rfl rfl ?_
    refine ol_val (v := .bool (decide (a0.Gen < 0))) (by exact xr_move rfl rfl) rfl rfl rfl ?_
    rcases bt (decide (a0.Gen < 0)) with c7 | c7
    · skip
      refine ol_gskip rfl rfl rfl rfl rfl c7 ?_
      refine ol_gskip rfl rfl rfl rfl rfl c7 ?_
      refine ol_gskip rfl rfl rfl rfl rfl c7 ?_
      refine ol_val (v := .bool true) (by exact xr_pickT rfl rfl c7 rfl) rfl rfl rfl ?_
      refine ol_nil ?_
      refine thn_i ?_
      exact ⟨rfl, (rfl).trans (congrArg (fun z => (.bool z : Value)) (show true = (if (decide (a0.Gen < 0)) = true then true else (decide (a0.Gen > 4294967295))) from by rw [ite_t c7])), rfl⟩
    · skip
      refine ol_gval (v := .pointer (some ⟨G1, 1, none⟩)) (by exact xr_fieldAddr (p := 0) (q := 1) rfl fl58_1 rfl) rfl rfl rfl rfl rfl c7 ?_
      refine ol_gval (v := .int .i64 a0.Gen) (by exact xr_load1 (v := .int .i64 a0.Gen) rfl ag3 rfl (b2.seg 1 rfl rfl)) rfl rfl rfl rfl rfl c7 ?_
      refine ol_gval (v := .bool (decide (a0.Gen > 4294967295))) (by exact xr_gtr rfl rfl rfl) rfl rfl rfl rfl rfl c7 ?_
      refine ol_val (v := .bool (decide (a0.Gen > 4294967295))) (by exact xr_pickF rfl rfl c7 rfl) rfl rfl rfl ?_
      refine ol_nil ?_
      refine thn_i ?_
      exact ⟨rfl, (rfl).trans (congrArg (fun z => (.bool z : Value)) (show (decide (a0.Gen > 4294967295)) = (if (decide (a0.Gen < 0)) = true then true else (decide (a0.Gen > 4294967295))) from by rw [ite_f c7])), rfl⟩
  · skip
    rintro ρ8 _ ⟨e1, e10, rfl⟩
    rcases is h with ⟨c9, h⟩ | ⟨c9, h⟩
    · refine cw_condT e10 c9 ?_
      refine cw_seq ?_
      refine cw_region ?_
      refine ol_val (v := .bool false) (by exact xr_assign rfl rfl) rfl rfl rfl ?_
      refine ol_nil ?_
      refine cw_ret ?_
      repeat (first | with_reducible refine thn_r ?_ | with_reducible refine blk_r ?_)
      obtain rfl := Option.some.inj h
      refine fin_ret1 Try.results48 rfl ?_
      exact ⟨_, rfl, rfl, fB⟩
    · refine cw_condF e10 c9 ?_
      refine cw_skip ?_
      refine cw_seq ?_
      refine cw_seq ?_
      refine cw_region ?_
      refine ol_val (v := .pointer (some ⟨G1, 0, none⟩)) (by exact xr_fieldAddr (p := 0) (q := 0) rfl fl58_0 e1) rfl rfl rfl ?_
      refine ol_val (v := .bool a0.Live) (by exact xr_load1 (v := .bool a0.Live) rfl ag4 rfl (b2.seg 0 rfl rfl)) rfl rfl rfl ?_
      refine ol_nil ?_
      rcases is h with ⟨c10, h⟩ | ⟨c10, h⟩
      · refine cw_condT rfl c10 ?_
        refine cw_seq ?_
        obtain ⟨x11, j12, h⟩ := bs h
        refine cw_mid (fun ρ' w' => ρ' 2 = .bool x11 ∧ Gr w6 w') ?_ ?_
        · skip
          refine cw_region ?_
          refine ol_val (v := .pointer (some ⟨G1, 1, none⟩)) (by exact xr_fieldAddr (p := 0) (q := 1) rfl fl58_1 e1) rfl rfl rfl ?_
          refine ol_val (v := .int .i64 a0.Gen) (by exact xr_load1 (v := .int .i64 a0.Gen) rfl ag3 rfl (b2.seg 1 rfl rfl)) rfl rfl rfl ?_
          refine ol_val (v := .bool (decide (a0.Gen > 0))) (by exact xr_gtr rfl rfl rfl) rfl rfl rfl ?_
          refine ol_val (v := .bool (decide (a0.Gen > 0))) (by exact xr_move rfl rfl) rfl rfl rfl ?_
          rcases is j12 with ⟨c13, j12⟩ | ⟨c13, j12⟩
          · skip
            refine ol_gval (v := .pointer (some ⟨G1, 2, none⟩)) (by exact xr_fieldAddr (p := 0) (q := 2) rfl fl58_2 e1) rfl rfl rfl rfl rfl c13 ?_
            refine ol_gval (v := .int .i64 a0.Next) (by exact xr_load1 (v := .int .i64 a0.Next) rfl ag3 rfl (b2.seg 2 rfl rfl)) rfl rfl rfl rfl rfl c13 ?_
            obtain ⟨t14, k15, j12⟩ := bs j12
            refine ol_gop (by exact opv_call rfl cal107 (ac rfl an) (rickyardref08_Block.ok fu _ a0.Next _ k15)) rfl rfl rfl rfl rfl c13 ?_
            rintro _ w17 ⟨rfl, q16⟩
            have fB := fB.gr q16
            refine ol_val (v := .bool t14) (by exact xr_pickT rfl rfl c13 rfl) rfl rfl rfl ?_
            refine ol_val (v := .bool t14) (by exact xr_assign rfl rfl) rfl rfl rfl ?_
            refine ol_nil ?_
            obtain rfl := Option.some.inj j12
            refine thn_i ?_
            exact ⟨rfl, q16⟩
          · skip
            refine ol_gskip rfl rfl rfl rfl rfl c13 ?_
            refine ol_gskip rfl rfl rfl rfl rfl c13 ?_
            refine ol_gskip rfl rfl rfl rfl rfl c13 ?_
            refine ol_val (v := .bool false) (by exact xr_pickF rfl rfl c13 rfl) rfl rfl rfl ?_
            refine ol_val (v := .bool false) (by exact xr_assign rfl rfl) rfl rfl rfl ?_
            refine ol_nil ?_
            obtain rfl := Option.some.inj j12
            refine thn_i ?_
            exact ⟨rfl, Fr.refl _ _⟩
        · skip
          rintro ρ18 w19 ⟨e2, q20⟩
          have fB := fB.gr q20
          refine cw_ret ?_
          repeat (first | with_reducible refine thn_r ?_ | with_reducible refine blk_r ?_)
          obtain rfl := Option.some.inj h
          refine fin_ret1 Try.results48 e2 ?_
          exact ⟨_, rfl, rfl, fB⟩
      · refine cw_condF rfl c10 ?_
        refine cw_skip ?_
        refine cw_seq ?_
        refine cw_mid (fun ρ' w' => ρ' 2 = .bool (if (decide (a0.Next ≥ 0)) = true then (if (decide (a0.Next ≤ 1792)) = true then (if (!decide (a0.Gen = 0)) = true then true else (decide (a0.Next = 0))) else false) else false) ∧ w6 = w') ?_ ?_
        · skip
          refine cw_region ?_
          refine ol_val (v := .pointer (some ⟨G1, 2, none⟩)) (by exact xr_fieldAddr (p := 0) (q := 2) rfl fl58_2 e1) rfl rfl rfl ?_
          refine ol_val (v := .int .i64 a0.Next) (by exact xr_load1 (v := .int .i64 a0.Next) rfl ag3 rfl (b2.seg 2 rfl rfl)) rfl rfl rfl ?_
          refine ol_val (v := .bool (decide (a0.Next ≥ 0))) (by exact xr_geq rfl rfl rfl) rfl rfl rfl ?_
          refine ol_val (v := .bool (decide (a0.Next ≥ 0))) (by exact xr_move rfl rfl) rfl rfl rfl ?_
          rcases bt (decide (a0.Next ≥ 0)) with c21 | c21
          · skip
            refine ol_gval (v := .pointer (some ⟨G1, 2, none⟩)) (by exact xr_fieldAddr (p := 0) (q := 2) rfl fl58_2 e1) rfl rfl rfl rfl rfl c21 ?_
            refine ol_gval (v := .int .i64 a0.Next) (by exact xr_load1 (v := .int .i64 a0.Next) rfl ag3 rfl (b2.seg 2 rfl rfl)) rfl rfl rfl rfl rfl c21 ?_
            refine ol_gval (v := .bool (decide (a0.Next ≤ 1792))) (by exact xr_leq rfl rfl rfl) rfl rfl rfl rfl rfl c21 ?_
            refine ol_val (v := .bool (decide (a0.Next ≤ 1792))) (by exact xr_pickT rfl rfl c21 rfl) rfl rfl rfl ?_
            refine ol_val (v := .bool (decide (a0.Next ≤ 1792))) (by exact xr_move rfl rfl) rfl rfl rfl ?_
            rcases bt (decide (a0.Next ≤ 1792)) with c22 | c22
            · skip
              refine ol_gval (v := .pointer (some ⟨G1, 1, none⟩)) (by exact xr_fieldAddr (p := 0) (q := 1) rfl fl58_1 e1) rfl rfl rfl rfl rfl c22 ?_
              refine ol_gval (v := .int .i64 a0.Gen) (by exact xr_load1 (v := .int .i64 a0.Gen) rfl ag3 rfl (b2.seg 1 rfl rfl)) rfl rfl rfl rfl rfl c22 ?_
              refine ol_gval (v := .bool (!decide (a0.Gen = 0))) (by exact xr_neI rfl Try.underlying3 rfl rfl rfl) rfl rfl rfl rfl rfl c22 ?_
              refine ol_gval (v := .bool (!decide (a0.Gen = 0))) (by exact xr_move rfl rfl) rfl rfl rfl rfl rfl c22 ?_
              rcases bt (!decide (a0.Gen = 0)) with c23 | c23
              · skip
                refine ol_gskip rfl rfl rfl rfl rfl c23 ?_
                refine ol_gskip rfl rfl rfl rfl rfl c23 ?_
                refine ol_gskip rfl rfl rfl rfl rfl c23 ?_
                refine ol_gval (v := .bool true) (by exact xr_pickT rfl rfl c23 rfl) rfl rfl rfl rfl rfl c22 ?_
                refine ol_val (v := .bool true) (by exact xr_pickT rfl rfl c22 rfl) rfl rfl rfl ?_
                refine ol_val (v := .bool true) (by exact xr_assign rfl rfl) rfl rfl rfl ?_
                refine ol_nil ?_
                refine thn_i ?_
                exact ⟨(rfl).trans (congrArg (fun z => (.bool z : Value)) (show true = (if (decide (a0.Next ≥ 0)) = true then (if (decide (a0.Next ≤ 1792)) = true then (if (!decide (a0.Gen = 0)) = true then true else (decide (a0.Next = 0))) else false) else false) from by rw [ite_t c21, ite_t c22, ite_t c23])), rfl⟩
              · skip
                refine ol_gval (v := .pointer (some ⟨G1, 2, none⟩)) (by exact xr_fieldAddr (p := 0) (q := 2) rfl fl58_2 e1) rfl rfl rfl rfl rfl c23 ?_
                refine ol_gval (v := .int .i64 a0.Next) (by exact xr_load1 (v := .int .i64 a0.Next) rfl ag3 rfl (b2.seg 2 rfl rfl)) rfl rfl rfl rfl rfl c23 ?_
                refine ol_gval (v := .bool (decide (a0.Next = 0))) (by exact xr_eqI rfl Try.underlying3 rfl rfl rfl) rfl rfl rfl rfl rfl c23 ?_
                refine ol_gval (v := .bool (decide (a0.Next = 0))) (by exact xr_pickF rfl rfl c23 rfl) rfl rfl rfl rfl rfl c22 ?_
                refine ol_val (v := .bool (decide (a0.Next = 0))) (by exact xr_pickT rfl rfl c22 rfl) rfl rfl rfl ?_
                refine ol_val (v := .bool (decide (a0.Next = 0))) (by exact xr_assign rfl rfl) rfl rfl rfl ?_
                refine ol_nil ?_
                refine thn_i ?_
                exact ⟨(rfl).trans (congrArg (fun z => (.bool z : Value)) (show (decide (a0.Next = 0)) = (if (decide (a0.Next ≥ 0)) = true then (if (decide (a0.Next ≤ 1792)) = true then (if (!decide (a0.Gen = 0)) = true then true else (decide (a0.Next = 0))) else false) else false) from by rw [ite_t c21, ite_t c22, ite_f c23])), rfl⟩
            · skip
              refine ol_gskip rfl rfl rfl rfl rfl c22 ?_
              refine ol_gskip rfl rfl rfl rfl rfl c22 ?_
              refine ol_gskip rfl rfl rfl rfl rfl c22 ?_
              refine ol_gskip rfl rfl rfl rfl rfl c22 ?_
              refine ol_uskip rfl rfl rfl rfl rfl ?_
              refine ol_uskip rfl rfl rfl rfl rfl ?_
              refine ol_uskip rfl rfl rfl rfl rfl ?_
              refine ol_gskip rfl rfl rfl rfl rfl c22 ?_
              refine ol_val (v := .bool false) (by exact xr_pickF rfl rfl c22 rfl) rfl rfl rfl ?_
              refine ol_val (v := .bool false) (by exact xr_assign rfl rfl) rfl rfl rfl ?_
              refine ol_nil ?_
              refine thn_i ?_
              exact ⟨(rfl).trans (congrArg (fun z => (.bool z : Value)) (show false = (if (decide (a0.Next ≥ 0)) = true then (if (decide (a0.Next ≤ 1792)) = true then (if (!decide (a0.Gen = 0)) = true then true else (decide (a0.Next = 0))) else false) else false) from by rw [ite_t c21, ite_f c22])), rfl⟩
          · skip
            refine ol_gskip rfl rfl rfl rfl rfl c21 ?_
            refine ol_gskip rfl rfl rfl rfl rfl c21 ?_
            refine ol_gskip rfl rfl rfl rfl rfl c21 ?_
            refine ol_val (v := .bool false) (by exact xr_pickF rfl rfl c21 rfl) rfl rfl rfl ?_
            refine ol_val (v := .bool false) (by exact xr_move rfl rfl) rfl rfl rfl ?_
            refine ol_gskip rfl rfl rfl rfl rfl rfl ?_
            refine ol_gskip rfl rfl rfl rfl rfl rfl ?_
            refine ol_gskip rfl rfl rfl rfl rfl rfl ?_
            refine ol_gskip rfl rfl rfl rfl rfl rfl ?_
            refine ol_uskip rfl rfl rfl rfl rfl ?_
            refine ol_uskip rfl rfl rfl rfl rfl ?_
            refine ol_uskip rfl rfl rfl rfl rfl ?_
            refine ol_gskip rfl rfl rfl rfl rfl rfl ?_
            refine ol_val (v := .bool false) (by exact xr_pickF rfl rfl rfl rfl) rfl rfl rfl ?_
            refine ol_val (v := .bool false) (by exact xr_assign rfl rfl) rfl rfl rfl ?_
            refine ol_nil ?_
            refine thn_i ?_
            exact ⟨(rfl).trans (congrArg (fun z => (.bool z : Value)) (show false = (if (decide (a0.Next ≥ 0)) = true then (if (decide (a0.Next ≤ 1792)) = true then (if (!decide (a0.Gen = 0)) = true then true else (decide (a0.Next = 0))) else false) else false) from by rw [ite_f c21])), rfl⟩
        · skip
          rintro ρ24 _ ⟨e2, rfl⟩
          refine cw_ret ?_
          repeat (first | with_reducible refine thn_r ?_ | with_reducible refine blk_r ?_)
          obtain rfl := Option.some.inj h
          refine fin_ret1 Try.results48 e2 ?_
          exact ⟨_, rfl, rfl, fB⟩
end Go.Proofs.Ytjhajfkfhdnciaa

/- rickyard/rickyardref07.Fill: its model, and that the Go function computes it: written by gen.py. -/
set_option linter.unusedVariables false
namespace Go.Proofs.Ytjhajfkfhdnciaa
open Go Go.Xw
def rickyardref07_Fill.f (fu : Nat) (a0 : List UInt8) (a1 : Int) : Option (List UInt8) := (if 0 ≤ (mxI (IntKind.i64.wrap (a1 - (List.length a0 : Int))) 0) ∧ Int.toNat (mxI (IntKind.i64.wrap (a1 - (List.length a0 : Int))) 0) ≤ LIM then (if List.length a0 + List.length (List.map toB (List.replicate (Int.toNat (mxI (IntKind.i64.wrap (a1 - (List.length a0 : Int))) 0)) (0 : Int))) ≤ LIM then some ((a0 ++ (List.map toB (List.replicate (Int.toNat (mxI (IntKind.i64.wrap (a1 - (List.length a0 : Int))) 0)) (0 : Int))))) else none) else none)
set_option maxRecDepth 100000 in
set_option maxHeartbeats 400000 in
theorem rickyardref07_Fill.ok (fu : Nat) (w : World) (a0 : List UInt8) (a1 : Int) (r : (List UInt8)) (h : rickyardref07_Fill.f fu a0 a1 = some r) :
    Calls Try.prog 31 (([sv a0, .int .i64 a1] : List Value).toArray) w (fun e w' => ∃ v, e = .returned v ∧ v = sv r ∧ Gr w w') := by
  unfold rickyardref07_Fill.f at h
  have fB : Gr w w := Fr.refl _ _
  refine calls_cw Try.func31 rfl Try.ntmps31 rfl ?_
  refine cw_seq ?_
  refine cw_region ?_
  refine ol_val (v := sv []) (by exact xr_assign rfl rfl) rfl rfl rfl ?_
  refine ol_nil ?_
  refine cw_seq ?_
  refine cw_region ?_
  refine ol_val (v := sv a0) (by exact xr_move rfl rfl) rfl rfl rfl ?_
  refine ol_val (v := .int .i64 a1) (by exact xr_move rfl rfl) rfl rfl rfl ?_
  refine ol_val (v := sv a0) (by exact xr_move rfl rfl) rfl rfl rfl ?_
  refine ol_val (v := .int .i64 (List.length a0 : Int)) (by exact xr_lenStr rfl Try.underlying9 rfl) rfl rfl rfl ?_
  refine ol_val (v := .int .i64 (IntKind.i64.wrap (a1 - (List.length a0 : Int)))) (by exact xr_sub rfl rfl rfl) rfl rfl rfl ?_
  refine ol_val (v := .int .i64 (mxI (IntKind.i64.wrap (a1 - (List.length a0 : Int))) 0)) (by exact xr_max2 rfl rfl rfl) rfl rfl rfl ?_
  obtain ⟨g1, h⟩ := gs h
  refine ol_op (by exact opv_make (K := (kI .u8)) (z := (0 : Int)) rfl Try.underlying22 el5 rfl rfl rfl g1.1 g1.2 rfl fB.size) rfl rfl rfl ?_
  rintro v2 w7 ⟨o4, q3, z5⟩
  have fB := fB.gr q3
  refine ol_val (v := sv (List.map toB (List.replicate (Int.toNat (mxI (IntKind.i64.wrap (a1 - (List.length a0 : Int))) 0)) (0 : Int)))) (by exact xr_toStr rfl Try.underlying22 Try.underlying5 Try.underlying9 rfl o4.rd) rfl rfl rfl ?_
  obtain ⟨g8, h⟩ := gs h
  refine ol_val (v := sv (a0 ++ (List.map toB (List.replicate (Int.toNat (mxI (IntKind.i64.wrap (a1 - (List.length a0 : Int))) 0)) (0 : Int))))) (by exact xr_addStr rfl rfl rfl g8) rfl rfl rfl ?_
  refine ol_val (v := sv (a0 ++ (List.map toB (List.replicate (Int.toNat (mxI (IntKind.i64.wrap (a1 - (List.length a0 : Int))) 0)) (0 : Int))))) (by exact xr_assign rfl rfl) rfl rfl rfl ?_
  refine ol_nil ?_
  refine cw_ret ?_
  repeat (first | with_reducible refine thn_r ?_ | with_reducible refine blk_r ?_)
  obtain rfl := Option.some.inj h
  refine fin_ret1 Try.results31 rfl ?_
  exact ⟨_, rfl, rfl, fB⟩
end Go.Proofs.Ytjhajfkfhdnciaa

/- rickyard/rickyardref01.Octet: its model, and that the Go function computes it: written by gen.py. -/
set_option linter.unusedVariables false
namespace Go.Proofs.Ytjhajfkfhdnciaa
open Go Go.Xw
def rickyardref01_Octet.s0 (fu : Nat) (a1 : Int) : (Int × Int) → Option (Sum Int (Int × Int)) := fun s1 => (if (decide (s1.2 < a1)) = true then some (Sum.inr ((IntKind.u64.wrap (Int.tdiv s1.1 256)), (IntKind.i64.wrap (s1.2 + 1)))) else some (Sum.inl (s1.1)))
def rickyardref01_Octet.f (fu : Nat) (a0 : Int) (a1 : Int) : Option Int := ((loopM (rickyardref01_Octet.s0 fu a1) fu (a0, 0)).bind fun e2 => some ((IntKind.u8.wrap (Int.tmod e2 256))))
set_option maxRecDepth 100000 in
set_option maxHeartbeats 400000 in
theorem rickyardref01_Octet.ok (fu : Nat) (w : World) (a0 : Int) (a1 : Int) (r : Int) (h : rickyardref01_Octet.f fu a0 a1 = some r) :
    Calls Try.prog 132 (([.int .u64 a0, .int .i64 a1] : List Value).toArray) w (fun e w' => ∃ v, e = .returned v ∧ v = .int .u8 r ∧ Gr w w') := by
  unfold rickyardref01_Octet.f at h
  have fB : Gr w w := Fr.refl _ _
  refine calls_cw Try.func132 rfl Try.ntmps132 rfl ?_
  refine cw_seq ?_
  refine cw_region ?_
  refine ol_val (v := .int .u8 0) (by exact xr_assign rfl rfl) rfl rfl rfl ?_
  refine ol_nil ?_
  refine cw_seq ?_
  refine cw_seq ?_
  refine cw_region ?_
  refine ol_val (v := .int .i64 0) (by exact xr_assign rfl rfl) rfl rfl rfl ?_
  refine ol_nil ?_
  obtain ⟨e2, l3, h4⟩ := bs h
  refine cw_mid (fun ρ' w' => ρ' 0 = .int .u64 e2 ∧ Gr w w') ?_ ?_
  · refine cw_block ?_
    refine cw_round (fun (s1 : Int × Int) ρ' w' => ρ' 0 = .int .u64 s1.1 ∧ ρ' 1 = .int .i64 a1 ∧ ρ' 5 = .int .i64 s1.2 ∧ Gr w w') l3 ?_ ?_
    · skip
      exact ⟨rfl, rfl, rfl, fB⟩
    · rintro s1 x7 ρ5 w6 ⟨e0, e1, e5, fB⟩ h
      unfold rickyardref01_Octet.s0 at h
      refine cw_seq ?_
      refine cw_seq ?_
      refine cw_region ?_
      refine ol_val (v := .int .i64 s1.2) (by exact xr_move rfl e5) rfl rfl rfl ?_
      refine ol_val (v := .int .i64 a1) (by exact xr_move rfl e1) rfl rfl rfl ?_
      refine ol_val (v := .bool (decide (s1.2 < a1))) (by exact xr_lss rfl rfl rfl) rfl rfl rfl ?_
      refine ol_nil ?_
      rcases is h with ⟨c8, h⟩ | ⟨c8, h⟩
      · refine cw_condT rfl c8 ?_
        refine cw_skip ?_
        refine cw_seq ?_
        refine cw_block ?_
        refine cw_region ?_
        refine ol_val (v := .int .u64 s1.1) (by exact xr_move rfl e0) rfl rfl rfl ?_
        refine ol_val (v := .int .u64 (IntKind.u64.wrap (Int.tdiv s1.1 256))) (by exact xr_quo rfl rfl rfl (by decide)) rfl rfl rfl ?_
        refine ol_val (v := .int .u64 (IntKind.u64.wrap (Int.tdiv s1.1 256))) (by exact xr_assign rfl rfl) rfl rfl rfl ?_
        refine ol_nil ?_
        refine blk_i ?_
        refine cw_region ?_
        refine ol_val (v := .int .i64 s1.2) (by exact xr_move rfl e5) rfl rfl rfl ?_
        refine ol_val (v := .int .i64 (IntKind.i64.wrap (s1.2 + 1))) (by exact xr_add rfl rfl rfl) rfl rfl rfl ?_
        refine ol_val (v := .int .i64 (IntKind.i64.wrap (s1.2 + 1))) (by exact xr_assign rfl rfl) rfl rfl rfl ?_
        refine ol_nil ?_
        obtain rfl := Option.some.inj h
        refine lp_in ?_
        exact ⟨rfl, e1, rfl, fB⟩
      · refine cw_condF rfl c8 ?_
        refine cw_exit ?_
        repeat (first | with_reducible refine thn_e ?_ | with_reducible refine blk_e rfl ?_)
        obtain rfl := Option.some.inj h
        refine lp_exit ?_
        rintro rfl
        refine thn_x ?_
        exact ⟨e0, fB⟩
  · rintro ρ9 w10 ⟨e0, fB⟩
    have h := h4
    refine cw_seq ?_
    refine cw_region ?_
    refine ol_val (v := .int .u64 e2) (by exact xr_move rfl e0) rfl rfl rfl ?_
    refine ol_val (v := .int .u64 (Int.tmod e2 256)) (by exact xr_rem rfl rfl rfl (by decide)) rfl rfl rfl ?_
    refine ol_val (v := .int .u8 (IntKind.u8.wrap (Int.tmod e2 256))) (by exact xr_conv rfl Try.underlying129 Try.underlying5 rfl) rfl rfl rfl ?_
    refine ol_val (v := .int .u8 (IntKind.u8.wrap (Int.tmod e2 256))) (by exact xr_assign rfl rfl) rfl rfl rfl ?_
    refine ol_nil ?_
    refine cw_ret ?_
    repeat (first | with_reducible refine thn_r ?_ | with_reducible refine blk_r ?_)
    obtain rfl := Option.some.inj h
    refine fin_ret1 Try.results132 rfl ?_
    exact ⟨_, rfl, rfl, fB⟩
end Go.Proofs.Ytjhajfkfhdnciaa

/- rickyard/rickyardref01.Lay: its model, and that the Go function computes it: written by gen.py. -/
set_option linter.unusedVariables false
namespace Go.Proofs.Ytjhajfkfhdnciaa
open Go Go.Xw
def rickyardref01_Lay.s0 (fu : Nat) (a0 : Int) (a1 : Int) : ((List UInt8) × Int) → Option (Sum (List UInt8) ((List UInt8) × Int)) := fun s1 => (if (decide (s1.2 < a1)) = true then ((rickyardref01_Octet.f fu a0 s1.2 : Option Int).bind fun t9 => (if List.length s1.1 + List.length (List.map toB [t9]) ≤ LIM then some (Sum.inr ((s1.1 ++ (List.map toB [t9])), (IntKind.i64.wrap (s1.2 + 1)))) else none)) else some (Sum.inl (s1.1)))
def rickyardref01_Lay.f (fu : Nat) (a0 : Int) (a1 : Int) : Option (List UInt8) := ((loopM (rickyardref01_Lay.s0 fu a0 a1) fu ([], 0)).bind fun e2 => some (e2))
set_option maxRecDepth 100000 in
set_option maxHeartbeats 400000 in
theorem rickyardref01_Lay.ok (fu : Nat) (w : World) (a0 : Int) (a1 : Int) (r : (List UInt8)) (h : rickyardref01_Lay.f fu a0 a1 = some r) :
    Calls Try.prog 99 (([.int .u64 a0, .int .i64 a1] : List Value).toArray) w (fun e w' => ∃ v, e = .returned v ∧ v = sv r ∧ Gr w w') := by
  unfold rickyardref01_Lay.f at h
  have fB : Gr w w := Fr.refl _ _
  refine calls_cw Try.func99 rfl Try.ntmps99 rfl ?_
  refine cw_seq ?_
  refine cw_region ?_
  refine ol_val (v := sv []) (by exact xr_assign rfl rfl) rfl rfl rfl ?_
  refine ol_nil ?_
  refine cw_seq ?_
  refine cw_region ?_
  refine ol_val (v := sv []) (by exact xr_assign rfl rfl) rfl rfl rfl ?_
  refine ol_nil ?_
  refine cw_seq ?_
  refine cw_seq ?_
  refine cw_region ?_
  refine ol_val (v := .int .i64 0) (by exact xr_assign rfl rfl) rfl rfl rfl ?_
  refine ol_nil ?_
  obtain ⟨e2, l3, h4⟩ := bs h
  refine cw_mid (fun ρ' w' => ρ' 5 = sv e2 ∧ Gr w w') ?_ ?_
  · refine cw_block ?_
    refine cw_round (fun (s1 : (List UInt8) × Int) ρ' w' => ρ' 0 = .int .u64 a0 ∧ ρ' 1 = .int .i64 a1 ∧ ρ' 5 = sv s1.1 ∧ ρ' 6 = .int .i64 s1.2 ∧ Gr w w') l3 ?_ ?_
    · skip
      exact ⟨rfl, rfl, rfl, rfl, fB⟩
    · rintro s1 x7 ρ5 w6 ⟨e0, e1, e5, e6, fB⟩ h
      unfold rickyardref01_Lay.s0 at h
      refine cw_seq ?_
      refine cw_seq ?_
      refine cw_region ?_
      refine ol_val (v := .int .i64 s1.2) (by exact xr_move rfl e6) rfl rfl rfl ?_
      refine ol_val (v := .int .i64 a1) (by exact xr_move rfl e1) rfl rfl rfl ?_
      refine ol_val (v := .bool (decide (s1.2 < a1))) (by exact xr_lss rfl rfl rfl) rfl rfl rfl ?_
      refine ol_nil ?_
      rcases is h with ⟨c8, h⟩ | ⟨c8, h⟩
      · refine cw_condT rfl c8 ?_
        refine cw_skip ?_
        refine cw_seq ?_
        refine cw_block ?_
        refine cw_region ?_
        refine ol_val (v := sv s1.1) (by exact xr_move rfl e5) rfl rfl rfl ?_
        refine ol_val (v := .int .u64 a0) (by exact xr_move rfl e0) rfl rfl rfl ?_
        refine ol_val (v := .int .i64 s1.2) (by exact xr_move rfl e6) rfl rfl rfl ?_
        obtain ⟨t9, k10, h⟩ := bs h
        refine ol_op (by exact opv_call rfl cal132 (ac rfl (ac rfl an)) (rickyardref01_Octet.ok fu _ a0 s1.2 _ k10)) rfl rfl rfl ?_
        rintro _ w12 ⟨rfl, q11⟩
        have fB := fB.gr q11
        refine ol_op (by exact opv_buildSlice (K := (kI .u8)) (xs := [t9]) (vals := [.int .u8 t9]) rfl Try.underlying22 el5 rfl rfl ⟨rfl, rfl, trivial⟩ rfl rfl rfl fB.size) rfl rfl rfl ?_
        rintro v13 w18 ⟨o15, q14, z16⟩
        have fB := fB.gr q14
        refine ol_val (v := sv (List.map toB [t9])) (by exact xr_toStr rfl Try.underlying22 Try.underlying5 Try.underlying9 rfl o15.rd) rfl rfl rfl ?_
        obtain ⟨g19, h⟩ := gs h
        refine ol_val (v := sv (s1.1 ++ (List.map toB [t9]))) (by exact xr_addStr rfl rfl rfl g19) rfl rfl rfl ?_
        refine ol_val (v := sv (s1.1 ++ (List.map toB [t9]))) (by exact xr_assign rfl rfl) rfl rfl rfl ?_
        refine ol_nil ?_
        refine blk_i ?_
        refine cw_region ?_
        refine ol_val (v := .int .i64 s1.2) (by exact xr_move rfl e6) rfl rfl rfl ?_
        refine ol_val (v := .int .i64 (IntKind.i64.wrap (s1.2 + 1))) (by exact xr_add rfl rfl rfl) rfl rfl rfl ?_
        refine ol_val (v := .int .i64 (IntKind.i64.wrap (s1.2 + 1))) (by exact xr_assign rfl rfl) rfl rfl rfl ?_
        refine ol_nil ?_
        obtain rfl := Option.some.inj h
        refine lp_in ?_
        exact ⟨e0, e1, rfl, rfl, fB⟩
      · refine cw_condF rfl c8 ?_
        refine cw_exit ?_
        repeat (first | with_reducible refine thn_e ?_ | with_reducible refine blk_e rfl ?_)
        obtain rfl := Option.some.inj h
        refine lp_exit ?_
        rintro rfl
        refine thn_x ?_
        exact ⟨e5, fB⟩
  · rintro ρ20 w21 ⟨e5, fB⟩
    have h := h4
    refine cw_seq ?_
    refine cw_region ?_
    refine ol_val (v := sv e2) (by exact xr_move rfl e5) rfl rfl rfl ?_
    refine ol_val (v := sv e2) (by exact xr_assign rfl rfl) rfl rfl rfl ?_
    refine ol_nil ?_
    refine cw_ret ?_
    repeat (first | with_reducible refine thn_r ?_ | with_reducible refine blk_r ?_)
    obtain rfl := Option.some.inj h
    refine fin_ret1 Try.results99 rfl ?_
    exact ⟨_, rfl, rfl, fB⟩
end Go.Proofs.Ytjhajfkfhdnciaa

/- rickyard/rickyardref02.Step: its model, and that the Go function computes it: written by gen.py. -/
set_option linter.unusedVariables false
namespace Go.Proofs.Ytjhajfkfhdnciaa
open Go Go.Xw
def rickyardref02_Step.f (fu : Nat) (a0 : Int) : Option Int := (if (decide ((Int.tmod a0 2) = 1)) = true then some ((bXor .u32 (IntKind.u32.wrap (Int.tdiv a0 2)) 2197175160)) else some ((IntKind.u32.wrap (Int.tdiv a0 2))))
set_option maxRecDepth 100000 in
set_option maxHeartbeats 400000 in
theorem rickyardref02_Step.ok (fu : Nat) (w : World) (a0 : Int) (r : Int) (h : rickyardref02_Step.f fu a0 = some r) :
    Calls Try.prog 146 (([.int .u32 a0] : List Value).toArray) w (fun e w' => ∃ v, e = .returned v ∧ v = .int .u32 r ∧ Gr w w') := by
  unfold rickyardref02_Step.f at h
  have fB : Gr w w := Fr.refl _ _
  refine calls_cw Try.func146 rfl Try.ntmps146 rfl ?_
  refine cw_seq ?_
  refine cw_region ?_
  refine ol_val (v := .int .u32 0) (by exact xr_assign rfl rfl) rfl rfl rfl ?_
  refine ol_nil ?_
  refine cw_seq ?_
  refine cw_seq ?_
  refine cw_region ?_
  refine ol_val (v := .int .u32 a0) (by exact xr_move rfl rfl) rfl rfl rfl ?_
  refine ol_val (v := .int .u32 (Int.tmod a0 2)) (by exact xr_rem rfl rfl rfl (by decide)) rfl rfl rfl ?_
  refine ol_val (v := .bool (decide ((Int.tmod a0 2) = 1))) (by exact xr_eqI rfl Try.underlying36 rfl rfl rfl) rfl rfl rfl ?_
  refine ol_nil ?_
  rcases is h with ⟨c1, h⟩ | ⟨c1, h⟩
  · refine cw_condT rfl c1 ?_
    refine cw_seq ?_
    refine cw_region ?_
    refine ol_val (v := .int .u32 a0) (by exact xr_move rfl rfl) rfl rfl rfl ?_
    refine ol_val (v := .int .u32 (IntKind.u32.wrap (Int.tdiv a0 2))) (by exact xr_quo rfl rfl rfl (by decide)) rfl rfl rfl ?_
    refine ol_val (v := .int .u32 (bXor .u32 (IntKind.u32.wrap (Int.tdiv a0 2)) 2197175160)) (by exact xr_xor rfl rfl rfl) rfl rfl rfl ?_
    refine ol_val (v := .int .u32 (bXor .u32 (IntKind.u32.wrap (Int.tdiv a0 2)) 2197175160)) (by exact xr_assign rfl rfl) rfl rfl rfl ?_
    refine ol_nil ?_
    refine cw_ret ?_
    repeat (first | with_reducible refine thn_r ?_ | with_reducible refine blk_r ?_)
    obtain rfl := Option.some.inj h
    refine fin_ret1 Try.results146 rfl ?_
    exact ⟨_, rfl, rfl, fB⟩
  · refine cw_condF rfl c1 ?_
    refine cw_skip ?_
    refine cw_seq ?_
    refine cw_region ?_
    refine ol_val (v := .int .u32 a0) (by exact xr_move rfl rfl) rfl rfl rfl ?_
    refine ol_val (v := .int .u32 (IntKind.u32.wrap (Int.tdiv a0 2))) (by exact xr_quo rfl rfl rfl (by decide)) rfl rfl rfl ?_
    refine ol_val (v := .int .u32 (IntKind.u32.wrap (Int.tdiv a0 2))) (by exact xr_assign rfl rfl) rfl rfl rfl ?_
    refine ol_nil ?_
    refine cw_ret ?_
    repeat (first | with_reducible refine thn_r ?_ | with_reducible refine blk_r ?_)
    obtain rfl := Option.some.inj h
    refine fin_ret1 Try.results146 rfl ?_
    exact ⟨_, rfl, rfl, fB⟩
end Go.Proofs.Ytjhajfkfhdnciaa

/- rickyard/rickyardref02.Steps: its model, and that the Go function computes it: written by gen.py. -/
set_option linter.unusedVariables false
namespace Go.Proofs.Ytjhajfkfhdnciaa
open Go Go.Xw
def rickyardref02_Steps.s0 (fu : Nat) (a1 : Int) : (Int × Int) → Option (Sum Int (Int × Int)) := fun s1 => (if (decide (s1.2 < a1)) = true then ((rickyardref02_Step.f fu s1.1 : Option Int).bind fun t9 => some (Sum.inr (t9, (IntKind.i64.wrap (s1.2 + 1))))) else some (Sum.inl (s1.1)))
def rickyardref02_Steps.f (fu : Nat) (a0 : Int) (a1 : Int) : Option Int := ((loopM (rickyardref02_Steps.s0 fu a1) fu (a0, 0)).bind fun e2 => some (e2))
set_option maxRecDepth 100000 in
set_option maxHeartbeats 400000 in
theorem rickyardref02_Steps.ok (fu : Nat) (w : World) (a0 : Int) (a1 : Int) (r : Int) (h : rickyardref02_Steps.f fu a0 a1 = some r) :
    Calls Try.prog 133 (([.int .u32 a0, .int .i64 a1] : List Value).toArray) w (fun e w' => ∃ v, e = .returned v ∧ v = .int .u32 r ∧ Gr w w') := by
  unfold rickyardref02_Steps.f at h
  have fB : Gr w w := Fr.refl _ _
  refine calls_cw Try.func133 rfl Try.ntmps133 rfl ?_
  refine cw_seq ?_
  refine cw_region ?_
  refine ol_val (v := .int .u32 0) (by exact xr_assign rfl rfl) rfl rfl rfl ?_
  refine ol_nil ?_
  refine cw_seq ?_
  refine cw_seq ?_
  refine cw_region ?_
  refine ol_val (v := .int .i64 0) (by exact xr_assign rfl rfl) rfl rfl rfl ?_
  refine ol_nil ?_
  obtain ⟨e2, l3, h4⟩ := bs h
  refine cw_mid (fun ρ' w' => ρ' 0 = .int .u32 e2 ∧ Gr w w') ?_ ?_
  · refine cw_block ?_
    refine cw_round (fun (s1 : Int × Int) ρ' w' => ρ' 0 = .int .u32 s1.1 ∧ ρ' 1 = .int .i64 a1 ∧ ρ' 5 = .int .i64 s1.2 ∧ Gr w w') l3 ?_ ?_
    · skip
      exact ⟨rfl, rfl, rfl, fB⟩
    · rintro s1 x7 ρ5 w6 ⟨e0, e1, e5, fB⟩ h
      unfold rickyardref02_Steps.s0 at h
      refine cw_seq ?_
      refine cw_seq ?_
      refine cw_region ?_
      refine ol_val (v := .int .i64 s1.2) (by exact xr_move rfl e5) rfl rfl rfl ?_
      refine ol_val (v := .int .i64 a1) (by exact xr_move rfl e1) rfl rfl rfl ?_
      refine ol_val (v := .bool (decide (s1.2 < a1))) (by exact xr_lss rfl rfl rfl) rfl rfl rfl ?_
      refine ol_nil ?_
      rcases is h with ⟨c8, h⟩ | ⟨c8, h⟩
      · refine cw_condT rfl c8 ?_
        refine cw_skip ?_
        refine cw_seq ?_
        refine cw_block ?_
        refine cw_region ?_
        refine ol_val (v := .int .u32 s1.1) (by exact xr_move rfl e0) rfl rfl rfl ?_
        obtain ⟨t9, k10, h⟩ := bs h
        refine ol_op (by exact opv_call rfl cal146 (ac rfl an) (rickyardref02_Step.ok fu _ s1.1 _ k10)) rfl rfl rfl ?_
        rintro _ w12 ⟨rfl, q11⟩
        have fB := fB.gr q11
        refine ol_val (v := .int .u32 t9) (by exact xr_assign rfl rfl) rfl rfl rfl ?_
        refine ol_nil ?_
        refine blk_i ?_
        refine cw_region ?_
        refine ol_val (v := .int .i64 s1.2) (by exact xr_move rfl e5) rfl rfl rfl ?_
        refine ol_val (v := .int .i64 (IntKind.i64.wrap (s1.2 + 1))) (by exact xr_add rfl rfl rfl) rfl rfl rfl ?_
        refine ol_val (v := .int .i64 (IntKind.i64.wrap (s1.2 + 1))) (by exact xr_assign rfl rfl) rfl rfl rfl ?_
        refine ol_nil ?_
        obtain rfl := Option.some.inj h
        refine lp_in ?_
        exact ⟨rfl, e1, rfl, fB⟩
      · refine cw_condF rfl c8 ?_
        refine cw_exit ?_
        repeat (first | with_reducible refine thn_e ?_ | with_reducible refine blk_e rfl ?_)
        obtain rfl := Option.some.inj h
        refine lp_exit ?_
        rintro rfl
        refine thn_x ?_
        exact ⟨e0, fB⟩
  · rintro ρ13 w14 ⟨e0, fB⟩
    have h := h4
    refine cw_seq ?_
    refine cw_region ?_
    refine ol_val (v := .int .u32 e2) (by exact xr_move rfl e0) rfl rfl rfl ?_
    refine ol_val (v := .int .u32 e2) (by exact xr_assign rfl rfl) rfl rfl rfl ?_
    refine ol_nil ?_
    refine cw_ret ?_
    repeat (first | with_reducible refine thn_r ?_ | with_reducible refine blk_r ?_)
    obtain rfl := Option.some.inj h
    refine fin_ret1 Try.results133 rfl ?_
    exact ⟨_, rfl, rfl, fB⟩
end Go.Proofs.Ytjhajfkfhdnciaa

/- rickyard/rickyardref02.Sum: its model, and that the Go function computes it: written by gen.py. -/
set_option linter.unusedVariables false
namespace Go.Proofs.Ytjhajfkfhdnciaa
open Go Go.Xw
def rickyardref02_Sum.s0 (fu : Nat) (a0 : List Int) : (Int × Int) → Option (Sum Int (Int × Int)) := fun s1 => (if (decide (s1.2 < (List.length a0 : Int))) = true then (if 0 ≤ s1.2 ∧ s1.2 < (List.length a0 : Int) then ((rickyardref02_Steps.f fu (bXor .u32 s1.1 (IntKind.u32.wrap (ix a0 s1.2))) 8 : Option Int).bind fun t10 => some (Sum.inr (t10, (IntKind.i64.wrap (s1.2 + 1))))) else none) else some (Sum.inl (s1.1)))
def rickyardref02_Sum.f (fu : Nat) (a0 : List Int) : Option Int := ((loopM (rickyardref02_Sum.s0 fu a0) fu (4294967295, 0)).bind fun e2 => some ((IntKind.u32.wrap (4294967295 - e2))))
set_option maxRecDepth 100000 in
set_option maxHeartbeats 400000 in
theorem rickyardref02_Sum.ok (fu : Nat) (w : World) (a0 : List Int) (V0_0 : Value) (R0_0 : Rd (kI .u8) w V0_0 a0) (r : Int) (h : rickyardref02_Sum.f fu a0 = some r) :
    Calls Try.prog 100 (([V0_0] : List Value).toArray) w (fun e w' => ∃ v, e = .returned v ∧ v = .int .u32 r ∧ Gr w w') := by
  unfold rickyardref02_Sum.f at h
  have fB : Gr w w := Fr.refl _ _
  refine calls_cw Try.func100 rfl Try.ntmps100 rfl ?_
  refine cw_seq ?_
  refine cw_region ?_
  refine ol_val (v := .int .u32 0) (by exact xr_assign rfl rfl) rfl rfl rfl ?_
  refine ol_nil ?_
  refine cw_seq ?_
  refine cw_region ?_
  refine ol_val (v := .int .u32 4294967295) (by exact xr_assign rfl rfl) rfl rfl rfl ?_
  refine ol_nil ?_
  refine cw_seq ?_
  refine cw_seq ?_
  refine cw_region ?_
  refine ol_val (v := .int .i64 0) (by exact xr_assign rfl rfl) rfl rfl rfl ?_
  refine ol_nil ?_
  obtain ⟨e2, l3, h4⟩ := bs h
  refine cw_mid (fun ρ' w' => ρ' 3 = .int .u32 e2 ∧ Gr w w') ?_ ?_
  · refine cw_block ?_
    refine cw_round (fun (s1 : Int × Int) ρ' w' => ρ' 0 = V0_0 ∧ ρ' 3 = .int .u32 s1.1 ∧ ρ' 4 = .int .i64 s1.2 ∧ Gr w w') l3 ?_ ?_
    · skip
      exact ⟨rfl, rfl, rfl, fB⟩
    · rintro s1 x7 ρ5 w6 ⟨e0, e3, e4, fB⟩ h
      unfold rickyardref02_Sum.s0 at h
      refine cw_seq ?_
      refine cw_seq ?_
      refine cw_region ?_
      refine ol_val (v := .int .i64 s1.2) (by exact xr_move rfl e4) rfl rfl rfl ?_
      refine ol_val (v := V0_0) (by exact xr_move rfl e0) rfl rfl rfl ?_
      refine ol_val (v := .int .i64 (List.length a0 : Int)) (by exact xr_lenR rfl Try.underlying22 rfl (R0_0.gr fB)) rfl rfl rfl ?_
      refine ol_val (v := .bool (decide (s1.2 < (List.length a0 : Int)))) (by exact xr_lss rfl rfl rfl) rfl rfl rfl ?_
      refine ol_nil ?_
      rcases is h with ⟨c8, h⟩ | ⟨c8, h⟩
      · refine cw_condT rfl c8 ?_
        refine cw_skip ?_
        refine cw_seq ?_
        refine cw_block ?_
        refine cw_region ?_
        refine ol_val (v := .int .u32 s1.1) (by exact xr_move rfl e3) rfl rfl rfl ?_
        refine ol_val (v := V0_0) (by exact xr_move rfl e0) rfl rfl rfl ?_
        refine ol_val (v := .int .i64 s1.2) (by exact xr_move rfl e4) rfl rfl rfl ?_
        obtain ⟨g9, h⟩ := gs h
        refine ol_val (v := .pointer (some ⟨(sb V0_0), so V0_0 + Int.toNat s1.2 * 1, none⟩)) (by exact xr_indexR (K := (kI .u8)) (v := V0_0) rfl Try.underlying22 sz5 rfl (R0_0.gr fB) rfl g9.1 g9.2) rfl rfl rfl ?_
        refine ol_val (v := .int .u8 (ix a0 s1.2)) (by exact xr_load1 (v := .int .u8 (ix a0 s1.2)) rfl ag5 rfl ((R0_0.gr fB).elem g9.1 g9.2)) rfl rfl rfl ?_
        refine ol_val (v := .int .u32 (IntKind.u32.wrap (ix a0 s1.2))) (by exact xr_conv rfl Try.underlying5 Try.underlying36 rfl) rfl rfl rfl ?_
        refine ol_val (v := .int .u32 (bXor .u32 s1.1 (IntKind.u32.wrap (ix a0 s1.2)))) (by exact xr_xor rfl rfl rfl) rfl rfl rfl ?_
        obtain ⟨t10, k11, h⟩ := bs h
        refine ol_op (by exact opv_call rfl cal133 (ac rfl (ac rfl an)) (rickyardref02_Steps.ok fu _ (bXor .u32 s1.1 (IntKind.u32.wrap (ix a0 s1.2))) 8 _ k11)) rfl rfl rfl ?_
        rintro _ w13 ⟨rfl, q12⟩
        have fB := fB.gr q12
        refine ol_val (v := .int .u32 t10) (by exact xr_assign rfl rfl) rfl rfl rfl ?_
        refine ol_nil ?_
        refine blk_i ?_
        refine cw_region ?_
        refine ol_val (v := .int .i64 s1.2) (by exact xr_move rfl e4) rfl rfl rfl ?_
        refine ol_val (v := .int .i64 (IntKind.i64.wrap (s1.2 + 1))) (by exact xr_add rfl rfl rfl) rfl rfl rfl ?_
        refine ol_val (v := .int .i64 (IntKind.i64.wrap (s1.2 + 1))) (by exact xr_assign rfl rfl) rfl rfl rfl ?_
        refine ol_nil ?_
        obtain rfl := Option.some.inj h
        refine lp_in ?_
        exact ⟨e0, rfl, rfl, fB⟩
      · refine cw_condF rfl c8 ?_
        refine cw_exit ?_
        repeat (first | with_reducible refine thn_e ?_ | with_reducible refine blk_e rfl ?_)
        obtain rfl := Option.some.inj h
        refine lp_exit ?_
        rintro rfl
        refine thn_x ?_
        exact ⟨e3, fB⟩
  · rintro ρ14 w15 ⟨e3, fB⟩
    have h := h4
    refine cw_seq ?_
    refine cw_region ?_
    refine ol_val (v := .int .u32 e2) (by exact xr_move rfl e3) rfl rfl rfl ?_
    refine ol_val (v := .int .u32 (IntKind.u32.wrap (4294967295 - e2))) (by exact xr_sub rfl rfl rfl) rfl rfl rfl ?_
    refine ol_val (v := .int .u32 (IntKind.u32.wrap (4294967295 - e2))) (by exact xr_assign rfl rfl) rfl rfl rfl ?_
    refine ol_nil ?_
    refine cw_ret ?_
    repeat (first | with_reducible refine thn_r ?_ | with_reducible refine blk_r ?_)
    obtain rfl := Option.some.inj h
    refine fin_ret1 Try.results100 rfl ?_
    exact ⟨_, rfl, rfl, fB⟩
end Go.Proofs.Ytjhajfkfhdnciaa

/- rickyard/rickyardref07.Seal: its model, and that the Go function computes it: written by gen.py. -/
set_option linter.unusedVariables false
namespace Go.Proofs.Ytjhajfkfhdnciaa
open Go Go.Xw
def rickyardref07_Seal.f (fu : Nat) (a0 : Int) (a1 : Int) (a2 : List UInt8) : Option (List UInt8) := ((rickyardref07_Fill.f fu a2 56 : Option (List UInt8)).bind fun t6 => (if List.length (List.map toB [(IntKind.u8.wrap a0), (IntKind.u8.wrap a1), 0, 0]) + List.length t6 ≤ LIM then ((rickyardref02_Sum.f fu (List.map ofB ((List.map toB [(IntKind.u8.wrap a0), (IntKind.u8.wrap a1), 0, 0]) ++ t6)) : Option Int).bind fun t17 => ((rickyardref01_Lay.f fu (IntKind.u64.wrap t17) 4 : Option (List UInt8)).bind fun t21 => (if List.length t21 + List.length ((List.map toB [(IntKind.u8.wrap a0), (IntKind.u8.wrap a1), 0, 0]) ++ t6) ≤ LIM then some ((t21 ++ ((List.map toB [(IntKind.u8.wrap a0), (IntKind.u8.wrap a1), 0, 0]) ++ t6))) else none))) else none))
set_option maxRecDepth 100000 in
set_option maxHeartbeats 400000 in
theorem rickyardref07_Seal.ok (fu : Nat) (w : World) (a0 : Int) (a1 : Int) (a2 : List UInt8) (r : (List UInt8)) (h : rickyardref07_Seal.f fu a0 a1 a2 = some r) :
    Calls Try.prog 30 (([.int .i64 a0, .int .i64 a1, sv a2] : List Value).toArray) w (fun e w' => ∃ v, e = .returned v ∧ v = sv r ∧ Gr w w') := by
  unfold rickyardref07_Seal.f at h
  have fB : Gr w w := Fr.refl _ _
  refine calls_cw Try.func30 rfl Try.ntmps30 rfl ?_
  refine cw_seq ?_
  refine cw_region ?_
  refine ol_val (v := sv []) (by exact xr_assign rfl rfl) rfl rfl rfl ?_
  refine ol_nil ?_
  refine cw_seq ?_
  obtain ⟨t6, k7, h⟩ := bs h
  refine cw_drawL 8 [fun vz wz => vz = (.int .i64 a0 : Value), fun vz wz => vz = (.int .u8 (IntKind.u8.wrap a0) : Value), fun vz wz => vz = (.int .i64 a1 : Value), fun vz wz => vz = (.int .u8 (IntKind.u8.wrap a1) : Value), fun vz wz => ∃ v1 : Value, ∃ o3 : Own (kI .u8) 5 wz w.heap.size v1 [(IntKind.u8.wrap a0), (IntKind.u8.wrap a1), 0, 0], vz = (v1 : Value), fun vz wz => vz = (sv (List.map toB [(IntKind.u8.wrap a0), (IntKind.u8.wrap a1), 0, 0]) : Value), fun vz wz => vz = (sv a2 : Value), fun vz wz => vz = (sv t6 : Value)] mo rfl ⟨fun _ _ _ h _ => h, fun _ _ _ h _ => h, fun _ _ _ h _ => h, fun _ _ _ h _ => h, fun _ _ _ ⟨v1, o3, h⟩ q => ⟨v1, o3.gr q, h⟩, fun _ _ _ h _ => h, fun _ _ _ h _ => h, fun _ _ _ h _ => h, trivial⟩ ?_ ?_
  · refine ⟨?_, ?_, ?_, ?_, ?_, ?_, ?_, ?_, trivial⟩
    · intro ρz wz hz hk hd
      exact sk_val (v := .int .i64 a0) (by exact xr_move rfl ((hk 0 rfl).trans rfl)) rfl rfl
    · intro ρz wz hz hk hd
      have d8 := hd 0 rfl 8 rfl
      exact sk_val (v := .int .u8 (IntKind.u8.wrap a0)) (by exact xr_conv rfl Try.underlying3 Try.underlying5 d8) rfl rfl
    · intro ρz wz hz hk hd
      exact sk_val (v := .int .i64 a1) (by exact xr_move rfl ((hk 1 rfl).trans rfl)) rfl rfl
    · intro ρz wz hz hk hd
      have d10 := hd 2 rfl 10 rfl
      exact sk_val (v := .int .u8 (IntKind.u8.wrap a1)) (by exact xr_conv rfl Try.underlying3 Try.underlying5 d10) rfl rfl
    · intro ρz wz hz hk hd
      have d9 := hd 1 rfl 9 rfl
      have d11 := hd 3 rfl 11 rfl
      refine sk_op (by exact opv_buildSlice (K := (kI .u8)) (xs := [(IntKind.u8.wrap a0), (IntKind.u8.wrap a1), 0, 0]) (vals := [.int .u8 (IntKind.u8.wrap a0), .int .u8 (IntKind.u8.wrap a1), .int .u8 0, .int .u8 0]) rfl Try.underlying22 el5 rfl rfl ⟨rfl, d9, ⟨rfl, d11, ⟨rfl, rfl, ⟨rfl, rfl, trivial⟩⟩⟩⟩ rfl rfl rfl (Nat.le_trans fB.size hz.size)) rfl ?_
      rintro v1 wy ⟨o3, q2, z4⟩
      exact ⟨⟨v1, o3, rfl⟩, q2⟩
    · intro ρz wz hz hk hd
      obtain ⟨v1, o3, d12⟩ := hd 4 rfl 12 rfl
      exact sk_val (by exact xr_toStr rfl Try.underlying22 Try.underlying5 Try.underlying9 d12 o3.rd) rfl rfl
    · intro ρz wz hz hk hd
      exact sk_val (v := sv a2) (by exact xr_move rfl ((hk 2 rfl).trans rfl)) rfl rfl
    · intro ρz wz hz hk hd
      have d14 := hd 6 rfl 14 rfl
      refine sk_op (by exact opv_call rfl cal31 (ac d14 (ac rfl an)) (rickyardref07_Fill.ok fu _ a2 56 _ k7)) rfl ?_
      rintro _ wy ⟨rfl, q8⟩
      exact ⟨rfl, q8⟩
  · intro ρ9 w10 q11 hk hd
    have e13 := hd 5 rfl 13 rfl
    have e15 := hd 7 rfl 15 rfl
    have fB := fB.gr q11
    obtain ⟨g12, h⟩ := gs h
    refine ol_val (v := sv ((List.map toB [(IntKind.u8.wrap a0), (IntKind.u8.wrap a1), 0, 0]) ++ t6)) (by exact xr_addStr rfl e13 e15 g12) rfl rfl rfl ?_
    refine ol_val (v := sv ((List.map toB [(IntKind.u8.wrap a0), (IntKind.u8.wrap a1), 0, 0]) ++ t6)) (by exact xr_assign rfl rfl) rfl rfl rfl ?_
    refine ol_nil ?_
    refine cw_seq ?_
    refine cw_region ?_
    refine ol_val (v := sv ((List.map toB [(IntKind.u8.wrap a0), (IntKind.u8.wrap a1), 0, 0]) ++ t6)) (by exact xr_move rfl rfl) rfl rfl rfl ?_
    refine ol_op (by exact opv_toBytes rfl Try.underlying9 Try.underlying22 Try.underlying5 rfl) rfl rfl rfl ?_
    rintro v13 w16 ⟨r15, q14⟩
    have fB := fB.gr q14
    obtain ⟨t17, k18, h⟩ := bs h
    refine ol_op (by exact opv_call rfl cal100 (ac rfl an) (rickyardref02_Sum.ok fu _ (List.map ofB ((List.map toB [(IntKind.u8.wrap a0), (IntKind.u8.wrap a1), 0, 0]) ++ t6)) v13 (r15) _ k18)) rfl rfl rfl ?_
    rintro _ w20 ⟨rfl, q19⟩
    have fB := fB.gr q19
    refine ol_val (v := .int .u64 (IntKind.u64.wrap t17)) (by exact xr_conv rfl Try.underlying36 Try.underlying129 rfl) rfl rfl rfl ?_
    obtain ⟨t21, k22, h⟩ := bs h
    refine ol_op (by exact opv_call rfl cal99 (ac rfl (ac rfl an)) (rickyardref01_Lay.ok fu _ (IntKind.u64.wrap t17) 4 _ k22)) rfl rfl rfl ?_
    rintro _ w24 ⟨rfl, q23⟩
    have fB := fB.gr q23
    refine ol_val (v := sv ((List.map toB [(IntKind.u8.wrap a0), (IntKind.u8.wrap a1), 0, 0]) ++ t6)) (by exact xr_move rfl rfl) rfl rfl rfl ?_
    obtain ⟨g25, h⟩ := gs h
    refine ol_val (v := sv (t21 ++ ((List.map toB [(IntKind.u8.wrap a0), (IntKind.u8.wrap a1), 0, 0]) ++ t6))) (by exact xr_addStr rfl rfl rfl g25) rfl rfl rfl ?_
    refine ol_val (v := sv (t21 ++ ((List.map toB [(IntKind.u8.wrap a0), (IntKind.u8.wrap a1), 0, 0]) ++ t6))) (by exact xr_assign rfl rfl) rfl rfl rfl ?_
    refine ol_nil ?_
    refine cw_ret ?_
    repeat (first | with_reducible refine thn_r ?_ | with_reducible refine blk_r ?_)
    obtain rfl := Option.some.inj h
    refine fin_ret1 Try.results30 rfl ?_
    exact ⟨_, rfl, rfl, fB⟩
end Go.Proofs.Ytjhajfkfhdnciaa

/- rickyard/rickyardref09.Leaf: its model, and that the Go function computes it: written by gen.py. -/
set_option linter.unusedVariables false
namespace Go.Proofs.Ytjhajfkfhdnciaa
open Go Go.Xw
def rickyardref09_Leaf.s0 (fu : Nat) (a0 : S_api_Leaf) : ((List UInt8) × Int × Int) → Option (Sum (Sum ((List UInt8) × Bool) ((List UInt8) × Int)) ((List UInt8) × Int × Int)) := fun s7 => (if (decide (s7.2.2 < 7)) = true then (if 0 ≤ s7.2.2 ∧ s7.2.2 < 7 then ((rickyardref09_Seat.f fu (Arr.get a0.Seats s7.2.2) : Option Bool).bind fun t26 => (if (!t26) = true then some (Sum.inl (Sum.inl ([], false))) else (((if (Arr.get a0.Seats s7.2.2).Live = true then (if 0 ≤ s7.2.2 then some ((IntKind.i64.wrap (s7.2.1 + (shL .i64 1 s7.2.2)))) else none) else some (s7.2.1)) : Option Int).bind fun x31 => ((rickyardref01_Lay.f fu (IntKind.u64.wrap ((Arr.get a0.Seats s7.2.2).Gen)) 4 : Option (List UInt8)).bind fun t38 => (if List.length s7.1 + List.length t38 ≤ LIM then ((rickyardref01_Lay.f fu (IntKind.u64.wrap ((Arr.get a0.Seats s7.2.2).Next)) 4 : Option (List UInt8)).bind fun t42 => (if List.length (s7.1 ++ t38) + List.length t42 ≤ LIM then some (Sum.inr (((s7.1 ++ t38) ++ t42), x31, (IntKind.i64.wrap (s7.2.2 + 1)))) else none)) else none))))) else none) else some (Sum.inl (Sum.inr (s7.1, s7.2.1))))
def rickyardref09_Leaf.f (fu : Nat) (a0 : S_api_Leaf) : Option ((List UInt8) × Bool) := ((loopM (rickyardref09_Leaf.s0 fu a0) fu ([], 0, 0)).bind fun e8 => match e8 with | Sum.inl p => some p | Sum.inr x11 => ((rickyardref07_Seal.f fu 2 x11.2 x11.1 : Option (List UInt8)).bind fun t51 => some (t51, true)))
set_option maxRecDepth 100000 in
set_option maxHeartbeats 400000 in
theorem rickyardref09_Leaf.ok (fu : Nat) (w : World) (a0 : S_api_Leaf) (r : (List UInt8) × Bool) (h : rickyardref09_Leaf.f fu a0 = some r) :
    Calls Try.prog 50 (([aggV [Kd.seg (kA 7 k_api_Seat) a0.Seats]] : List Value).toArray) w (fun e w' => ∃ v, e = .returned v ∧ v = .tuple #[sv r.1, .bool r.2] ∧ Gr w w') := by
  unfold rickyardref09_Leaf.f at h
  have fB : Gr w w := Fr.refl _ _
  refine calls_cw Try.func50 rfl Try.ntmps50 rfl ?_
  refine cw_seq ?_
  refine cw_region ?_
  refine ol_op (by exact opv_box (ss := [Kd.seg (kA 7 k_api_Seat) a0.Seats]) rfl rfl rfl) rfl rfl rfl ?_
  rintro _ w6 ⟨G1, rfl, b2, q3, z4⟩
  have z4 := Nat.le_trans fB.size z4
  have fB := fB.gr q3
  refine ol_val (v := sv []) (by exact xr_assign rfl rfl) rfl rfl rfl ?_
  refine ol_val (v := .bool false) (by exact xr_assign rfl rfl) rfl rfl rfl ?_
  refine ol_nil ?_
  refine cw_seq ?_
  refine cw_region ?_
  refine ol_val (v := sv []) (by exact xr_assign rfl rfl) rfl rfl rfl ?_
  refine ol_val (v := .int .i64 0) (by exact xr_assign rfl rfl) rfl rfl rfl ?_
  refine ol_nil ?_
  refine cw_seq ?_
  refine cw_seq ?_
  refine cw_region ?_
  refine ol_val (v := .int .i64 0) (by exact xr_assign rfl rfl) rfl rfl rfl ?_
  refine ol_nil ?_
  obtain ⟨e8, l9, h10⟩ := bs h
  refine cw_mid (fun ρ' w' => ∃ x11, e8 = Sum.inr x11 ∧ ρ' 4 = sv x11.1 ∧ ρ' 5 = .int .i64 x11.2 ∧ Gr w w') ?_ ?_
  · refine cw_block ?_
    refine cw_round (fun (s7 : (List UInt8) × Int × Int) ρ' w' => ρ' 1 = .pointer (some ⟨G1, 0, none⟩) ∧ ρ' 4 = sv s7.1 ∧ ρ' 5 = .int .i64 s7.2.1 ∧ ρ' 6 = .int .i64 s7.2.2 ∧ Blk w' G1 61 [Kd.seg (kA 7 k_api_Seat) a0.Seats] ∧ Gr w w') l9 ?_ ?_
    · skip
      exact ⟨rfl, rfl, rfl, rfl, b2, fB⟩
    · rintro s7 x14 ρ12 w13 ⟨e1, e4, e5, e6, b2, fB⟩ h
      unfold rickyardref09_Leaf.s0 at h
      refine cw_seq ?_
      refine cw_seq ?_
      refine cw_region ?_
      refine ol_val (v := .int .i64 s7.2.2) (by exact xr_move rfl e6) rfl rfl rfl ?_
      refine ol_val (v := .bool (decide (s7.2.2 < 7))) (by exact xr_lss rfl rfl rfl) rfl rfl rfl ?_
      refine ol_nil ?_
      rcases is h with ⟨c15, h⟩ | ⟨c15, h⟩
      · refine cw_condT rfl c15 ?_
        refine cw_skip ?_
        refine cw_seq ?_
        refine cw_block ?_
        refine cw_seq ?_
        refine cw_region ?_
        refine ol_val (v := .int .i64 s7.2.2) (by exact xr_move rfl e6) rfl rfl rfl ?_
        refine ol_val (v := .pointer (some ⟨G1, 0, none⟩)) (by exact xr_fieldAddr (p := 0) (q := 0) rfl fl61_0 e1) rfl rfl rfl ?_
        obtain ⟨g16, h⟩ := gs h
        refine ol_val (v := .pointer (some ⟨G1, 0 + Int.toNat s7.2.2 * 3, none⟩)) (by exact xr_indexA (p := 0) (s := 3) rfl Try.underlying59 sz58 rfl rfl g16.1 g16.2) rfl rfl rfl ?_
        refine ol_val (v := aggV [Seg.cell (.bool ((Arr.get a0.Seats s7.2.2).Live)), Seg.cell (.int .i64 ((Arr.get a0.Seats s7.2.2).Gen)), Seg.cell (.int .i64 ((Arr.get a0.Seats s7.2.2).Next))]) (by exact xr_loadS (ss := [Seg.cell (.bool ((Arr.get a0.Seats s7.2.2).Live)), Seg.cell (.int .i64 ((Arr.get a0.Seats s7.2.2).Gen)), Seg.cell (.int .i64 ((Arr.get a0.Seats s7.2.2).Next))]) rfl ag58 sz58 rfl rfl (At.arr (a := a0.Seats) (b2.seg 0 rfl rfl) g16.1 g16.2)) rfl rfl rfl ?_
        refine ol_op (by exact opv_alloc (ss := [Seg.cell (.bool false), Seg.cell (.int .i64 (0 : Int)), Seg.cell (.int .i64 (0 : Int))]) rfl ze58 rfl) rfl rfl rfl ?_
        rintro _ w22 ⟨G17, rfl, b18, q19, z20⟩
        have n23 := Blk.ne b2 z20
        have z20 := Nat.le_trans fB.size z20
        have b2 := b2.gr q19
        have fB := fB.gr q19
        refine ol_op0 (by exact opv_store (ss' := [Seg.cell (.bool ((Arr.get a0.Seats s7.2.2).Live)), Seg.cell (.int .i64 ((Arr.get a0.Seats s7.2.2).Gen)), Seg.cell (.int .i64 ((Arr.get a0.Seats s7.2.2).Next))]) (xs := cellsOf [Seg.cell (.bool ((Arr.get a0.Seats s7.2.2).Live)), Seg.cell (.int .i64 ((Arr.get a0.Seats s7.2.2).Gen)), Seg.cell (.int .i64 ((Arr.get a0.Seats s7.2.2).Next))]) rfl sz58 rfl rfl rfl (len_cellsOf _) (one_cellsOf _) b18 (Spl.segs _ 0 3 [Seg.cell (.bool ((Arr.get a0.Seats s7.2.2).Live)), Seg.cell (.int .i64 ((Arr.get a0.Seats s7.2.2).Gen)), Seg.cell (.int .i64 ((Arr.get a0.Seats s7.2.2).Next))] rfl rfl)) rfl rfl ?_
        rintro _ w25 ⟨b18, q24⟩
        have b2 := b2.wr q24 n23
        have fB := fB.wr q24 z20
        refine ol_nil ?_
        refine cw_seq ?_
        refine cw_seq ?_
        refine cw_region ?_
        refine ol_val (v := aggV [Seg.cell (.bool ((Arr.get a0.Seats s7.2.2).Live)), Seg.cell (.int .i64 ((Arr.get a0.Seats s7.2.2).Gen)), Seg.cell (.int .i64 ((Arr.get a0.Seats s7.2.2).Next))]) (by exact xr_loadS (ss := [Seg.cell (.bool ((Arr.get a0.Seats s7.2.2).Live)), Seg.cell (.int .i64 ((Arr.get a0.Seats s7.2.2).Gen)), Seg.cell (.int .i64 ((Arr.get a0.Seats s7.2.2).Next))]) rfl ag58 sz58 rfl rfl (b18.segs 0 3 rfl)) rfl rfl rfl ?_
        obtain ⟨t26, k27, h⟩ := bs h
        refine ol_op (by exact opv_call rfl cal48 (ac rfl an) (rickyardref09_Seat.ok fu _ (Arr.get a0.Seats s7.2.2) _ k27)) rfl rfl rfl ?_
        rintro _ w29 ⟨rfl, q28⟩
        have b2 := b2.gr q28
        have b18 := b18.gr q28
        have fB := fB.gr q28
        refine ol_val (v := .bool (!t26)) (by exact xr_not rfl rfl) rfl rfl rfl ?_
        refine ol_nil ?_
        rcases is h with ⟨c30, h⟩ | ⟨c30, h⟩
        · refine cw_condT rfl c30 ?_
          refine cw_seq ?_
          refine cw_region ?_
          refine ol_val (v := sv []) (by exact xr_assign rfl rfl) rfl rfl rfl ?_
          refine ol_val (v := .bool false) (by exact xr_assign rfl rfl) rfl rfl rfl ?_
          refine ol_nil ?_
          refine cw_ret ?_
          repeat (first | with_reducible refine thn_r ?_ | with_reducible refine blk_r ?_)
          obtain rfl := Option.some.inj h
          refine lp_ret ?_
          rintro rfl
          repeat (first | with_reducible refine thn_r ?_ | with_reducible refine blk_r ?_)
          have h := h10
          obtain rfl := Option.some.inj h
          refine fin_ret2 Try.results50 rfl rfl ?_
          exact ⟨_, rfl, rfl, fB⟩
        · refine cw_condF rfl c30 ?_
          refine cw_skip ?_
          refine cw_seq ?_
          refine cw_seq ?_
          refine cw_region ?_
          refine ol_val (v := .pointer (some ⟨G17, 0, none⟩)) (by exact xr_fieldAddr (p := 0) (q := 0) rfl fl58_0 rfl) rfl rfl rfl ?_
          refine ol_val (v := .bool ((Arr.get a0.Seats s7.2.2).Live)) (by exact xr_load1 (v := .bool ((Arr.get a0.Seats s7.2.2).Live)) rfl ag4 rfl (b18.seg 0 rfl rfl)) rfl rfl rfl ?_
          refine ol_nil ?_
          obtain ⟨x31, j32, h33⟩ := bs h
          refine cw_mid (fun ρ' w' => ρ' 1 = .pointer (some ⟨G1, 0, none⟩) ∧ ρ' 4 = sv s7.1 ∧ ρ' 5 = .int .i64 x31 ∧ ρ' 6 = .int .i64 s7.2.2 ∧ ρ' 7 = .pointer (some ⟨G17, 0, none⟩) ∧ Blk w' G1 61 [Kd.seg (kA 7 k_api_Seat) a0.Seats] ∧ Blk w' G17 58 [Seg.cell (.bool ((Arr.get a0.Seats s7.2.2).Live)), Seg.cell (.int .i64 ((Arr.get a0.Seats s7.2.2).Gen)), Seg.cell (.int .i64 ((Arr.get a0.Seats s7.2.2).Next))] ∧ Gr w w') ?_ ?_
          · have h := j32
            rcases is h with ⟨c34, h⟩ | ⟨c34, h⟩
            · refine cw_condT rfl c34 ?_
              refine cw_region ?_
              refine ol_val (v := .int .i64 s7.2.1) (by exact xr_move rfl e5) rfl rfl rfl ?_
              refine ol_val (v := .int .i64 s7.2.2) (by exact xr_move rfl e6) rfl rfl rfl ?_
              obtain ⟨g35, h⟩ := gs h
              refine ol_val (v := .int .i64 (shL .i64 1 s7.2.2)) (by exact xr_shl rfl rfl rfl g35) rfl rfl rfl ?_
              refine ol_val (v := .int .i64 (IntKind.i64.wrap (s7.2.1 + (shL .i64 1 s7.2.2)))) (by exact xr_add rfl rfl rfl) rfl rfl rfl ?_
              refine ol_val (v := .int .i64 (IntKind.i64.wrap (s7.2.1 + (shL .i64 1 s7.2.2)))) (by exact xr_assign rfl rfl) rfl rfl rfl ?_
              refine ol_nil ?_
              obtain rfl := Option.some.inj h
              refine thn_i ?_
              exact ⟨e1, e4, rfl, e6, rfl, b2, b18, fB⟩
            · refine cw_condF rfl c34 ?_
              refine cw_skip ?_
              obtain rfl := Option.some.inj h
              refine thn_i ?_
              exact ⟨e1, e4, e5, e6, rfl, b2, b18, fB⟩
          · rintro ρ36 w37 ⟨e1, e4, e5, e6, e7, b2, b18, fB⟩
            have h := h33
            obtain ⟨t38, k39, h⟩ := bs h
            obtain ⟨g41, h⟩ := gs h
            obtain ⟨t42, k43, h⟩ := bs h
            refine cw_drawL 10 [fun vz wz => vz = (sv s7.1 : Value), fun vz wz => vz = (.pointer (some ⟨G17, 1, none⟩) : Value), fun vz wz => vz = (.int .i64 ((Arr.get a0.Seats s7.2.2).Gen) : Value), fun vz wz => vz = (.int .u64 (IntKind.u64.wrap ((Arr.get a0.Seats s7.2.2).Gen)) : Value), fun vz wz => vz = (sv t38 : Value), fun vz wz => vz = (sv (s7.1 ++ t38) : Value), fun vz wz => vz = (.pointer (some ⟨G17, 2, none⟩) : Value), fun vz wz => vz = (.int .i64 ((Arr.get a0.Seats s7.2.2).Next) : Value), fun vz wz => vz = (.int .u64 (IntKind.u64.wrap ((Arr.get a0.Seats s7.2.2).Next)) : Value), fun vz wz => vz = (sv t42 : Value)] mo rfl ⟨fun _ _ _ h _ => h, fun _ _ _ h _ => h, fun _ _ _ h _ => h, fun _ _ _ h _ => h, fun _ _ _ h _ => h, fun _ _ _ h _ => h, fun _ _ _ h _ => h, fun _ _ _ h _ => h, fun _ _ _ h _ => h, fun _ _ _ h _ => h, trivial⟩ ?_ ?_
            · refine ⟨?_, ?_, ?_, ?_, ?_, ?_, ?_, ?_, ?_, ?_, trivial⟩
              · intro ρz wz hz hk hd
                exact sk_val (v := sv s7.1) (by exact xr_move rfl ((hk 4 rfl).trans e4)) rfl rfl
              · intro ρz wz hz hk hd
                exact sk_val (v := .pointer (some ⟨G17, 1, none⟩)) (by exact xr_fieldAddr (p := 0) (q := 1) rfl fl58_1 ((hk 7 rfl).trans e7)) rfl rfl
              · intro ρz wz hz hk hd
                have d26 := hd 1 rfl 26 rfl
                exact sk_val (v := .int .i64 ((Arr.get a0.Seats s7.2.2).Gen)) (by exact xr_load1 (v := .int .i64 ((Arr.get a0.Seats s7.2.2).Gen)) rfl ag3 d26 ((b18.gr hz).seg 1 rfl rfl)) rfl rfl
              · intro ρz wz hz hk hd
                have d27 := hd 2 rfl 27 rfl
                exact sk_val (by exact xr_conv rfl Try.underlying3 Try.underlying129 d27) rfl rfl
              · intro ρz wz hz hk hd
                have d28 := hd 3 rfl 28 rfl
                refine sk_op (by exact opv_call rfl cal99 (ac d28 (ac rfl an)) (rickyardref01_Lay.ok fu _ (IntKind.u64.wrap ((Arr.get a0.Seats s7.2.2).Gen)) 4 _ k39)) rfl ?_
                rintro _ wy ⟨rfl, q40⟩
                exact ⟨rfl, q40⟩
              · intro ρz wz hz hk hd
                have d25 := hd 0 rfl 25 rfl
                have d29 := hd 4 rfl 29 rfl
                exact sk_val (v := sv (s7.1 ++ t38)) (by exact xr_addStr rfl d25 d29 g41) rfl rfl
              · intro ρz wz hz hk hd
                exact sk_val (v := .pointer (some ⟨G17, 2, none⟩)) (by exact xr_fieldAddr (p := 0) (q := 2) rfl fl58_2 ((hk 7 rfl).trans e7)) rfl rfl
              · intro ρz wz hz hk hd
                have d31 := hd 6 rfl 31 rfl
                exact sk_val (v := .int .i64 ((Arr.get a0.Seats s7.2.2).Next)) (by exact xr_load1 (v := .int .i64 ((Arr.get a0.Seats s7.2.2).Next)) rfl ag3 d31 ((b18.gr hz).seg 2 rfl rfl)) rfl rfl
              · intro ρz wz hz hk hd
                have d32 := hd 7 rfl 32 rfl
                exact sk_val (by exact xr_conv rfl Try.underlying3 Try.underlying129 d32) rfl rfl
              · intro ρz wz hz hk hd
                have d33 := hd 8 rfl 33 rfl
                refine sk_op (by exact opv_call rfl cal99 (ac d33 (ac rfl an)) (rickyardref01_Lay.ok fu _ (IntKind.u64.wrap ((Arr.get a0.Seats s7.2.2).Next)) 4 _ k43)) rfl ?_
                rintro _ wy ⟨rfl, q44⟩
                exact ⟨rfl, q44⟩
            · intro ρ45 w46 q47 hk hd
              have e1 := (hk 1 rfl).trans e1
              have e5 := (hk 5 rfl).trans e5
              have e6 := (hk 6 rfl).trans e6
              have e30 := hd 5 rfl 30 rfl
              have e34 := hd 9 rfl 34 rfl
              have b2 := b2.gr q47
              have fB := fB.gr q47
              obtain ⟨g48, h⟩ := gs h
              refine ol_val (v := sv ((s7.1 ++ t38) ++ t42)) (by exact xr_addStr rfl e30 e34 g48) rfl rfl rfl ?_
              refine ol_val (v := sv ((s7.1 ++ t38) ++ t42)) (by exact xr_assign rfl rfl) rfl rfl rfl ?_
              refine ol_nil ?_
              refine blk_i ?_
              refine cw_region ?_
              refine ol_val (v := .int .i64 s7.2.2) (by exact xr_move rfl e6) rfl rfl rfl ?_
              refine ol_val (v := .int .i64 (IntKind.i64.wrap (s7.2.2 + 1))) (by exact xr_add rfl rfl rfl) rfl rfl rfl ?_
              refine ol_val (v := .int .i64 (IntKind.i64.wrap (s7.2.2 + 1))) (by exact xr_assign rfl rfl) rfl rfl rfl ?_
              refine ol_nil ?_
              obtain rfl := Option.some.inj h
              refine lp_in ?_
              exact ⟨e1, rfl, e5, rfl, b2, fB⟩
      · refine cw_condF rfl c15 ?_
        refine cw_exit ?_
        repeat (first | with_reducible refine thn_e ?_ | with_reducible refine blk_e rfl ?_)
        obtain rfl := Option.some.inj h
        refine lp_exit ?_
        rintro rfl
        refine thn_x ?_
        exact ⟨_, rfl, e4, e5, fB⟩
  · rintro ρ49 w50 ⟨x11, rfl, e4, e5, fB⟩
    have h := h10
    refine cw_seq ?_
    refine cw_region ?_
    refine ol_val (v := .int .i64 x11.2) (by exact xr_move rfl e5) rfl rfl rfl ?_
    refine ol_val (v := sv x11.1) (by exact xr_move rfl e4) rfl rfl rfl ?_
    obtain ⟨t51, k52, h⟩ := bs h
    refine ol_op (by exact opv_call rfl cal30 (ac rfl (ac rfl (ac rfl an))) (rickyardref07_Seal.ok fu _ 2 x11.2 x11.1 _ k52)) rfl rfl rfl ?_
    rintro _ w54 ⟨rfl, q53⟩
    have fB := fB.gr q53
    refine ol_val (v := sv t51) (by exact xr_assign rfl rfl) rfl rfl rfl ?_
    refine ol_val (v := .bool true) (by exact xr_assign rfl rfl) rfl rfl rfl ?_
    refine ol_nil ?_
    refine cw_ret ?_
    repeat (first | with_reducible refine thn_r ?_ | with_reducible refine blk_r ?_)
    obtain rfl := Option.some.inj h
    refine fin_ret2 Try.results50 rfl rfl ?_
    exact ⟨_, rfl, rfl, fB⟩
end Go.Proofs.Ytjhajfkfhdnciaa

/- rickyard/rickyardlaw09.PageLeaves: its model, and that the Go function computes it: written by gen.py. -/
set_option linter.unusedVariables false
namespace Go.Proofs.Ytjhajfkfhdnciaa
open Go Go.Xw
def rickyardlaw09_PageLeaves.s0 (fu : Nat) (a0 : S_api_Leaf) : (Int × Int) → Option (Sum (Sum Bool Int) (Int × Int)) := fun s12 => (if (decide (s12.2 < 7)) = true then (if 0 ≤ s12.2 ∧ s12.2 < 7 then ((page_RightSeat.f fu (Arr.get a0.Seats s12.2) : Option Bool).bind fun t22 => (if 0 ≤ s12.2 ∧ s12.2 < 7 then ((rickyardref09_Seat.f fu (Arr.get a0.Seats s12.2) : Option Bool).bind fun t29 => (if (!decide (t22 = t29)) = true then some (Sum.inl (Sum.inl (false))) else (if 0 ≤ s12.2 ∧ s12.2 < 7 then (((if (Arr.get a0.Seats s12.2).Live = true then some ((IntKind.i64.wrap (s12.1 + 1))) else some (s12.1)) : Option Int).bind fun x35 => some (Sum.inr (x35, (IntKind.i64.wrap (s12.2 + 1))))) else none))) else none)) else none) else some (Sum.inl (Sum.inr (s12.1))))
def rickyardlaw09_PageLeaves.f (fu : Nat) (a0 : S_api_Leaf) : Option Bool := ((rickyardlaw09_awake.f fu : Option Bool).bind fun t7 => (if (!t7) = true then some (false) else ((loopM (rickyardlaw09_PageLeaves.s0 fu a0) fu (0, 0)).bind fun e13 => match e13 with | Sum.inl p => some p | Sum.inr x16 => ((page_PutLeaf.f fu a0 : Option ((List Int) × Bool)).bind fun t43 => ((rickyardref09_Leaf.f fu a0 : Option ((List UInt8) × Bool)).bind fun t50 => ((page_GetLeaf.f fu t43.1 : Option (S_api_Leaf × Bool)).bind fun t54 => (((if (decide (t43.2 = t50.2)) = true then (if (decide ((List.map toB t43.1) = t50.1)) = true then (if (decide (t54.2 = t50.2)) = true then (if (!t54.2) = true then ((page_Lives.f fu a0 : Option Int).bind fun t74 => some ((decide (t74 = x16)))) else (if (decide (t54.1 = a0)) = true then ((page_Lives.f fu a0 : Option Int).bind fun t79 => some ((decide (t79 = x16)))) else some (false))) else some (false)) else some (false)) else some (false)) : Option Bool).bind fun x68 => some (x68))))))))
set_option maxRecDepth 100000 in
set_option maxHeartbeats 400000 in
theorem rickyardlaw09_PageLeaves.ok (fu : Nat) (w : World) (a0 : S_api_Leaf) (r : Bool) (h : rickyardlaw09_PageLeaves.f fu a0 = some r) :
    Calls Try.prog 11 (([aggV [Kd.seg (kA 7 k_api_Seat) a0.Seats]] : List Value).toArray) w (fun e w' => ∃ v, e = .returned v ∧ v = .bool r ∧ Gr w w') := by
  unfold rickyardlaw09_PageLeaves.f at h
  have fB : Gr w w := Fr.refl _ _
  refine calls_cw Try.func11 rfl Try.ntmps11 rfl ?_
  refine cw_seq ?_
  refine cw_region ?_
  refine ol_op (by exact opv_box (ss := [Kd.seg (kA 7 k_api_Seat) a0.Seats]) rfl rfl rfl) rfl rfl rfl ?_
  rintro _ w6 ⟨G1, rfl, b2, q3, z4⟩
  have z4 := Nat.le_trans fB.size z4
  have fB := fB.gr q3
  refine ol_val (v := .bool false) (by exact xr_assign rfl rfl) rfl rfl rfl ?_
  refine ol_nil ?_
  refine cw_seq ?_
  refine cw_seq ?_
  refine cw_region ?_
  obtain ⟨t7, k8, h⟩ := bs h
  refine ol_op (by exact opv_call rfl cal46 an (rickyardlaw09_awake.ok fu _ _ k8)) rfl rfl rfl ?_
  rintro _ w10 ⟨rfl, q9⟩
  have b2 := b2.gr q9
  have fB := fB.gr q9
  refine ol_val (v := .bool (!t7)) (by exact xr_not rfl rfl) rfl rfl rfl ?_
  refine ol_nil ?_
  rcases is h with ⟨c11, h⟩ | ⟨c11, h⟩
  · refine cw_condT rfl c11 ?_
    refine cw_seq ?_
    refine cw_region ?_
    refine ol_val (v := .bool false) (by exact xr_assign rfl rfl) rfl rfl rfl ?_
    refine ol_nil ?_
    refine cw_ret ?_
    repeat (first | with_reducible refine thn_r ?_ | with_reducible refine blk_r ?_)
    obtain rfl := Option.some.inj h
    refine fin_ret1 Try.results11 rfl ?_
    exact ⟨_, rfl, rfl, fB⟩
  · refine cw_condF rfl c11 ?_
    refine cw_skip ?_
    refine cw_seq ?_
    refine cw_region ?_
    refine ol_val (v := .int .i64 0) (by exact xr_assign rfl rfl) rfl rfl rfl ?_
    refine ol_nil ?_
    refine cw_seq ?_
    refine cw_seq ?_
    refine cw_region ?_
    refine ol_val (v := .int .i64 0) (by exact xr_assign rfl rfl) rfl rfl rfl ?_
    refine ol_nil ?_
    obtain ⟨e13, l14, h15⟩ := bs h
    refine cw_mid (fun ρ' w' => ∃ x16, e13 = Sum.inr x16 ∧ ρ' 1 = .pointer (some ⟨G1, 0, none⟩) ∧ ρ' 3 = .int .i64 x16 ∧ Blk w' G1 61 [Kd.seg (kA 7 k_api_Seat) a0.Seats] ∧ Gr w w') ?_ ?_
    · refine cw_block ?_
      refine cw_round (fun (s12 : Int × Int) ρ' w' => ρ' 1 = .pointer (some ⟨G1, 0, none⟩) ∧ ρ' 3 = .int .i64 s12.1 ∧ ρ' 4 = .int .i64 s12.2 ∧ Blk w' G1 61 [Kd.seg (kA 7 k_api_Seat) a0.Seats] ∧ Gr w w') l14 ?_ ?_
      · skip
        exact ⟨rfl, rfl, rfl, b2, fB⟩
      · rintro s12 x19 ρ17 w18 ⟨e1, e3, e4, b2, fB⟩ h
        unfold rickyardlaw09_PageLeaves.s0 at h
        refine cw_seq ?_
        refine cw_seq ?_
        refine cw_region ?_
        refine ol_val (v := .int .i64 s12.2) (by exact xr_move rfl e4) rfl rfl rfl ?_
        refine ol_val (v := .bool (decide (s12.2 < 7))) (by exact xr_lss rfl rfl rfl) rfl rfl rfl ?_
        refine ol_nil ?_
        rcases is h with ⟨c20, h⟩ | ⟨c20, h⟩
        · refine cw_condT rfl c20 ?_
          refine cw_skip ?_
          refine cw_seq ?_
          refine cw_block ?_
          refine cw_seq ?_
          refine cw_seq ?_
          obtain ⟨g21, h⟩ := gs h
          obtain ⟨t22, k23, h⟩ := bs h
          obtain ⟨g25, h⟩ := gs h
          refine cw_drawL 9 [fun vz wz => vz = (.int .i64 s12.2 : Value), fun vz wz => vz = (.pointer (some ⟨G1, 0, none⟩) : Value), fun vz wz => vz = (.pointer (some ⟨G1, 0 + Int.toNat s12.2 * 3, none⟩) : Value), fun vz wz => vz = (aggV [Seg.cell (.bool ((Arr.get a0.Seats s12.2).Live)), Seg.cell (.int .i64 ((Arr.get a0.Seats s12.2).Gen)), Seg.cell (.int .i64 ((Arr.get a0.Seats s12.2).Next))] : Value), fun vz wz => vz = (.bool t22 : Value), fun vz wz => vz = (.int .i64 s12.2 : Value), fun vz wz => vz = (.pointer (some ⟨G1, 0, none⟩) : Value), fun vz wz => vz = (.pointer (some ⟨G1, 0 + Int.toNat s12.2 * 3, none⟩) : Value), fun vz wz => vz = (aggV [Seg.cell (.bool ((Arr.get a0.Seats s12.2).Live)), Seg.cell (.int .i64 ((Arr.get a0.Seats s12.2).Gen)), Seg.cell (.int .i64 ((Arr.get a0.Seats s12.2).Next))] : Value)] mo rfl ⟨fun _ _ _ h _ => h, fun _ _ _ h _ => h, fun _ _ _ h _ => h, fun _ _ _ h _ => h, fun _ _ _ h _ => h, fun _ _ _ h _ => h, fun _ _ _ h _ => h, fun _ _ _ h _ => h, fun _ _ _ h _ => h, trivial⟩ ?_ ?_
          · refine ⟨?_, ?_, ?_, ?_, ?_, ?_, ?_, ?_, ?_, trivial⟩
            · intro ρz wz hz hk hd
              exact sk_val (v := .int .i64 s12.2) (by exact xr_move rfl ((hk 4 rfl).trans e4)) rfl rfl
            · intro ρz wz hz hk hd
              exact sk_val (v := .pointer (some ⟨G1, 0, none⟩)) (by exact xr_fieldAddr (p := 0) (q := 0) rfl fl61_0 ((hk 1 rfl).trans e1)) rfl rfl
            · intro ρz wz hz hk hd
              have d18 := hd 1 rfl 18 rfl
              have d17 := hd 0 rfl 17 rfl
              exact sk_val (v := .pointer (some ⟨G1, 0 + Int.toNat s12.2 * 3, none⟩)) (by exact xr_indexA (p := 0) (s := 3) rfl Try.underlying59 sz58 d18 d17 g21.1 g21.2) rfl rfl
            · intro ρz wz hz hk hd
              have d19 := hd 2 rfl 19 rfl
              exact sk_val (by exact xr_loadS (ss := [Seg.cell (.bool ((Arr.get a0.Seats s12.2).Live)), Seg.cell (.int .i64 ((Arr.get a0.Seats s12.2).Gen)), Seg.cell (.int .i64 ((Arr.get a0.Seats s12.2).Next))]) rfl ag58 sz58 rfl d19 (At.arr (a := a0.Seats) ((b2.gr hz).seg 0 rfl rfl) g21.1 g21.2)) rfl rfl
            · intro ρz wz hz hk hd
              have d20 := hd 3 rfl 20 rfl
              refine sk_op (by exact opv_call rfl cal47 (ac d20 an) (page_RightSeat.ok fu _ (Arr.get a0.Seats s12.2) _ k23)) rfl ?_
              rintro _ wy ⟨rfl, q24⟩
              exact ⟨rfl, q24⟩
            · intro ρz wz hz hk hd
              exact sk_val (v := .int .i64 s12.2) (by exact xr_move rfl ((hk 4 rfl).trans e4)) rfl rfl
            · intro ρz wz hz hk hd
              exact sk_val (v := .pointer (some ⟨G1, 0, none⟩)) (by exact xr_fieldAddr (p := 0) (q := 0) rfl fl61_0 ((hk 1 rfl).trans e1)) rfl rfl
            · intro ρz wz hz hk hd
              have d23 := hd 6 rfl 23 rfl
              have d22 := hd 5 rfl 22 rfl
              exact sk_val (v := .pointer (some ⟨G1, 0 + Int.toNat s12.2 * 3, none⟩)) (by exact xr_indexA (p := 0) (s := 3) rfl Try.underlying59 sz58 d23 d22 g25.1 g25.2) rfl rfl
            · intro ρz wz hz hk hd
              have d24 := hd 7 rfl 24 rfl
              exact sk_val (by exact xr_loadS (ss := [Seg.cell (.bool ((Arr.get a0.Seats s12.2).Live)), Seg.cell (.int .i64 ((Arr.get a0.Seats s12.2).Gen)), Seg.cell (.int .i64 ((Arr.get a0.Seats s12.2).Next))]) rfl ag58 sz58 rfl d24 (At.arr (a := a0.Seats) ((b2.gr hz).seg 0 rfl rfl) g25.1 g25.2)) rfl rfl
          · intro ρ26 w27 q28 hk hd
            have e1 := (hk 1 rfl).trans e1
            have e3 := (hk 3 rfl).trans e3
            have e4 := (hk 4 rfl).trans e4
            have e21 := hd 4 rfl 21 rfl
            have e25 := hd 8 rfl 25 rfl
            have b2 := b2.gr q28
            have fB := fB.gr q28
            obtain ⟨t29, k30, h⟩ := bs h
            refine ol_op (by exact opv_call rfl cal48 (ac e25 an) (rickyardref09_Seat.ok fu _ (Arr.get a0.Seats s12.2) _ k30)) rfl rfl rfl ?_
            rintro _ w32 ⟨rfl, q31⟩
            have b2 := b2.gr q31
            have fB := fB.gr q31
            refine ol_val (v := .bool (!decide (t22 = t29))) (by exact xr_neB rfl Try.underlying4 e21 rfl) rfl rfl rfl ?_
            refine ol_nil ?_
            rcases is h with ⟨c33, h⟩ | ⟨c33, h⟩
            · refine cw_condT rfl c33 ?_
              refine cw_seq ?_
              refine cw_region ?_
              refine ol_val (v := .bool false) (by exact xr_assign rfl rfl) rfl rfl rfl ?_
              refine ol_nil ?_
              refine cw_ret ?_
              repeat (first | with_reducible refine thn_r ?_ | with_reducible refine blk_r ?_)
              obtain rfl := Option.some.inj h
              refine lp_ret ?_
              rintro rfl
              repeat (first | with_reducible refine thn_r ?_ | with_reducible refine blk_r ?_)
              have h := h15
              obtain rfl := Option.some.inj h
              refine fin_ret1 Try.results11 rfl ?_
              exact ⟨_, rfl, rfl, fB⟩
            · refine cw_condF rfl c33 ?_
              refine cw_skip ?_
              refine cw_seq ?_
              refine cw_region ?_
              refine ol_val (v := .int .i64 s12.2) (by exact xr_move rfl e4) rfl rfl rfl ?_
              refine ol_val (v := .pointer (some ⟨G1, 0, none⟩)) (by exact xr_fieldAddr (p := 0) (q := 0) rfl fl61_0 e1) rfl rfl rfl ?_
              obtain ⟨g34, h⟩ := gs h
              refine ol_val (v := .pointer (some ⟨G1, 0 + Int.toNat s12.2 * 3, none⟩)) (by exact xr_indexA (p := 0) (s := 3) rfl Try.underlying59 sz58 rfl rfl g34.1 g34.2) rfl rfl rfl ?_
              refine ol_val (v := .pointer (some ⟨G1, 0 + Int.toNat s12.2 * 3 + 0, none⟩)) (by exact xr_fieldAddr (p := 0 + Int.toNat s12.2 * 3) (q := 0) rfl fl58_0 rfl) rfl rfl rfl ?_
              refine ol_val (v := .bool ((Arr.get a0.Seats s12.2).Live)) (by exact xr_load1 (v := .bool ((Arr.get a0.Seats s12.2).Live)) rfl ag4 rfl (At.segs (ss := segs_api_Seat (Arr.get a0.Seats s12.2)) (At.arr (a := a0.Seats) (b2.seg 0 rfl rfl) g34.1 g34.2) 0 1 rfl)) rfl rfl rfl ?_
              refine ol_nil ?_
              obtain ⟨x35, j36, h37⟩ := bs h
              refine cw_mid (fun ρ' w' => ρ' 1 = .pointer (some ⟨G1, 0, none⟩) ∧ ρ' 3 = .int .i64 x35 ∧ ρ' 4 = .int .i64 s12.2 ∧ Blk w' G1 61 [Kd.seg (kA 7 k_api_Seat) a0.Seats] ∧ Gr w w') ?_ ?_
              · have h := j36
                rcases is h with ⟨c38, h⟩ | ⟨c38, h⟩
                · refine cw_condT rfl c38 ?_
                  refine cw_region ?_
                  refine ol_val (v := .int .i64 s12.1) (by exact xr_move rfl e3) rfl rfl rfl ?_
                  refine ol_val (v := .int .i64 (IntKind.i64.wrap (s12.1 + 1))) (by exact xr_add rfl rfl rfl) rfl rfl rfl ?_
                  refine ol_val (v := .int .i64 (IntKind.i64.wrap (s12.1 + 1))) (by exact xr_assign rfl rfl) rfl rfl rfl ?_
                  refine ol_nil ?_
                  obtain rfl := Option.some.inj h
                  refine thn_i ?_
                  exact ⟨e1, rfl, e4, b2, fB⟩
                · refine cw_condF rfl c38 ?_
                  refine cw_skip ?_
                  obtain rfl := Option.some.inj h
                  refine thn_i ?_
                  exact ⟨e1, e3, e4, b2, fB⟩
              · rintro ρ39 w40 ⟨e1, e3, e4, b2, fB⟩
                have h := h37
                refine blk_i ?_
                refine cw_region ?_
                refine ol_val (v := .int .i64 s12.2) (by exact xr_move rfl e4) rfl rfl rfl ?_
                refine ol_val (v := .int .i64 (IntKind.i64.wrap (s12.2 + 1))) (by exact xr_add rfl rfl rfl) rfl rfl rfl ?_
                refine ol_val (v := .int .i64 (IntKind.i64.wrap (s12.2 + 1))) (by exact xr_assign rfl rfl) rfl rfl rfl ?_
                refine ol_nil ?_
                obtain rfl := Option.some.inj h
                refine lp_in ?_
                exact ⟨e1, e3, rfl, b2, fB⟩
        · refine cw_condF rfl c20 ?_
          refine cw_exit ?_
          repeat (first | with_reducible refine thn_e ?_ | with_reducible refine blk_e rfl ?_)
          obtain rfl := Option.some.inj h
          refine lp_exit ?_
          rintro rfl
          refine thn_x ?_
          exact ⟨_, rfl, e1, e3, b2, fB⟩
    · rintro ρ41 w42 ⟨x16, rfl, e1, e3, b2, fB⟩
      have h := h15
      refine cw_seq ?_
      refine cw_region ?_
      refine ol_val (v := aggV [Kd.seg (kA 7 k_api_Seat) a0.Seats]) (by exact xr_loadS (ss := [Kd.seg (kA 7 k_api_Seat) a0.Seats]) rfl ag61 sz61 rfl e1 (b2.segs 0 1 rfl)) rfl rfl rfl ?_
      obtain ⟨t43, k44, h⟩ := bs h
      refine ol_op (by exact opv_call rfl cal49 (ac rfl an) (page_PutLeaf.ok fu _ a0 _ k44)) rfl rfl rfl ?_
      rintro _ w49 ⟨u45, o46, rfl, q48⟩
      have o46 := Own.base o46 fB.size
      have b2 := b2.gr q48
      have fB := fB.gr q48
      refine ol_val (v := .tuple #[u45, .bool t43.2]) (by exact xr_move rfl rfl) rfl rfl rfl ?_
      refine ol_val (v := u45) (by exact xr_extract rfl rfl rfl) rfl rfl rfl ?_
      refine ol_val (v := .bool t43.2) (by exact xr_extract rfl rfl rfl) rfl rfl rfl ?_
      refine ol_val (v := u45) (by exact xr_assign rfl rfl) rfl rfl rfl ?_
      refine ol_val (v := .bool t43.2) (by exact xr_assign rfl rfl) rfl rfl rfl ?_
      refine ol_nil ?_
      refine cw_seq ?_
      refine cw_region ?_
      refine ol_val (v := aggV [Kd.seg (kA 7 k_api_Seat) a0.Seats]) (by exact xr_loadS (ss := [Kd.seg (kA 7 k_api_Seat) a0.Seats]) rfl ag61 sz61 rfl e1 (b2.segs 0 1 rfl)) rfl rfl rfl ?_
      obtain ⟨t50, k51, h⟩ := bs h
      refine ol_op (by exact opv_call rfl cal50 (ac rfl an) (rickyardref09_Leaf.ok fu _ a0 _ k51)) rfl rfl rfl ?_
      rintro _ w53 ⟨rfl, q52⟩
      have b2 := b2.gr q52
      have o46 := o46.gr q52
      have fB := fB.gr q52
      refine ol_val (v := .tuple #[sv t50.1, .bool t50.2]) (by exact xr_move rfl rfl) rfl rfl rfl ?_
      refine ol_val (v := sv t50.1) (by exact xr_extract rfl rfl rfl) rfl rfl rfl ?_
      refine ol_val (v := .bool t50.2) (by exact xr_extract rfl rfl rfl) rfl rfl rfl ?_
      refine ol_val (v := sv t50.1) (by exact xr_assign rfl rfl) rfl rfl rfl ?_
      refine ol_val (v := .bool t50.2) (by exact xr_assign rfl rfl) rfl rfl rfl ?_
      refine ol_nil ?_
      refine cw_seq ?_
      refine cw_region ?_
      refine ol_val (v := u45) (by exact xr_move rfl rfl) rfl rfl rfl ?_
      obtain ⟨t54, k55, h⟩ := bs h
      refine ol_op (by exact opv_call rfl cal51 (ac rfl an) (page_GetLeaf.ok fu _ t43.1 u45 (o46.rd) _ k55)) rfl rfl rfl ?_
      rintro _ w57 ⟨rfl, q56⟩
      have b2 := b2.gr q56
      have o46 := o46.gr q56
      have fB := fB.gr q56
      refine ol_val (v := .tuple #[aggV [Kd.seg (kA 7 k_api_Seat) t54.1.Seats], .bool t54.2]) (by exact xr_move rfl rfl) rfl rfl rfl ?_
      refine ol_val (v := aggV [Kd.seg (kA 7 k_api_Seat) t54.1.Seats]) (by exact xr_extract rfl rfl rfl) rfl rfl rfl ?_
      refine ol_val (v := .bool t54.2) (by exact xr_extract rfl rfl rfl) rfl rfl rfl ?_
      refine ol_op (by exact opv_alloc (ss := [Kd.seg (kA 7 k_api_Seat) (Arr.rep 7 (⟨false, (0 : Int), (0 : Int)⟩ : S_api_Seat))]) rfl ze61 rfl) rfl rfl rfl ?_
      rintro _ w63 ⟨G58, rfl, b59, q60, z61⟩
      have n64 := Blk.ne b2 z61
      have z61 := Nat.le_trans fB.size z61
      have b2 := b2.gr q60
      have o46 := o46.gr q60
      have fB := fB.gr q60
      have f66 := off_ty b59 o46 (by decide)
      refine ol_op0 (by exact opv_store (ss' := [Kd.seg (kA 7 k_api_Seat) t54.1.Seats]) (xs := cellsOf [Kd.seg (kA 7 k_api_Seat) t54.1.Seats]) rfl sz61 rfl rfl rfl (len_cellsOf _) (one_cellsOf _) b59 (Spl.segs _ 0 1 [Kd.seg (kA 7 k_api_Seat) t54.1.Seats] rfl rfl)) rfl rfl ?_
      rintro _ w67 ⟨b59, q65⟩
      have b2 := b2.wr q65 n64
      have o46 := o46.wr q65 f66
      have fB := fB.wr q65 z61
      refine ol_val (v := .bool t54.2) (by exact xr_assign rfl rfl) rfl rfl rfl ?_
      refine ol_nil ?_
      refine cw_seq ?_
      obtain ⟨x68, j69, h⟩ := bs h
      refine cw_mid (fun ρ' w' => ρ' 2 = .bool x68 ∧ Gr w67 w') ?_ ?_
      · skip
        refine cw_region ?_
        refine ol_val (v := .bool t43.2) (by exact xr_move rfl rfl) rfl rfl rfl ?_
        refine ol_val (v := .bool t50.2) (by exact xr_move rfl rfl) rfl rfl rfl ?_
        refine ol_val (v := .bool (decide (t43.2 = t50.2))) (by exact xr_eqB rfl Try.underlying4 rfl rfl) rfl rfl rfl ?_
        refine ol_val (v := .bool (decide (t43.2 = t50.2))) (by exact xr_move rfl rfl) rfl rfl rfl ?_
        rcases is j69 with ⟨c70, j69⟩ | ⟨c70, j69⟩
        · skip
          refine ol_gval (v := u45) (by exact xr_move rfl rfl) rfl rfl rfl rfl rfl c70 ?_
          refine ol_gval (v := sv (List.map toB t43.1)) (by exact xr_toStr rfl Try.underlying22 Try.underlying5 Try.underlying9 rfl o46.rd) rfl rfl rfl rfl rfl c70 ?_
          refine ol_gval (v := sv t50.1) (by exact xr_move rfl rfl) rfl rfl rfl rfl rfl c70 ?_
          refine ol_gval (v := .bool (decide ((List.map toB t43.1) = t50.1))) (by exact xr_eqStr rfl Try.underlying9 rfl rfl) rfl rfl rfl rfl rfl c70 ?_
          refine ol_val (v := .bool (decide ((List.map toB t43.1) = t50.1))) (by exact xr_pickT rfl rfl c70 rfl) rfl rfl rfl ?_
          refine ol_val (v := .bool (decide ((List.map toB t43.1) = t50.1))) (by exact xr_move rfl rfl) rfl rfl rfl ?_
          rcases is j69 with ⟨c71, j69⟩ | ⟨c71, j69⟩
          · skip
            refine ol_gval (v := .bool t54.2) (by exact xr_move rfl rfl) rfl rfl rfl rfl rfl c71 ?_
            refine ol_gval (v := .bool t50.2) (by exact xr_move rfl rfl) rfl rfl rfl rfl rfl c71 ?_
            refine ol_gval (v := .bool (decide (t54.2 = t50.2))) (by exact xr_eqB rfl Try.underlying4 rfl rfl) rfl rfl rfl rfl rfl c71 ?_
            refine ol_val (v := .bool (decide (t54.2 = t50.2))) (by exact xr_pickT rfl rfl c71 rfl) rfl rfl rfl ?_
            refine ol_val (v := .bool (decide (t54.2 = t50.2))) (by exact xr_move rfl rfl) rfl rfl rfl ?_
            rcases is j69 with ⟨c72, j69⟩ | ⟨c72, j69⟩
            · skip
              refine ol_gval (v := .bool t54.2) (by exact xr_move rfl rfl) rfl rfl rfl rfl rfl c72 ?_
              refine ol_gval (v := .bool (!t54.2)) (by exact xr_not rfl rfl) rfl rfl rfl rfl rfl c72 ?_
              refine ol_gval (v := .bool (!t54.2)) (by exact xr_move rfl rfl) rfl rfl rfl rfl rfl c72 ?_
              rcases is j69 with ⟨c73, j69⟩ | ⟨c73, j69⟩
              · skip
                refine ol_gskip rfl rfl rfl rfl rfl c73 ?_
                refine ol_gskip rfl rfl rfl rfl rfl c73 ?_
                refine ol_gskip rfl rfl rfl rfl rfl c73 ?_
                refine ol_gval (v := .bool true) (by exact xr_pickT rfl rfl c73 rfl) rfl rfl rfl rfl rfl c72 ?_
                refine ol_val (v := .bool true) (by exact xr_pickT rfl rfl c72 rfl) rfl rfl rfl ?_
                refine ol_val (v := .bool true) (by exact xr_move rfl rfl) rfl rfl rfl ?_
                refine ol_gval (v := aggV [Kd.seg (kA 7 k_api_Seat) a0.Seats]) (by exact xr_loadS (ss := [Kd.seg (kA 7 k_api_Seat) a0.Seats]) rfl ag61 sz61 rfl e1 (b2.segs 0 1 rfl)) rfl rfl rfl rfl rfl rfl ?_
                obtain ⟨t74, k75, j69⟩ := bs j69
                refine ol_gop (by exact opv_call rfl cal52 (ac rfl an) (page_Lives.ok fu _ a0 _ k75)) rfl rfl rfl rfl rfl rfl ?_
                rintro _ w77 ⟨rfl, q76⟩
                have fB := fB.gr q76
                refine ol_gval (v := .int .i64 x16) (by exact xr_move rfl e3) rfl rfl rfl rfl rfl rfl ?_
                refine ol_gval (v := .bool (decide (t74 = x16))) (by exact xr_eqI rfl Try.underlying3 rfl rfl rfl) rfl rfl rfl rfl rfl rfl ?_
                refine ol_val (v := .bool (decide (t74 = x16))) (by exact xr_pickT rfl rfl rfl rfl) rfl rfl rfl ?_
                refine ol_val (v := .bool (decide (t74 = x16))) (by exact xr_assign rfl rfl) rfl rfl rfl ?_
                refine ol_nil ?_
                obtain rfl := Option.some.inj j69
                refine thn_i ?_
                exact ⟨rfl, q76⟩
              · skip
                refine ol_gval (v := aggV [Kd.seg (kA 7 k_api_Seat) t54.1.Seats]) (by exact xr_loadS (ss := [Kd.seg (kA 7 k_api_Seat) t54.1.Seats]) rfl ag61 sz61 rfl rfl (b59.segs 0 1 rfl)) rfl rfl rfl rfl rfl c73 ?_
                refine ol_gval (v := aggV [Kd.seg (kA 7 k_api_Seat) a0.Seats]) (by exact xr_loadS (ss := [Kd.seg (kA 7 k_api_Seat) a0.Seats]) rfl ag61 sz61 rfl e1 (b2.segs 0 1 rfl)) rfl rfl rfl rfl rfl c73 ?_
                refine ol_gval (v := .bool (decide (t54.1 = a0))) (by exact xr_eqA (a := t54.1) (b := a0) rfl eqa61 rfl Try.eqGuardType60 rfl rfl rfl rfl) rfl rfl rfl rfl rfl c73 ?_
                refine ol_gval (v := .bool (decide (t54.1 = a0))) (by exact xr_pickF rfl rfl c73 rfl) rfl rfl rfl rfl rfl c72 ?_
                refine ol_val (v := .bool (decide (t54.1 = a0))) (by exact xr_pickT rfl rfl c72 rfl) rfl rfl rfl ?_
                refine ol_val (v := .bool (decide (t54.1 = a0))) (by exact xr_move rfl rfl) rfl rfl rfl ?_
                rcases is j69 with ⟨c78, j69⟩ | ⟨c78, j69⟩
                · skip
                  refine ol_gval (v := aggV [Kd.seg (kA 7 k_api_Seat) a0.Seats]) (by exact xr_loadS (ss := [Kd.seg (kA 7 k_api_Seat) a0.Seats]) rfl ag61 sz61 rfl e1 (b2.segs 0 1 rfl)) rfl rfl rfl rfl rfl c78 ?_
                  obtain ⟨t79, k80, j69⟩ := bs j69
                  refine ol_gop (by exact opv_call rfl cal52 (ac rfl an) (page_Lives.ok fu _ a0 _ k80)) rfl rfl rfl rfl rfl c78 ?_
                  rintro _ w82 ⟨rfl, q81⟩
                  have fB := fB.gr q81
                  refine ol_gval (v := .int .i64 x16) (by exact xr_move rfl e3) rfl rfl rfl rfl rfl c78 ?_
                  refine ol_gval (v := .bool (decide (t79 = x16))) (by exact xr_eqI rfl Try.underlying3 rfl rfl rfl) rfl rfl rfl rfl rfl c78 ?_
                  refine ol_val (v := .bool (decide (t79 = x16))) (by exact xr_pickT rfl rfl c78 rfl) rfl rfl rfl ?_
                  refine ol_val (v := .bool (decide (t79 = x16))) (by exact xr_assign rfl rfl) rfl rfl rfl ?_
                  refine ol_nil ?_
                  obtain rfl := Option.some.inj j69
                  refine thn_i ?_
                  exact ⟨rfl, q81⟩
                · skip
                  refine ol_gskip rfl rfl rfl rfl rfl c78 ?_
                  refine ol_gskip rfl rfl rfl rfl rfl c78 ?_
                  refine ol_gskip rfl rfl rfl rfl rfl c78 ?_
                  refine ol_gskip rfl rfl rfl rfl rfl c78 ?_
                  refine ol_val (v := .bool false) (by exact xr_pickF rfl rfl c78 rfl) rfl rfl rfl ?_
                  refine ol_val (v := .bool false) (by exact xr_assign rfl rfl) rfl rfl rfl ?_
                  refine ol_nil ?_
                  obtain rfl := Option.some.inj j69
                  refine thn_i ?_
                  exact ⟨rfl, Fr.refl _ _⟩
            · skip
              refine ol_gskip rfl rfl rfl rfl rfl c72 ?_
              refine ol_gskip rfl rfl rfl rfl rfl c72 ?_
              refine ol_gskip rfl rfl rfl rfl rfl c72 ?_
              refine ol_uskip rfl rfl rfl rfl rfl ?_
              refine ol_uskip rfl rfl rfl rfl rfl ?_
              refine ol_uskip rfl rfl rfl rfl rfl ?_
              refine ol_gskip rfl rfl rfl rfl rfl c72 ?_
              refine ol_val (v := .bool false) (by exact xr_pickF rfl rfl c72 rfl) rfl rfl rfl ?_
              refine ol_val (v := .bool false) (by exact xr_move rfl rfl) rfl rfl rfl ?_
              refine ol_gskip rfl rfl rfl rfl rfl rfl ?_
              refine ol_gskip rfl rfl rfl rfl rfl rfl ?_
              refine ol_gskip rfl rfl rfl rfl rfl rfl ?_
              refine ol_gskip rfl rfl rfl rfl rfl rfl ?_
              refine ol_val (v := .bool false) (by exact xr_pickF rfl rfl rfl rfl) rfl rfl rfl ?_
              refine ol_val (v := .bool false) (by exact xr_assign rfl rfl) rfl rfl rfl ?_
              refine ol_nil ?_
              obtain rfl := Option.some.inj j69
              refine thn_i ?_
              exact ⟨rfl, Fr.refl _ _⟩
          · skip
            refine ol_gskip rfl rfl rfl rfl rfl c71 ?_
            refine ol_gskip rfl rfl rfl rfl rfl c71 ?_
            refine ol_gskip rfl rfl rfl rfl rfl c71 ?_
            refine ol_val (v := .bool false) (by exact xr_pickF rfl rfl c71 rfl) rfl rfl rfl ?_
            refine ol_val (v := .bool false) (by exact xr_move rfl rfl) rfl rfl rfl ?_
            refine ol_gskip rfl rfl rfl rfl rfl rfl ?_
            refine ol_gskip rfl rfl rfl rfl rfl rfl ?_
            refine ol_gskip rfl rfl rfl rfl rfl rfl ?_
            refine ol_uskip rfl rfl rfl rfl rfl ?_
            refine ol_uskip rfl rfl rfl rfl rfl ?_
            refine ol_uskip rfl rfl rfl rfl rfl ?_
            refine ol_gskip rfl rfl rfl rfl rfl rfl ?_
            refine ol_val (v := .bool false) (by exact xr_pickF rfl rfl rfl rfl) rfl rfl rfl ?_
            refine ol_val (v := .bool false) (by exact xr_move rfl rfl) rfl rfl rfl ?_
            refine ol_gskip rfl rfl rfl rfl rfl rfl ?_
            refine ol_gskip rfl rfl rfl rfl rfl rfl ?_
            refine ol_gskip rfl rfl rfl rfl rfl rfl ?_
            refine ol_gskip rfl rfl rfl rfl rfl rfl ?_
            refine ol_val (v := .bool false) (by exact xr_pickF rfl rfl rfl rfl) rfl rfl rfl ?_
            refine ol_val (v := .bool false) (by exact xr_assign rfl rfl) rfl rfl rfl ?_
            refine ol_nil ?_
            obtain rfl := Option.some.inj j69
            refine thn_i ?_
            exact ⟨rfl, Fr.refl _ _⟩
        · skip
          refine ol_gskip rfl rfl rfl rfl rfl c70 ?_
          refine ol_gskip rfl rfl rfl rfl rfl c70 ?_
          refine ol_gskip rfl rfl rfl rfl rfl c70 ?_
          refine ol_gskip rfl rfl rfl rfl rfl c70 ?_
          refine ol_val (v := .bool false) (by exact xr_pickF rfl rfl c70 rfl) rfl rfl rfl ?_
          refine ol_val (v := .bool false) (by exact xr_move rfl rfl) rfl rfl rfl ?_
          refine ol_gskip rfl rfl rfl rfl rfl rfl ?_
          refine ol_gskip rfl rfl rfl rfl rfl rfl ?_
          refine ol_gskip rfl rfl rfl rfl rfl rfl ?_
          refine ol_val (v := .bool false) (by exact xr_pickF rfl rfl rfl rfl) rfl rfl rfl ?_
          refine ol_val (v := .bool false) (by exact xr_move rfl rfl) rfl rfl rfl ?_
          refine ol_gskip rfl rfl rfl rfl rfl rfl ?_
          refine ol_gskip rfl rfl rfl rfl rfl rfl ?_
          refine ol_gskip rfl rfl rfl rfl rfl rfl ?_
          refine ol_uskip rfl rfl rfl rfl rfl ?_
          refine ol_uskip rfl rfl rfl rfl rfl ?_
          refine ol_uskip rfl rfl rfl rfl rfl ?_
          refine ol_gskip rfl rfl rfl rfl rfl rfl ?_
          refine ol_val (v := .bool false) (by exact xr_pickF rfl rfl rfl rfl) rfl rfl rfl ?_
          refine ol_val (v := .bool false) (by exact xr_move rfl rfl) rfl rfl rfl ?_
          refine ol_gskip rfl rfl rfl rfl rfl rfl ?_
          refine ol_gskip rfl rfl rfl rfl rfl rfl ?_
          refine ol_gskip rfl rfl rfl rfl rfl rfl ?_
          refine ol_gskip rfl rfl rfl rfl rfl rfl ?_
          refine ol_val (v := .bool false) (by exact xr_pickF rfl rfl rfl rfl) rfl rfl rfl ?_
          refine ol_val (v := .bool false) (by exact xr_assign rfl rfl) rfl rfl rfl ?_
          refine ol_nil ?_
          obtain rfl := Option.some.inj j69
          refine thn_i ?_
          exact ⟨rfl, Fr.refl _ _⟩
      · skip
        rintro ρ83 w84 ⟨e2, q85⟩
        have fB := fB.gr q85
        refine cw_ret ?_
        repeat (first | with_reducible refine thn_r ?_ | with_reducible refine blk_r ?_)
        obtain rfl := Option.some.inj h
        refine fin_ret1 Try.results11 e2 ?_
        exact ⟨_, rfl, rfl, fB⟩
end Go.Proofs.Ytjhajfkfhdnciaa

/- What a row's arguments are: the readings of arguments opened into records, lists and their facts. -/
set_option linter.unusedVariables false
set_option linter.unusedSimpArgs false
namespace Go.Xw
open Go
variable {P : Program} {w : World}
def Opn {α : Type} (P : Program) (w : World) (T : TypeId) (K : Kd α) (ok : α → Prop) : Prop :=
  ∀ {H : Type} (enc : TypeId × Value → H) (base : Nat) (sp : Nat → Bool) (held : Bool) (fuel : Nat) (cs : List Value) (x : DataW H × List MemPlace), DataW.trod enc P w base sp held fuel T cs = some x → ∃ a : α, cs = K.enc a ∧ ok a
theorem opn_int {T : TypeId} {k : IntKind} (ht : P.underlying T = some (.int k)) : Opn P w T (kI k) (fun n => (Lit.int k n).wf = true) := by
  intro H enc base sp held fuel cs x h
  obtain ⟨n, rfl, _, hw⟩ := DataW.trod_int ht h
  exact ⟨n, rfl, hw⟩
theorem opn_bool {T : TypeId} (ht : P.underlying T = some .bool) : Opn P w T kB (fun _ => True) := by
  intro H enc base sp held fuel cs x h
  obtain ⟨b, rfl, _⟩ := DataW.trod_bool ht h
  exact ⟨b, rfl, trivial⟩
theorem opn_str {T : TypeId} (ht : P.underlying T = some .string) : Opn P w T kS (fun l => l.length ≤ maxLen) := by
  intro H enc base sp held fuel cs x h
  obtain ⟨⟨⟨l⟩⟩, rfl, _, hs⟩ := DataW.trod_string ht h
  exact ⟨l, rfl, by simpa [ByteArray.size] using hs⟩
theorem chunks {α : Type} (K : Kd α) (ok : α → Prop) : ∀ (n : Nat) (cs : List Value), cs.length = n * K.size → (∀ i, i < n → ∃ a, (cs.drop (i * K.size)).take K.size = K.enc a ∧ ok a) → ∃ l : List α, l.length = n ∧ cs = l.flatMap K.enc ∧ ∀ a ∈ l, ok a
  | 0, cs, hl, _ => ⟨[], rfl, by simpa using hl, by simp⟩
  | n + 1, cs, hl, h => by
    obtain ⟨a, ha, hok⟩ := h 0 (by omega)
    rw [Nat.zero_mul, List.drop_zero] at ha
    have hl' : cs.length = n * K.size + K.size := by rw [hl, Nat.succ_mul]
    obtain ⟨l, h1, h2, h3⟩ := chunks K ok n (cs.drop K.size) (by rw [List.length_drop]; omega) (fun i hi => by
      have := h (i + 1) (by omega)
      rw [List.drop_drop, Nat.add_comm, ← Nat.succ_mul]
      exact this)
    refine ⟨a :: l, by simp [h1], ?_, ?_⟩
    · rw [List.flatMap_cons, ← h2, ← ha, List.take_append_drop]
    · intro b hb
      rcases List.mem_cons.1 hb with rfl | hb
      · exact hok
      · exact h3 b hb
theorem ms_len {α β : Type} {f : α → Option β} : ∀ {l : List α} {ys : List β}, l.mapM f = some ys → ys.length = l.length
  | [], ys, h => by simp at h; subst h; rfl
  | a :: l, ys, h => by
    rw [List.mapM_cons] at h
    obtain ⟨b, _, h⟩ := Option.bind_eq_some_iff.1 h
    obtain ⟨bs, hb, h⟩ := Option.bind_eq_some_iff.1 h
    simp at h
    subst h
    simp [ms_len hb]
theorem ms_get {α β : Type} {f : α → Option β} : ∀ {l : List α} {ys : List β}, l.mapM f = some ys → ∀ (i : Nat) (a : α), l[i]? = some a → ∃ y, ys[i]? = some y ∧ f a = some y
  | [], ys, h, i, a, ha => by simp at ha
  | b :: l, ys, h, i, a, ha => by
    rw [List.mapM_cons] at h
    obtain ⟨c, hc, h⟩ := Option.bind_eq_some_iff.1 h
    obtain ⟨bs, hb, h⟩ := Option.bind_eq_some_iff.1 h
    simp at h
    subst h
    cases i with
    | zero =>
      simp at ha
      subst ha
      exact ⟨c, rfl, hc⟩
    | succ i =>
      simp at ha
      obtain ⟨y, h1, h2⟩ := ms_get hb i a ha
      exact ⟨y, by simpa using h1, h2⟩
theorem trod_arr {H : Type} {enc : TypeId × Value → H} {base : Nat} {sp : Nat → Bool} {held : Bool} {fuel : Nat} {T e : TypeId} {n : Nat} {cs : List Value} {x : DataW H × List MemPlace} (ht : P.underlying T = some (.array n e)) (h : DataW.trod enc P w base sp held fuel T cs = some x) :
    cs.length = P.cellsOf T ∧ ∃ m, ∀ i, i < n → ∃ y, DataW.trod enc P w base sp held m e ((cs.drop (i * P.cellsOf e)).take (P.cellsOf e)) = some y := by
  cases fuel with
  | zero => simp [DataW.trod] at h
  | succ m =>
    unfold DataW.trod at h
    rw [ht] at h
    simp only at h
    split at h
    · rename_i hl
      refine ⟨hl, m, fun i hi => ?_⟩
      obtain ⟨xs, hx, _⟩ := Option.map_eq_some_iff.1 h
      obtain ⟨y, _, hy⟩ := ms_get hx i i (by simp [hi])
      exact ⟨y, hy⟩
    · cases h
theorem opn_arr {α : Type} {K : Kd α} {ok : α → Prop} {T e : TypeId} {n : Nat} (ht : P.underlying T = some (.array n e)) (hc : P.cellsOf T = n * P.cellsOf e) (he : P.cellsOf e = K.size) (ho : Opn P w e K ok) : Opn P w T (kA n K) (fun a => ∀ x ∈ a.l, ok x) := by
  intro H enc base sp held fuel cs x h
  obtain ⟨hl, m, hm⟩ := trod_arr ht h
  obtain ⟨l, h1, h2, h3⟩ := chunks K ok n cs (by rw [hl, hc, he]) (fun i hi => by
    obtain ⟨y, hy⟩ := hm i hi
    obtain ⟨a, ha⟩ := ho enc base sp held m _ y hy
    rw [he] at ha
    exact ⟨a, ha⟩)
  exact ⟨⟨l, h1⟩, h2, h3⟩
/-- The fields of a struct, one behind another. -/
theorem fld_cons {cs : List Value} {o n : Nat} {c r : List Value} (h : (cs.drop o).take n = c) (hr : cs.drop (o + n) = r) : cs.drop o = c ++ r := by
  rw [← h, ← hr, ← List.drop_drop, List.take_append_drop]
theorem trod_st {H : Type} {enc : TypeId × Value → H} {base : Nat} {sp : Nat → Bool} {held : Bool} {fuel : Nat} {T : TypeId} {fs : Array Field} {cs : List Value} {x : DataW H × List MemPlace} (ht : P.underlying T = some (.struct fs)) (h : DataW.trod enc P w base sp held fuel T cs = some x) :
    cs.length = P.cellsOf T ∧ ∃ m, ∀ (i : Nat) (f : Field), fs[i]? = some f → ∃ y, DataW.trod enc P w base sp held m f.type ((cs.drop f.offset).take (P.cellsOf f.type)) = some y := by
  obtain ⟨xs, m, _, _, hl, hn, hf⟩ := DataW.trod_struct ht h
  refine ⟨hl, m, fun i f hi => ?_⟩
  have hx : i < xs.length := by rw [hn]; exact (Array.getElem?_eq_some_iff.1 hi).1
  exact ⟨xs[i], by rw [hf i f hi, List.getElem?_eq_getElem hx]⟩
/-- Slices: a cell that reads as a list. -/
def OpnS {α : Type} (P : Program) (w : World) (T : TypeId) (K : Kd α) (ok : α → Prop) : Prop :=
  ∀ {H : Type} (enc : TypeId × Value → H) (base : Nat) (sp : Nat → Bool) (held : Bool) (fuel : Nat) (cs : List Value) (x : DataW H × List MemPlace), DataW.trod enc P w base sp held fuel T cs = some x → ∃ (l : List α) (V : Value), cs = [V] ∧ Rd K w V l ∧ (∀ a ∈ l, ok a) ∧ l.length ≤ maxLen ∧ (sb V < w.heap.size ∨ l = [])
theorem cells_get {base : Nat} {a : Addr} {n : Nat} {cs : List Value} (h : w.cells? base a n = some cs) : cs.length = n ∧ ∀ j, j < n → w.cell? (a.add j) = cs[j]? := by
  unfold World.cells? at h
  split at h
  · refine ⟨by simpa using ms_len h, fun j hj => ?_⟩
    obtain ⟨y, h1, h2⟩ := ms_get h j j (by simp [hj])
    rw [h1, h2]
  · cases h
theorem opn_slice {α : Type} {K : Kd α} {ok : α → Prop} {T e : TypeId} (ht : P.underlying T = some (.slice e)) (he : P.cellsOf e = K.size) (hk : 0 < K.size) (ho : Opn P w e K ok) : OpnS P w T K ok := by
  intro H enc base sp held fuel cs x h
  rcases DataW.trod_slice ht h with ⟨rfl, _⟩ | ⟨a, len, cap, elems, rest, n, rfl, rfl, _, _, hl, hm, hlen, hel, _, _⟩
  · exact ⟨[], _, rfl, Rd.nil K w, by simp, by simp, .inr rfl⟩
  · have hex : ∀ i, i < len → ∃ b, (∀ j z, (K.enc b)[j]? = some z → w.cell? (a.add (i * K.size + j)) = some z) ∧ ok b := by
      intro i hi
      have h1 := hel i hi
      rw [List.getElem?_eq_getElem (by omega)] at h1
      obtain ⟨cs, h2, h3⟩ := Option.bind_eq_some_iff.1 h1
      obtain ⟨b, rfl, hb⟩ := ho enc base sp held n cs _ h3
      obtain ⟨h4, h5⟩ := cells_get h2
      rw [he] at h4 h5
      refine ⟨b, fun j z hz => ?_, hb⟩
      have hj : j < K.size := by rw [← h4]; exact (List.getElem?_eq_some_iff.1 hz).1
      have := h5 j hj
      rw [hz] at this
      rw [← this]
      congr 1
      unfold Addr.add
      by_cases hi0 : i * K.size = 0
      · by_cases hj0 : j = 0
        · simp [hi0, hj0]
        · simp [hi0, hj0]
      · by_cases hj0 : j = 0
        · simp [hi0, hj0]
        · have : i * K.size + j ≠ 0 := by omega
          simp [hi0, hj0, this, Nat.add_assoc]
    have hlist : ∀ m, m ≤ len → ∃ l : List α, l.length = m ∧ (∀ b ∈ l, ok b) ∧ ∀ j z, (l.flatMap K.enc)[j]? = some z → w.cell? (a.add j) = some z := by
      intro m
      induction m with
      | zero => intro _; exact ⟨[], rfl, by simp, by simp⟩
      | succ m ih =>
        intro hm
        obtain ⟨l, h1, h2, h3⟩ := ih (by omega)
        obtain ⟨b, h4, h5⟩ := hex m (by omega)
        refine ⟨l ++ [b], by simp [h1], ?_, ?_⟩
        · intro c hc
          rcases List.mem_append.1 hc with hc | hc
          · exact h2 c hc
          · obtain rfl := List.mem_singleton.1 hc
            exact h5
        · intro j z hz
          have hL : (l.flatMap K.enc).length = m * K.size := by rw [len_flat, h1]
          simp only [List.flatMap_append, List.flatMap_cons, List.flatMap_nil, List.append_nil] at hz
          by_cases hj : j < m * K.size
          · rw [List.getElem?_append_left (by omega)] at hz
            exact h3 j z hz
          · rw [List.getElem?_append_right (by omega), hL] at hz
            have := h4 (j - m * K.size) z hz
            rwa [show m * K.size + (j - m * K.size) = j from by omega] at this
    obtain ⟨l, h1, h2, h3⟩ := hlist len (Nat.le_refl _)
    have hpos : 0 < l.length → ∃ z, w.cell? a = some z := by
      intro hp
      cases l with
      | nil => simp at hp
      | cons b l =>
        have hb : (K.enc b).length = K.size := K.len b
        have : ∃ z, ((b :: l).flatMap K.enc)[0]? = some z := ⟨_, List.getElem?_eq_getElem (by simp [List.flatMap_cons, hb]; omega)⟩
        obtain ⟨z, hz⟩ := this
        have := h3 0 z hz
        exact ⟨z, by simpa [Addr.add] using this⟩
    refine ⟨l, _, rfl, ⟨some a, cap, by rw [h1], by omega, fun hp => ?_⟩, h2, by omega, ?_⟩
    · obtain ⟨z, hz⟩ := hpos hp
      obtain ⟨b, o, s⟩ := a
      have hs : s = none := by
        unfold World.cell? at hz
        split at hz
        · cases s with
          | none => rfl
          | some _ => simp at hz
        · cases hz
      subst hs
      refine ⟨b, o, rfl, fun j v hv => ?_⟩
      have := h3 j v hv
      rwa [Addr.add_lit] at this
    · rcases Nat.eq_zero_or_pos l.length with h0 | hp
      · exact .inr (List.eq_nil_of_length_eq_zero h0)
      · obtain ⟨z, hz⟩ := hpos hp
        refine .inl ?_
        unfold World.cell? at hz
        split at hz
        · rename_i hh
          exact (Array.getElem?_eq_some_iff.1 hh).1
        · cases hz
theorem agg_of {T : TypeId} {v : Value} {cs : List Value} {base : Nat} (h : aggB P T = some true) (hv : Value.okWide P w .any base T v) (hc : v.cells.toList = cs) : v = .agg cs.toArray := by
  unfold aggB at h
  obtain ⟨d, hu, hd⟩ := Option.map_eq_some_iff.1 h
  unfold Value.okWide at hv
  rw [hu] at hv
  cases d <;> simp at hd <;> (obtain ⟨c2, rfl, _⟩ := hv; subst hc; simp [Value.cells])
end Go.Xw

/- What the laws' arguments open into: written by rows.py. -/
set_option linter.unusedVariables false
set_option linter.unusedSimpArgs false
namespace Go.Proofs.Ytjhajfkfhdnciaa
open Go Go.Xw
def ok_api_Seat (a : S_api_Seat) : Prop := True ∧ (Lit.int .i64 a.Gen).wf = true ∧ (Lit.int .i64 a.Next).wf = true
theorem opn_api_Seat {w : World} : Opn Try.prog w 58 k_api_Seat ok_api_Seat := by
  intro H enc base sp held fuel cs x h
  obtain ⟨hl, m, hf⟩ := trod_st Try.underlying58 h
  obtain ⟨y0, h0⟩ := hf 0 _ rfl
  have c0 : Try.prog.cellsOf 4 = 1 := by kernel_rfl
  obtain ⟨b0, e0, o0⟩ := (opn_bool Try.underlying4) enc base sp held m _ y0 h0
  have e0 : (cs.drop 0).take 1 = kB.enc b0 := (congrArg (fun n => (cs.drop 0).take n) c0).symm.trans e0
  obtain ⟨y1, h1⟩ := hf 1 _ rfl
  have c1 : Try.prog.cellsOf 3 = 1 := by kernel_rfl
  obtain ⟨b1, e1, o1⟩ := (opn_int Try.underlying3) enc base sp held m _ y1 h1
  have e1 : (cs.drop 1).take 1 = (kI .i64).enc b1 := (congrArg (fun n => (cs.drop 1).take n) c1).symm.trans e1
  obtain ⟨y2, h2⟩ := hf 2 _ rfl
  have c2 : Try.prog.cellsOf 3 = 1 := by kernel_rfl
  obtain ⟨b2, e2, o2⟩ := (opn_int Try.underlying3) enc base sp held m _ y2 h2
  have e2 : (cs.drop 2).take 1 = (kI .i64).enc b2 := (congrArg (fun n => (cs.drop 2).take n) c2).symm.trans e2
  have hn : cs.drop 3 = [] := List.drop_eq_nil_of_le (by rw [hl]; exact Nat.le_of_eq (by kernel_rfl))
  have hc : cs = kB.enc b0 ++ ((kI .i64).enc b1 ++ ((kI .i64).enc b2 ++ [])) := (fld_cons (o := 0) (n := 1) e0 (fld_cons (o := 1) (n := 1) e1 (fld_cons (o := 2) (n := 1) e2 hn)))
  refine ⟨⟨b0, b1, b2⟩, ?_, o0, o1, o2⟩
  rw [hc]
  simp [kA, kI, kB, kS, kT, cellsOf, Seg.cell, Kd.seg, k_api_Seat, k_api_Leaf, segs_api_Seat, segs_api_Leaf]
def ok_api_Leaf (a : S_api_Leaf) : Prop := (∀ x ∈ a.Seats.l, ok_api_Seat x)
theorem opn_api_Leaf {w : World} : Opn Try.prog w 61 k_api_Leaf ok_api_Leaf := by
  intro H enc base sp held fuel cs x h
  obtain ⟨hl, m, hf⟩ := trod_st Try.underlying61 h
  obtain ⟨y0, h0⟩ := hf 0 _ rfl
  have c0 : Try.prog.cellsOf 59 = 21 := by kernel_rfl
  obtain ⟨b0, e0, o0⟩ := (opn_arr Try.underlying59 (by kernel_rfl) (by kernel_rfl) (opn_api_Seat (w := w))) enc base sp held m _ y0 h0
  have e0 : (cs.drop 0).take 21 = (kA 7 k_api_Seat).enc b0 := (congrArg (fun n => (cs.drop 0).take n) c0).symm.trans e0
  have hn : cs.drop 21 = [] := List.drop_eq_nil_of_le (by rw [hl]; exact Nat.le_of_eq (by kernel_rfl))
  have hc : cs = (kA 7 k_api_Seat).enc b0 ++ [] := (fld_cons (o := 0) (n := 21) e0 hn)
  refine ⟨⟨b0⟩, ?_, o0⟩
  rw [hc]
  simp [kA, kI, kB, kS, kT, cellsOf, Seg.cell, Kd.seg, k_api_Seat, k_api_Leaf, segs_api_Seat, segs_api_Leaf]
def ok_api_Fan (a : S_api_Fan) : Prop := (∀ x ∈ a.Kids.l, (Lit.int .i64 x).wf = true)
theorem opn_api_Fan {w : World} : Opn Try.prog w 73 k_api_Fan ok_api_Fan := by
  intro H enc base sp held fuel cs x h
  obtain ⟨hl, m, hf⟩ := trod_st Try.underlying73 h
  obtain ⟨y0, h0⟩ := hf 0 _ rfl
  have c0 : Try.prog.cellsOf 71 = 16 := by kernel_rfl
  obtain ⟨b0, e0, o0⟩ := (opn_arr Try.underlying71 (by kernel_rfl) (by kernel_rfl) (opn_int Try.underlying3)) enc base sp held m _ y0 h0
  have e0 : (cs.drop 0).take 16 = (kA 16 (kI .i64)).enc b0 := (congrArg (fun n => (cs.drop 0).take n) c0).symm.trans e0
  have hn : cs.drop 16 = [] := List.drop_eq_nil_of_le (by rw [hl]; exact Nat.le_of_eq (by kernel_rfl))
  have hc : cs = (kA 16 (kI .i64)).enc b0 ++ [] := (fld_cons (o := 0) (n := 16) e0 hn)
  refine ⟨⟨b0⟩, ?_, o0⟩
  rw [hc]
  simp [kA, kI, kB, kS, kT, cellsOf, Seg.cell, Kd.seg, k_api_Seat, k_api_Leaf, k_api_Fan, segs_api_Seat, segs_api_Leaf, segs_api_Fan]
def ok_api_Chart (a : S_api_Chart) : Prop := (Lit.int .i64 a.Place).wf = true ∧ (∀ x ∈ a.Bits.l, (Lit.int .u8 x).wf = true)
theorem opn_api_Chart {w : World} : Opn Try.prog w 81 k_api_Chart ok_api_Chart := by
  intro H enc base sp held fuel cs x h
  obtain ⟨hl, m, hf⟩ := trod_st Try.underlying81 h
  obtain ⟨y0, h0⟩ := hf 0 _ rfl
  have c0 : Try.prog.cellsOf 3 = 1 := by kernel_rfl
  obtain ⟨b0, e0, o0⟩ := (opn_int Try.underlying3) enc base sp held m _ y0 h0
  have e0 : (cs.drop 0).take 1 = (kI .i64).enc b0 := (congrArg (fun n => (cs.drop 0).take n) c0).symm.trans e0
  obtain ⟨y1, h1⟩ := hf 1 _ rfl
  have c1 : Try.prog.cellsOf 79 = 48 := by kernel_rfl
  obtain ⟨b1, e1, o1⟩ := (opn_arr Try.underlying79 (by kernel_rfl) (by kernel_rfl) (opn_int Try.underlying5)) enc base sp held m _ y1 h1
  have e1 : (cs.drop 1).take 48 = (kA 48 (kI .u8)).enc b1 := (congrArg (fun n => (cs.drop 1).take n) c1).symm.trans e1
  have hn : cs.drop 49 = [] := List.drop_eq_nil_of_le (by rw [hl]; exact Nat.le_of_eq (by kernel_rfl))
  have hc : cs = (kI .i64).enc b0 ++ ((kA 48 (kI .u8)).enc b1 ++ []) := (fld_cons (o := 0) (n := 1) e0 (fld_cons (o := 1) (n := 48) e1 hn))
  refine ⟨⟨b0, b1⟩, ?_, o0, o1⟩
  rw [hc]
  simp [kA, kI, kB, kS, kT, cellsOf, Seg.cell, Kd.seg, k_api_Seat, k_api_Leaf, k_api_Fan, k_api_Chart, segs_api_Seat, segs_api_Leaf, segs_api_Fan, segs_api_Chart]
end Go.Proofs.Ytjhajfkfhdnciaa

/- Plain words on the models: rounds, numbers that fit, lists. -/
set_option linter.unusedVariables false
set_option linter.unusedSimpArgs false
namespace Go.Xw
open Go
theorem w64 {n : Int} (h1 : -9223372036854775808 ≤ n) (h2 : n ≤ 9223372036854775807) : IntKind.i64.wrap n = n := by
  unfold IntKind.wrap
  simp only [IntKind.signed, IntKind.bits]
  simp
  split <;> omega
theorem wu8 {n : Int} (h1 : 0 ≤ n) (h2 : n ≤ 255) : IntKind.u8.wrap n = n := by
  unfold IntKind.wrap
  simp only [IntKind.signed, IntKind.bits]
  simp
  omega
theorem wu64 {n : Int} (h1 : 0 ≤ n) (h2 : n ≤ 18446744073709551615) : IntKind.u64.wrap n = n := by
  unfold IntKind.wrap
  simp only [IntKind.signed, IntKind.bits]
  simp
  omega
theorem wu32 {n : Int} (h1 : 0 ≤ n) (h2 : n ≤ 4294967295) : IntKind.u32.wrap n = n := by
  unfold IntKind.wrap
  simp only [IntKind.signed, IntKind.bits]
  simp
  omega
theorem wf64 {n : Int} : (Lit.int .i64 n).wf = true ↔ -9223372036854775808 ≤ n ∧ n ≤ 9223372036854775807 := by
  simp only [Lit.wf, IntKind.min, IntKind.max, IntKind.signed, IntKind.bits, Bool.and_eq_true, decide_eq_true_eq]
  simp
theorem wfu64 {n : Int} : (Lit.int .u64 n).wf = true ↔ 0 ≤ n ∧ n ≤ 18446744073709551615 := by
  simp only [Lit.wf, IntKind.min, IntKind.max, IntKind.signed, IntKind.bits, Bool.and_eq_true, decide_eq_true_eq]
  simp
theorem wf8 {n : Int} : (Lit.int .u8 n).wf = true ↔ 0 ≤ n ∧ n ≤ 255 := by
  simp only [Lit.wf, IntKind.min, IntKind.max, IntKind.signed, IntKind.bits, Bool.and_eq_true, decide_eq_true_eq]
  simp
theorem loopM_from {σ ε : Type} {step : σ → Option (Sum ε σ)} (S : Nat → σ) (n : Nat) (e : ε) (h : ∀ j, j < n → step (S j) = some (.inr (S (j + 1)))) (he : step (S n) = some (.inl e)) : ∀ k m, m ≤ n → n - m < k → loopM step k (S m) = some e
  | 0, m, _, hk => by omega
  | k + 1, m, hm, hk => by
    unfold loopM
    by_cases e1 : m = n
    · subst e1
      rw [he]
    · rw [h m (by omega)]
      exact loopM_from S n e h he k (m + 1) (by omega) (by omega)
theorem loopM_run {σ ε : Type} {step : σ → Option (Sum ε σ)} (S : Nat → σ) (n : Nat) {e : ε} {k : Nat} {s : σ} (hs : S 0 = s) (h : ∀ j, j < n → step (S j) = some (.inr (S (j + 1)))) (he : step (S n) = some (.inl e)) (hk : n < k) : loopM step k s = some e := by
  subst hs
  exact loopM_from S n e h he k 0 (by omega) (by omega)
theorem loopM_bad {σ ε : Type} {step : σ → Option (Sum ε σ)} (S : Nat → σ) (N : Nat) (good : Nat → Prop) {e : ε} {k : Nat} {s : σ} (hs : S 0 = s) (hex : ∃ j, j < N ∧ ¬ good j)
    (h : ∀ j, j < N → (∀ i, i < j → good i) → good j → step (S j) = some (.inr (S (j + 1)))) (hb : ∀ j, j < N → (∀ i, i < j → good i) → ¬ good j → step (S j) = some (.inl e)) (hk : N < k) : loopM step k s = some e := by
  have hmin : ∀ m j, j ≤ m → (j < N ∧ ¬ good j) → ∃ n, (n < N ∧ ¬ good n) ∧ ∀ i, i < n → good i := by
    intro m
    induction m with
    | zero =>
      intro j hj hjj
      exact ⟨j, hjj, fun i hi => by omega⟩
    | succ m ih =>
      intro j hj hjj
      by_cases hx : ∃ i, i < j ∧ ¬ good i
      · obtain ⟨i, hi, hgi⟩ := hx
        exact ih i (by omega) ⟨by omega, hgi⟩
      · exact ⟨j, hjj, fun i hi => Classical.byContradiction fun hg => hx ⟨i, hi, hg⟩⟩
  obtain ⟨j, hj⟩ := hex
  obtain ⟨n, ⟨hn, hg⟩, hall⟩ := hmin j j (Nat.le_refl _) hj
  exact loopM_run S n hs (fun i hi => h i (by omega) (fun q hq => hall q (by omega)) (hall i hi)) (hb n hn hall hg) (by omega)
end Go.Xw
